/-
  Functions of the program, lifted to plain data.
-/
import Derived.Great.BuildSlice
import Derived.Maps.Keyed
import Derived.WideKeyArr
import Derived.MapKept
import Derived.ChangeMaps4
import Derived.Carry
import Derived.Lib.AppendStr
import Derived.Laws.BytesString
import Derived.Lib.Builder
import Derived.Lib.UnsafeStr
import Derived.Test.YtppefogdkedaiaaP1
set_option linter.unusedVariables false
set_option linter.unusedSimpArgs false
namespace Go.AM
section
variable {P:Program} {w w':World} {I I':Nat→Prop} {β av:Nat→Option Nat} {hp hp':Nat→Option an} {C:ag} {B:Nat} {M:Nat→Prop} {w0:Start}
theorem UT (S:aF P w I β hp B M w0) {t:TypeId} {a v:Value} {xa x:V} {r:R} {rd:List Nat} (ha:ao P w I β hp a xa) (hv:ao P w I β hp v x)
  (h:(Fq P t xa x).run C hp=some (r,rd)):oJ P ((Instr.storeAt t a v).run P w) w I β hp B M w0 r:=by
 unfold Fq at h
 obtain ⟨h0,h⟩:=aG h
 simp only[aJ,aQ] at h0
 obtain ⟨ht,hn⟩:=h0
 cases xa with
 | ptr id i c=>
  obtain ⟨l,h⟩:=run_get h
  cases ab:hp id with
  | none=>rw[ab] at h;cases h
  | some blk=>
   rw[ab] at h
   cases blk with
   | dead=>cases h
   | var T0 cs=>
    obtain ⟨Ll,h⟩:=aG h
    have lI:oA P T0=true→0<c:=fun bM=>by
     rw[bM] at Ll
     simpa using Ll
    obtain ⟨b,hb,rfl⟩:=ha.gx ab (by simp)
    simp only[an.sz,Nat.mul_zero,gj]
    cases oI:(xC P t cs&&ew P t x) with
    | true=>
     dsimp only at h
     rw[oI] at h
     simp only[cond_true] at h
     obtain ⟨hc,h⟩:=aG h
     obtain rfl:=aN h
     simp only[aJ,jx] at hc oI
     obtain ⟨o1,o2⟩:=Ld hv oI.2
     have kV:=Uy oI.2
     refine Lc S ab hb ht hn (by rw[o2,kV];rfl) lI (fun j u y hu hy=> ?_) (by rw[o2];simp[o1]) (by rw[kV];simp;omega) (Lb _ _ _ _) (fun j y hy hj u hu=> ?_) (fun j y hy hj u hu=> ?_)
     ·rw[o2] at hu
      rw[kV] at hy
      cases j with
      | zero=>simp at hu hy;subst hu;subst hy;exact hv
      | succ j=>simp at hy
     ·rw[F5] at hy
      cases vb:cs[j]? with
      | none=>rw[vb] at hy;cases hy
      | some y0=>
       rw[vb] at hy
       simp only[Option.map_some,dE] at hy
       rw[kV] at hj
       simp only[List.length_singleton] at hj
       have bx:Nat.beq c (0+j)=false:=by
        cases hq:Nat.beq c (0+j) with
        | false=>rfl
        | true=>rw[aQ] at hq;omega
       rw[bx] at hy
       have:=K0 (c:=false) hv (hu y0 vb)
       rw[←hy]
       simpa using this
     ·rw[kV] at hj hu
      have UU:j=0:=by simpa using hj
      subst UU
      rw[F5] at hy
      cases vb:cs[c+0]? with
      | none=>rw[vb] at hy;cases hy
      | some y0=>
       rw[vb] at hy
       simp only[Option.map_some,dE] at hy
       have heq:Nat.beq c (0+(c+0))=true:=by rw[aQ];omega
       rw[heq] at hy
       have U:ao P w I β hp u x:=hu x rfl
       have:qR true x y0=x:=Uz x y0
       rw[←hy,this]
       exact U
    | false=>
     dsimp only at h
     rw[oI] at h
     simp only[cond_false] at h
     obtain ⟨hc,h⟩:=aG h
     simp only[aJ,dD] at hc
     obtain ⟨e1,e2⟩:=F3 hv h
     obtain ⟨h1,l2,h⟩:=B1 h (vs:=v.cells.toList) (by simpa using e1) (fun j u y a b=>e2 j u y (by simpa using a) b)
     obtain rfl:=aN h
     refine Lc S ab hb ht hn e1 lI e2 h1 hc.2 (yj _ _ _ hc.2) (fun j y hy hj u hu=> ?_) (fun j y hy hj u hu=> ?_)
     ·unfold fh at hy
      rw[mJ _ _ _ _ hc.2] at hy
      rcases hj with hj|hj
      ·rw[aj hj] at hy;exact hu y hy
      ·rw[ai (by omega),ai (by omega)] at hy;exact hu y hy
     ·unfold fh at hy
      rw[mJ _ _ _ _ hc.2,ai (by omega),aj (by omega)] at hy
      rw[show c+j-c=j by omega] at hy
      exact hu y hy
   | arr e es fz=>
    cases fz with
    | true=>cases h
    | false=>
    obtain ⟨b,hb,rfl⟩:=ha.gx ab (by simp)
    obtain ⟨au,h⟩:=aG h
    obtain ⟨⟨ys,fr⟩,l1,l2,bj,h⟩:=kf h
    obtain ⟨hc,h⟩:=aG h
    obtain ⟨x0,p5,h⟩:=kT h
    obtain rfl:=aN h
    simp only[aJ,ml,dD] at hc
    obtain ⟨dr,UW,ij⟩:=hc
    have oL:v.cells.size=x.cells.length∧∀(j:Nat) u y,v.cells.toList[j]? =some u→x.cells[j]? =some y→ao P w I β hp u y:=by
     cases x with
     | agg xs=>
      obtain ⟨cs,rfl,h1,U⟩:=hv.kg
      exact ⟨h1,fun j u y a b=>U j u y (by simpa[Value.cells] using a) b⟩
     | _=>
      simp only[V.cells] at bj ij⊢
      simp only[qQ] at bj
      obtain ⟨⟨y1,u1⟩,l3,l4,hq,bj⟩:=kf bj
      obtain ⟨q1,q2⟩:=BO S.h.rel hq hv
      obtain ⟨⟨y2,u2⟩,l5,l6,yr,bj⟩:=kf bj
      cases yr
      have:=aN bj
      cases this
      obtain ⟨tl,tg⟩:=sL ij
      have fa:=tg 0 _ y1 (bG (by rw[tl];exact Nat.one_pos)) rfl
      have bL:=q2 (il P w I β hp u1) (fun _ h=> .inl h) (fun p hp b h=> .inr ⟨p,hp,h⟩)
      have ho:=bL.pure fa
      have Gj:v.cells= #[v]:=by cases ho<;>rfl
      rw[Gj]
      refine ⟨rfl,fun j u y hu hy=> ?_⟩
      cases j with
      | zero=>simp at hu hy;subst hu;subst hy;exact hv
      | succ j=>simp at hy
    obtain ⟨k1,k2,k3⟩:=FW S.h.rel bj (vs:=v.cells.toList) (by simpa using oL.1) oL.2
    obtain ⟨pY,S1⟩:=yd S k2
    have yq:bB hp fr id=some (.arr e es false):=by
     rcases sF (hp:=hp) (l:=fr) (id:=id) with h|⟨b',hm,_⟩
     ·exact h.trans ab
     ·exfalso
      have UX:jA (fr.map (·.1)) id=true:=u4 (gk.2 ⟨_,hm,rfl⟩)
      rw[UX] at dr;cases dr
    have Lm:=k3 (il P w I β hp fr) (fun _ h=> .inl h) (fun p hp b h=> .inr ⟨p,hp,h⟩)
    obtain ⟨tl,tg⟩:=sL ij
    have uW:=(jI au).1
    have sO:ys.length=v.cells.size:=by rw[k1,oL.1]
    have hcn:c+v.cells.size≤P.cellsOf e:=by rw[oL.1];exact UW
    have hr:=S1.h.rel id _ yq
    cases hr with
    | dq aA=>simp at p5
    | @arr _ _ _ b' Ca F2 aA hh hs hf dR hx=>
     rw[hb] at aA
     cases aA
     have kW:i<es.length:=(bm.1 p5).1
     have hbound:i*P.cellsOf e+P.cellsOf e≤Ca.size:=by
      have:(i+1)*P.cellsOf e≤es.length*P.cellsOf e:=dj _ kW
      rw[c6] at this
      omega
     simp only[an.sz]
     have rk:i*P.cellsOf e+c+v.cells.size≤Ca.size:=by omega
     have cD: ¬il P w I β hp fr b:=dR rfl
     have h1: ∀u∈v.cells.toList,u.oneCell'=true:=by
      intro u hu
      obtain ⟨j,hj⟩:=qK hu
      have bW:j<ys.length:=by rw[sO];simpa using (bm.1 hj).1
      have nH:j<(((flat P e).drop c).take x.cells.length).length:=by rw[tl];exact bW
      exact (Lm j u ys[j] hj (bG bW)).one (tg j _ ys[j] (bG nH) (bG bW))
     have cJ:=F4 (t:=t) (o:=i*P.cellsOf e+c) (v:=v) ht (by rw[oL.1];exact hn.symm) hh rk h1
     have hlen:(Ca.toList.take (i*P.cellsOf e+c)++(v.cells.toList++Ca.toList.drop (i*P.cellsOf e+c+v.cells.toList.length))).length=Ca.size:=by
      rw[yj _ _ _ (by simpa using rk)];simp
     have bL:(parts P e x0).length=P.cellsOf e:=by rw[uZ];exact e9 au
     have yk:=B4 S1 (blk':= .arr e (es.set i (cg P e (fh (parts P e x0) c ys))) false)
      (Cb:=(Ca.toList.take (i*P.cellsOf e+c)++(v.cells.toList++Ca.toList.drop (i*P.cellsOf e+c+v.cells.toList.length))).toArray) yq (by simp) ⟨rfl,by simp⟩ hb cD (by simp) hh (by simpa using hlen)
      (fun hle ez=> .arr au rfl ez (by simp only[po,nn];omega) (fun h=>by cases h) (fun _=>cD) fun i' j z t' hz nH hj=>by
       simp only[mn]
       rw[mJ _ _ _ _ (by simpa using rk)]
       simp only[Array.length_toList]
       rw[List.getElem?_set] at hz
       by_cases iv:i=i'
       ·subst iv
        rw[aj rfl,aj kW] at hz
        cases hz
        have Cg:j<(parts P e x0).length:=by omega
        have sP:(fh (parts P e x0) c ys)[j]? =if j<c then (parts P e x0)[j]? else if j<c+ys.length then ys[j-c]? else (parts P e x0)[j]? :=by
         unfold fh;exact mJ _ _ _ _ (by omega)
        by_cases pT:j<c
        ·rw[aj (by omega)]
         rw[aj pT] at sP
         obtain ⟨u,t2,a1,a2,a3⟩:=BY hx au p5 (bG Cg)
         rw[nH] at a1;cases a1
         refine ⟨u,by simpa using a2,?_⟩
         rw[pU (sP.trans (bG Cg)) nH]
         exact a3.mono hle.cW hle.bV
        ·rw[ai pT] at sP
         by_cases fI:j<c+ys.length
         ·rw[aj fI] at sP
          rw[ai (by omega),aj (by omega)]
          have oM:j-c<ys.length:=by omega
          have Ln:j-c<v.cells.toList.length:=by simp;omega
          have agd:j-c<v.cells.size:=by omega
          refine ⟨v.cells.toList[j-c],?_,?_⟩
          ·rw[show i*P.cellsOf e+j-(i*P.cellsOf e+c)=j-c by omega]
           exact bG Ln
          ·rw[pU (sP.trans (bG oM)) nH]
           have UY:(((flat P e).drop c).take x.cells.length)[j-c]? =some t':=by
            rw[eE (by omega),gL,show c+(j-c)=j by omega,←rh]
            exact nH
           exact ((Lm (j-c) _ ys[j-c] (bG Ln) (bG oM)).pure (tg (j-c) t' ys[j-c] UY (bG oM))).mono hle.cW hle.bV
         ·rw[ai fI] at sP
          rw[ai (by omega),ai (by omega)]
          obtain ⟨u,t2,a1,a2,a3⟩:=BY hx au p5 (bG Cg)
          rw[nH] at a1;cases a1
          refine ⟨u,by simpa using a2,?_⟩
          rw[pU (sP.trans (bG Cg)) nH]
          exact a3.mono hle.cW hle.bV
       ·rw[ai iv] at hz
        obtain ⟨u,a2,a3⟩:=hx i' j z t' hz nH hj
        have bx:i'*P.cellsOf e+j<i*P.cellsOf e+c∨i*P.cellsOf e+c+v.cells.size≤i'*P.cellsOf e+j:=by
         rcases ov i' i with aP|oN
         ·left
          have:(i'+1)*P.cellsOf e≤i*P.cellsOf e:=dj _ aP
          rw[c6] at this
          omega
         ·right
          have:(i+1)*P.cellsOf e≤i'*P.cellsOf e:=dj _ (by omega)
          rw[c6] at this
          omega
        refine ⟨u,?_,a3.mono hle.cW hle.bV⟩
        rcases bx with bx|bx
        ·rw[aj bx];simpa using a2
        ·rw[ai (by omega),ai (by omega)];simpa using a2)
     exact ⟨_,_,_,cJ,pY.trans yk.1,yk.2,rfl⟩
   | map _ _=>cases h
   | nest e es aq=>
    obtain ⟨b,hb,rfl⟩:=ha.gx ab (by simp)
    exact Lk S ht hn hv ab hb .here h
 | cq id ver path i c=>
  obtain ⟨e0,es,aq,l,ab,h1,U,h3,h⟩:=nC h
  obtain ⟨b,b1,e1,l1,hb,cX,rfl⟩:=ha.KX ab h1 U h3
  exact Lk S ht hn hv ab hb cX h
 | _=>cases h
end
section
variable {P:Program} {w w':World} {I I':Nat→Prop} {β av:Nat→Option Nat} {hp hp':Nat→Option an} {C:ag} {B:Nat} {M:Nat→Prop} {w0:Start}
theorem Gk: ∀{ts:List TypeId} {vs:List Value} {j:Nat} {y:V},(iJ P ts vs)[j]? =some y→∃t v,ts[j]? =some t∧vs[j]? =some v∧y=oz P t v
 | [],vs,j,y,h=>by simp[iJ] at h
 | _::_,[],j,y,h=>by simp[iJ] at h
 | t::ts,v::vs,0,y,h=>by simp[iJ] at h;exact ⟨t,v,rfl,rfl,h.symm⟩
 | t::ts,v::vs,j+1,y,h=>by
  simp only[iJ,List.getElem?_cons_succ] at h
  obtain ⟨t',v',a,b,c⟩:=Gk h
  exact ⟨t',v',by simpa using a,by simpa using b,c⟩
theorem Lo: ∀{ts:List TypeId} {vs:List Value},ts.length=vs.length→(iJ P ts vs).length=vs.length
 | [],[],_=>rfl
 | [],_::_,h=>by simp at h
 | _::_,[],h=>by simp at h
 | t::ts,v::vs,h=>by simp[iJ,Lo (ts:=ts) (vs:=vs) (by simpa using h)]
theorem jL {e:TypeId} (h:cE P e=true): ∃i z,P.info? e=some i∧i.zero=some z∧i.size=P.cellsOf e∧z.cells.size=P.cellsOf e∧zeroCells P e=iJ P (flat P e) z.cells.toList:=by
 unfold cE at h
 simp only[aJ,aQ,jx] at h
 obtain ⟨h1,U,_,h3⟩:=h
 cases hi:P.info? e with
 | none=>rw[hi] at h3;cases h3
 | some i=>
  rw[hi] at h3
  simp only[Option.bind_some] at h3
  cases hz:i.zero with
  | none=>rw[hz] at h3;cases h3
  | some z=>
   rw[hz] at h3
   simp only[aQ] at h3
   exact ⟨i,z,rfl,hz,by simp[Program.cellsOf,hi],h3,by simp[zeroCells,hi,hz]⟩
theorem Lp {e:TypeId} (h:cE P e=true): ∃i z,P.info? e=some i∧i.zero=some z∧z.cells.size=(zeroCells P e).length∧z.cells.size=P.cellsOf e∧
  ∀(j:Nat) v x,z.cells[j]? =some v→(zeroCells P e)[j]? =some x→ao P w I β hp v x:=by
 obtain ⟨i,z,h1,U,h3,h4,h5⟩:=jL h
 have hl:(flat P e).length=z.cells.toList.length:=by rw[(jI h).1];simpa using h4.symm
 refine ⟨i,z,h1,U,?_,h4,fun j v x hv hx=> ?_⟩
 ·rw[h5,Lo hl];simp
 ·rw[h5] at hx
  obtain ⟨t,v',_,u0,rfl⟩:=Gk hx
  have:v'=v:=by
   have e1:z.cells[j]? =some v':=by simpa using u0
   rw[hv] at e1;exact (cR e1).symm
  subst this
  exact ao.const t v'
theorem mL {nb:Nat} {b:an} {v:V} {upd:List (Nat × an)} {r:R} {rd:List Nat} (h:(iK nb b v upd).run C hp=some (r,rd)):hp nb=none∧r=⟨v,(nb,b)::upd⟩:=by
 obtain ⟨l,h⟩:=run_get h
 cases hn:hp nb with
 | none=>rw[hn] at h;exact ⟨rfl,(aN h).symm⟩
 | some x=>rw[hn] at h;cases h
theorem Lq (S:aF P w I β hp B M w0) {nb:Nat} {xs:List V} {C0:Array Value} {T:TypeId} (hn:hp nb=none) (hs:C0.size=xs.length)
  (hx: ∀(j:Nat) v x,C0[j]? =some v→xs[j]? =some x→ao P w I β hp v x) (fH:KS P w.heap.size T C0):
  Le P w I β hp (w.alloc (.cells C0 T)) I (aI β nb (some w.heap.size)) (aI hp nb (some (.var T xs)))∧aF P (w.alloc (.cells C0 T)) I (aI β nb (some w.heap.size)) (aI hp nb (some (.var T xs))) B M w0∧
  ao P (w.alloc (.cells C0 T)) I (aI β nb (some w.heap.size)) (aI hp nb (some (.var T xs))) (.pointer (some ⟨w.heap.size,0,none⟩)) (.ptr nb 0 0):=by
 obtain ⟨h1,U⟩:=FY S (blk:= .var T xs) (c:=C0) (T:=T) hn (fun b' h=>(cR (h.flat (by simp))).symm) (fun hle ez cD=> .var rfl ez hs cD (fun j v x a b=>(hx j v x a b).mono hle) fH)
 refine ⟨h1,U,?_⟩
 have:=ao.ptr (P:=P) (w:=w.alloc (.cells C0 T)) (I:=I) (β:=aI β nb (some w.heap.size)) (hp:=aI hp nb (some (.var T xs))) (i:=0) (c:=0) (blk:= .var T xs) (cI _ _ _) (by simp) (cI _ _ _)
 simpa using this
theorem UZ (S:aF P w I β hp B M w0) {e:TypeId} {nb:Nat} {r:R} {rd:List Nat}
  (h:(Rd.aC (cE P e&&(!(oA P e)||KN (zeroCells P e))) (iK nb (.var e (zeroCells P e)) (.ptr nb 0 0) [])).run C hp=some (r,rd)):cL P ((Instr.alloc e true (.tuple #[])).run P w) w I β hp B M w0 r:=by
 obtain ⟨au,h⟩:=aG h
 rw[aJ] at au
 obtain ⟨au,lI⟩:=au
 obtain ⟨hn,rfl⟩:=mL h
 obtain ⟨i,z,h1,U,h3,h4,h5⟩:=Lp (w:=w) (I:=I) (β:=β) (hp:=hp) au
 obtain ⟨a,b,c⟩:=Lq S (T:=e) hn h3 h5 fun bM=>by
  rw[bM,pq,Bool.false_or] at lI
  cases hz:zeroCells P e with
  | nil=>rw[hz] at lI;cases lI
  | cons y l=>
   rw[hz] at lI h3 h5
   cases y<;>first|(cases lI;done)|skip
   have aP:0<z.cells.size:=by rw[h3];simp
   have:=h5 0 z.cells[0] .c7 (j4 aP) rfl
   left
   rw[j4 aP]
   generalize z.cells[0]=u at this
   cases this;rfl
 exact ⟨_,_,_,_,by simp[Instr.alloc,zeroValue,typeInfo,h1,U,newVar,newRow],a,b,c⟩
theorem U0 (S:aF P w I β hp B M w0) {e:TypeId} {nb:Nat} {x:V} {v:Value} {r:R} {rd:List Nat} (hv:ao P w I β hp v x)
  (h:(Rd.aC (!(oA P e)) <| kN x.cells (iK nb (.var e x.cells) (.ptr nb 0 0) [])).run C hp=some (r,rd)):cL P ((Instr.box e v).run P w) w I β hp B M w0 r:=by
 obtain ⟨lI,h⟩:=aG h
 obtain ⟨e1,e2⟩:=F3 hv h
 obtain ⟨_,l,h⟩:=B1 h (vs:=v.cells.toList) (by simpa using e1) (fun j u y a b=>e2 j u y (by simpa using a) b)
 obtain ⟨hn,rfl⟩:=mL h
 obtain ⟨a,b,c⟩:=Lq S (T:=e) hn e1 e2 fun bM=>by rw[bM] at lI;cases lI
 exact ⟨_,_,_,_,by simp[Instr.box,newVar,newRow],a,b,c⟩
theorem foldl_set (off:Nat): ∀(vs:List Value) (k:Nat) (cs:Array Value) (i:Nat),off+k+vs.length≤cs.size→
  ((vs.zipIdx k).foldl (fun cs p=>cs.setIfInBounds (off+p.2) p.1) cs)[i]? =if i<off+k then cs[i]? else if i<off+k+vs.length then vs[i-(off+k)]? else cs[i]?
 | [],k,cs,i,h=>by simp;intro h1 U;omega
 | v::vs,k,cs,i,h=>by
  simp only[List.zipIdx_cons,List.foldl_cons]
  simp only[List.length_cons] at h⊢
  rw[foldl_set off vs (k+1) _ i (by simp;omega)]
  by_cases h1:i<off+k
  ·rw[aj (by omega),aj h1]
   rw[Bb (by omega)]
  ·rw[ai h1]
   by_cases U:i=off+k
   ·subst U
    rw[aj (by omega),aj (by omega)]
    rw[Fm (by omega)]
    simp
   ·rw[ai (by omega)]
    by_cases h3:i<off+k+(vs.length+1)
    ·rw[aj (by omega),aj h3,show i-(off+k)=(i-(off+(k+1)))+1 by omega]
     simp
    ·rw[ai (by omega),ai h3,Bb (by omega)]
theorem Lr (off:Nat): ∀(vs:List Value) (k:Nat) (cs:Array Value),((vs.zipIdx k).foldl (fun cs p=>cs.setIfInBounds (off+p.2) p.1) cs).size=cs.size
 | [],k,cs=>rfl
 | v::vs,k,cs=>by
  simp only[List.zipIdx_cons,List.foldl_cons]
  rw[Lr off vs (k+1)]
  simp
theorem Ls {cells:Array Value} {off:Nat} {v:Value} (h:off+v.cells.size≤cells.size) (i:Nat):
  (v.cells.zipIdx.foldl (fun cs (p:Value × Nat)=>cs.setIfInBounds (off+p.2) p.1) cells)[i]? =if i<off then cells[i]? else if i<off+v.cells.size then v.cells[i-off]? else cells[i]? :=by
 have:=foldl_set off v.cells.toList 0 cells i (by simpa using h)
 rw[←Bc]
 simpa[Array.toList_zipIdx] using this
theorem Lt {cells:Array Value} {off:Nat} {v:Value}:(v.cells.zipIdx.foldl (fun cs (p:Value × Nat)=>cs.setIfInBounds (off+p.2) p.1) cells).size=cells.size:=by
 have:=Lr off v.cells.toList 0 cells
 rw[←Bc]
 simpa[Array.toList_zipIdx] using this
inductive vc (P:Program) (w:World) (I:Nat→Prop) (β:Nat→Option Nat) (hp:Nat→Option an):List (Nat × Value)→List (Nat × V)→Prop
 | nil:vc P w I β hp [] []
 | cons {i:Nat} {v:Value} {x:V} {vs:List (Nat × Value)} {xs:List (Nat × V)}:v.cells.size=x.cells.length→(∀(j:Nat) u y,v.cells[j]? =some u→x.cells[j]? =some y→ao P w I β hp u y)→
   vc P w I β hp vs xs→vc P w I β hp ((i,v)::vs) ((i,x)::xs)
theorem Lu (place:Nat→Option (Nat × Nat)): ∀{vs:List (Nat × Value)} {px:List (Nat × V)} {cells:Array Value} {xs ys:List V},vc P w I β hp vs px→cells.size=xs.length→
  (∀(j:Nat) v x,cells[j]? =some v→xs[j]? =some x→ao P w I β hp v x)→sn place xs px=some ys→
  ∃oO:Array Value,Instr.fill place cells vs=some oO∧oO.size=ys.length∧∀(j:Nat) v x,oO[j]? =some v→ys[j]? =some x→ao P w I β hp v x
 | _,_,cells,xs,ys,.nil,hs,hx,h=>by
  simp only[sn,dE] at h
  subst h
  exact ⟨cells,by simp[Instr.fill],hs,hx⟩
 | _,_,cells,xs,ys,@vc.cons _ _ _ _ _ i v x vs px h1 U h3,hs,hx,h=>by
  simp only[sn] at h
  cases bL:place i with
  | none=>rw[bL] at h;cases h
  | some os=>
   obtain ⟨off,size⟩:=os
   rw[bL] at h
   simp only at h
   cases hc:(Nat.beq x.cells.length size&&Nat.ble (off+size) xs.length) with
   | false=>rw[hc] at h;cases h
   | true=>
    rw[hc] at h
    simp only[cond_true] at h
    simp only[aJ,aQ,dD] at hc
    have hv:off+v.cells.size≤cells.size:=by omega
    have hb:off+x.cells.length≤xs.length:=by omega
    have hl:(fh xs off x.cells).length=xs.length:=yj _ _ _ hb
    obtain ⟨oO,f1,f2,f3⟩:=Lu place (cells:=v.cells.zipIdx.foldl (fun cs (p:Value × Nat)=>cs.setIfInBounds (off+p.2) p.1) cells) (xs:=fh xs off x.cells) h3 (by rw[Lt,hl,hs])
     (fun j u y hu hy=>by
      rw[Ls hv] at hu
      unfold fh at hy
      rw[mJ _ _ _ _ hb] at hy
      by_cases j1:j<off
      ·rw[aj j1] at hu hy;exact hx j u y hu hy
      ·rw[ai j1] at hu hy
       by_cases j2:j<off+x.cells.length
       ·rw[aj (by omega)] at hu
        rw[aj j2] at hy
        exact U (j-off) u y hu hy
       ·rw[ai (by omega)] at hu
        rw[ai j2] at hy
        exact hx j u y hu hy) h
    refine ⟨oO,?_,f2,f3⟩
    simp only[Instr.fill,bL]
    rw[ai (by simp;omega)]
    exact f1
theorem U1 {t:TypeId} {parts:Array (Nat × Value)} {cells:Array Value} {z:Value} {i:TypeInfo} (hi:P.info? t=some i) (hz:i.zero=some z) (h:Instr.fill (placeOf P t) z.cells parts.toList=some cells) (ha:bA P t=true)
  (bL: ∀fs,P.underlying t=some (.struct fs)→(fs.toList.mapM fun f=>(P.info? f.type).map fun i=>(f.offset,i.size)).isSome=true) (p6: ∀n e,P.underlying t=some (.array n e)→(P.info? e).isSome=true):
  (Instr.build t parts).run P w= .ok (.agg cells) w:=by
 refine run_build w t parts cells ?_
 unfold Program.built
 unfold bA at ha
 rw[hi]
 split at ha
 ·rename_i fs hu
  have:=bL fs hu
  cases hm:fs.toList.mapM fun f=>(P.info? f.type).map fun i=>(f.offset,i.size) with
  | none=>rw[hm] at this;cases this
  | some FD=>
   simp only[hu,hz,hm]
   have hq:placeOf P t=fun i=>FD[i]? :=by simp[placeOf,hu,hm]
   rw[hq] at h
   simpa using h
 ·rename_i n e hu
  have:=p6 n e hu
  cases jl:P.info? e with
  | none=>rw[jl] at this;cases this
  | some ie=>
   simp only[hu,hz,jl]
   have hq:placeOf P t=fun i=>some (i*ie.size,ie.size):=by simp[placeOf,hu,jl]
   rw[hq] at h
   exact h
 ·cases ha
theorem Lv {α:Type}: ∀(xs ys:List V) (k:Rd α),kN (xs++ys) k=kN xs (kN ys k)
 | [],_,_=>rfl
 | x::xs,ys,k=>by simp only[List.cons_append,kN,Lv xs ys k]
theorem Lw {a:Act} {sl:Nat→V} (hs:kb P w I β hp a sl) {G:Nat→V} (hg:gi P G w I) (t:TypeId) {α:Type}: ∀{l:List (Nat × Operand)} {k:Rd α} {r:α} {rd:List Nat},
  (kN ((l.map fun p=>(aO P G t sl p.2).cells).flatten) k).run C hp=some (r,rd)→
  vc P w I β hp (l.map fun p=>(p.1,a.eval p.2)) (l.map fun p=>(p.1,aO P G t sl p.2))∧∃eB,k.run C hp=some (r,eB)
 | [],k,r,rd,h=>⟨.nil,rd,h⟩
 | (i,x)::l,k,r,rd,h=>by
  simp only[cH,List.flatten_cons,Lv] at h
  obtain ⟨e1,e2⟩:=F3 (hs.ev hg t x) h
  obtain ⟨_,l1,h⟩:=B1 h (vs:=(a.eval x).cells.toList) (by simpa using e1) (fun j u y a b=>e2 j u y (by simpa using a) b)
  obtain ⟨h1,U⟩:=Lw hs hg t h
  exact ⟨.cons e1 e2 h1,U⟩
theorem U2 (S:aF P w I β hp B M w0) {a:Act} {sl:Nat→V} (hs:kb P w I β hp a sl) {G:Nat→V} (hg:gi P G w I) {t ty:TypeId} {ps:Array (Nat × Operand)} {r:R} {rd:List Nat}
  (h:(Rd.aC (cE P t&&(bA P t&&BA P t)) (kN ((ps.toList.map fun p=>(aO P G ty sl p.2).cells).flatten)
   (uH (sn (placeOf P t) (zeroCells P t) (ps.toList.map fun p=>(p.1,aO P G ty sl p.2))) fun cs=> .ret ⟨.agg cs,[]⟩))).run C hp=some (r,rd)):
  cL P ((Instr.build t (ps.map fun (i,x)=>(i,a.eval x))).run P w) w I β hp B M w0 r:=by
 obtain ⟨au,h⟩:=aG h
 simp only[aJ] at au
 obtain ⟨h1,l,h⟩:=Lw hs hg ty h
 cases hf:sn (placeOf P t) (zeroCells P t) (ps.toList.map fun p=>(p.1,aO P G ty sl p.2)) with
 | none=>rw[hf] at h;cases h
 | some cs=>
  rw[hf] at h
  obtain rfl:=aN h
  obtain ⟨i,z,hi,hz,h3,h4,h5⟩:=Lp (w:=w) (I:=I) (β:=β) (hp:=hp) au.1
  obtain ⟨cells,f1,f2,f3⟩:=Lu (placeOf P t) h1 h3 h5 hf
  have Lx:=au.2.2
  refine .same S (v:= .agg cells) (U1 hi hz (by simpa using f1) au.2.1 (fun fs hu=> ?_) (fun n e hu=> ?_)) (.agg f2 f3)
  ·simpa[BA,hu] using Lx
  ·simpa[BA,hu] using Lx
theorem U3 (cr: ∀id blk,hp id=some blk→dF P w I β hp (β id) blk) {x:V} {v:Value} {ys:List V} {fr:List (Nat × an)} {rd:List Nat} {ts:List TypeId} (hv:ao P w I β hp v x)
  (h:(qQ P x.cells).run C hp=some ((ys,fr),rd)) (ht:pz P ts ys=true):
  v.cells.size=x.cells.length∧∀(j:Nat) u y,v.cells.toList[j]? =some u→x.cells[j]? =some y→ao P w I β hp u y:=by
 cases x with
 | agg xs=>
  obtain ⟨cs,rfl,h1,U⟩:=hv.kg
  exact ⟨h1,fun j u y a b=>U j u y (by simpa[Value.cells] using a) b⟩
 | _=>
  simp only[V.cells] at h⊢
  simp only[qQ] at h
  obtain ⟨⟨y1,u1⟩,l3,l4,hq,h⟩:=kf h
  obtain ⟨q1,q2⟩:=BO cr hq hv
  obtain ⟨⟨y2,u2⟩,l5,l6,yr,h⟩:=kf h
  cases yr
  have:=aN h
  cases this
  obtain ⟨tl,tg⟩:=sL ht
  have fa:=tg 0 _ y1 (bG (by rw[tl];exact Nat.one_pos)) rfl
  have bL:=q2 (il P w I β hp u1) (fun _ h=> .inl h) (fun p hp b h=> .inr ⟨p,hp,h⟩)
  have ho:=bL.pure fa
  have Gj:v.cells= #[v]:=by cases ho<;>rfl
  rw[Gj]
  refine ⟨rfl,fun j u y hu hy=> ?_⟩
  cases j with
  | zero=>simp at hu hy;subst hu;subst hy;exact hv
  | succ j=>simp at hy
def vd (P:Program) (w:World) (I:Nat→Prop) (e:TypeId) (cells:Array Value) (es:List V):Prop:=
 cells.size=es.length*P.cellsOf e∧∀(i j:Nat) (x:V) (t':TypeId),es[i]? =some x→(aR P e)[j]? =some t'→j<P.cellsOf e→∃v,cells[i*P.cellsOf e+j]? =some v∧Pure P w I t' v (bC P e x j)
theorem vd.set {e:TypeId} {cells:Array Value} {es ys:List V} {i:Nat} {v:Value} (h:vd P w I e cells es) (hi:i<es.length) (hv:v.cells.size=P.cellsOf e) (hy:ys.length=P.cellsOf e)
  (hr: ∀(j:Nat) (t':TypeId) (u:Value) (y:V),(aR P e)[j]? =some t'→v.cells[j]? =some u→ys[j]? =some y→Pure P w I t' u y):
  vd P w I e (v.cells.zipIdx.foldl (fun cs (p:Value × Nat)=>cs.setIfInBounds (i*P.cellsOf e+p.2) p.1) cells) (es.set i (cg P e ys)):=by
 obtain ⟨h1,U⟩:=h
 have hb:i*P.cellsOf e+v.cells.size≤cells.size:=by
  have:(i+1)*P.cellsOf e≤es.length*P.cellsOf e:=dj _ hi
  rw[c6] at this
  omega
 refine ⟨by rw[Lt,nn,h1],fun i' j x t' hx ht hj=> ?_⟩
 rw[Ls hb]
 rw[List.getElem?_set] at hx
 by_cases iv:i=i'
 ·subst iv
  rw[aj rfl,aj hi] at hx
  cases hx
  rw[ai (by omega),aj (by omega),show i*P.cellsOf e+j-i*P.cellsOf e=j by omega]
  have h3:j<v.cells.size:=by omega
  have h4:j<ys.length:=by omega
  refine ⟨v.cells[j],j4 h3,?_⟩
  rw[pU (bG h4) ht]
  exact hr j t' _ _ ht (j4 h3) (bG h4)
 ·rw[ai iv] at hx
  have bx:i'*P.cellsOf e+j<i*P.cellsOf e∨i*P.cellsOf e+v.cells.size≤i'*P.cellsOf e+j:=by
   rcases ov i' i with aP|oN
   ·left
    have:(i'+1)*P.cellsOf e≤i*P.cellsOf e:=dj _ aP
    rw[c6] at this
    omega
   ·right
    have:(i+1)*P.cellsOf e≤i'*P.cellsOf e:=dj _ (by omega)
    rw[c6] at this
    omega
  rcases bx with bx|bx
  ·rw[aj bx];exact U i' j x t' hx ht hj
  ·rw[ai (by omega),ai (by omega)];exact U i' j x t' hx ht hj
theorem U4 {t':TypeId} {v:Value} (fa:ew P t' (uB (oz P t' v))=true):Pure P w I t' v (uB (oz P t' v)):=by
 have hc:=ao.const (P:=P) (w:=w) (I:=I) (β:=fun _=>none) (hp:=fun _=>none) t' v
 cases sQ:oz P t' v<;>rw[sQ] at fa hc<;>simp only[uB] at fa⊢
 case int k n=>rw[hc.dU];exact Plain.pure (v:= .int k n) (y:= .int k n) rfl fa
 case bool b=>rw[hc.jJ];exact Plain.pure (v:= .bool b) (y:= .bool b) rfl fa
 case str l=>obtain ⟨s,e1,e2⟩:=hc.lH;rw[e1];exact Plain.pure (v:= .string s) (y:= .str l) ⟨s,rfl,e2⟩ fa
 case nilS e'=>
  cases hc
  exact Plain.pure (y:= .list e' []) (ig.any fun _=>rfl) fa
 case list e' es=>
  cases hc with
  | list hp=>exact Plain.pure (y:= .list e' es) hp fa
 all_goals (unfold ew at fa;split at fa<;>simp_all)
theorem yu {e:TypeId} (h:lA P e=true): ∃i z,P.info? e=some i∧i.zero=some z∧i.size=P.cellsOf e∧z.cells.size=P.cellsOf e∧
  ∀(j:Nat) (t':TypeId),(aR P e)[j]? =some t'→j<P.cellsOf e→∃v,z.cells[j]? =some v∧Pure P w I t' v (bC P e (cg P e (ej P e)) j):=by
 unfold lA at h
 simp only[aJ] at h
 obtain ⟨i,z,h1,U,h3,h4,h5⟩:=jL h.1
 refine ⟨i,z,h1,U,h3,h4,fun j t' ht hj=> ?_⟩
 obtain ⟨tl,tg⟩:=sL h.2
 have bW:j<(ej P e).length:=by rw[←tl,(jI h.1).1];exact hj
 have hz:=bG bW
 have fa:=tg j t' _ (by rw[←rh];exact ht) hz
 refine ⟨z.cells[j],j4 (by omega),?_⟩
 rw[pU hz ht]
 have sR:(ej P e)[j]=uB (oz P t' z.cells[j]):=by
  have:(ej P e)[j]? =((zeroCells P e)[j]?).map uB:=by simp[ej]
  rw[hz] at this
  cases hc:(zeroCells P e)[j]? with
  | none=>rw[hc] at this;cases this
  | some y=>
   rw[hc] at this
   simp only[Option.map_some,dE] at this
   rw[h5] at hc
   obtain ⟨t2,v2,a1,a2,rfl⟩:=Gk hc
   have U5:t2=t':=by
    rw[←rh,ht] at a1;exact (cR a1).symm
   have pN:v2=z.cells[j]:=by
    have U6:j<z.cells.size:=by omega
    have:z.cells.toList[j]? =some z.cells[j]:=by simp[U6]
    rw[this] at a2;exact (cR a2).symm
   rw[this,U5,pN]
 rw[sR] at fa⊢
 exact U4 fa
end
section
variable {P:Program} {w w':World} {I I':Nat→Prop} {β av:Nat→Option Nat} {hp hp':Nat→Option an} {C:ag} {B:Nat} {M:Nat→Prop} {w0:Start}
theorem ve (S:aF P w I β hp B M w0) {nb cap:Nat} {e:TypeId} {es:List V} {C0:Array Value} (au:cE P e=true) (hn:hp nb=none) (hs:C0.size=cap*P.cellsOf e) (hl:es.length≤cap) (hm:cap≤maxLen)
  (hx: ∀(i j:Nat) (x:V) (t':TypeId),es[i]? =some x→(aR P e)[j]? =some t'→j<P.cellsOf e→∃v,C0[i*P.cellsOf e+j]? =some v∧Pure P w I t' v (bC P e x j)):
  Le P w I β hp (w.alloc (.cells C0 e)) I (aI β nb (some w.heap.size)) (aI hp nb (some (.arr e es false)))∧aF P (w.alloc (.cells C0 e)) I (aI β nb (some w.heap.size)) (aI hp nb (some (.arr e es false))) B M w0∧
  ao P (w.alloc (.cells C0 e)) I (aI β nb (some w.heap.size)) (aI hp nb (some (.arr e es false))) (.slice (some ⟨w.heap.size,0,none⟩) es.length cap) (.whole e nb):=by
 obtain ⟨h1,U⟩:=FY S (blk:= .arr e es false) (c:=C0) (T:=e) hn (fun b' h=>(cR (h.flat (by simp))).symm) (fun hle ez cD=> .arr au rfl ez (by rw[hs];exact dj _ hl) (fun h=>by cases h) (fun _=>cD) fun i j x t' a b c=>by
  obtain ⟨v,hv,hp⟩:=hx i j x t' a b c
  exact ⟨v,hv,hp.mono hle.cW hle.bV⟩)
 refine ⟨h1,U,.whole (cI _ _ _) (cI _ _ _) ?_ hl hm⟩
 rw[mF (heap_alloc_new w (.cells C0 e)),hs]
theorem At.only {b b':Nat} {e e':TypeId} {es aK:List V} {q:Path} (hz: ∀(i j:Nat) x t' e1 l,es[i]? =some x→(aR P e)[j]? =some t'→bC P e x j= .list e1 l→l=[])
  (h:At P w b e es q b' e' aK):q=[]∧b'=b∧e'=e∧aK=es:=by
 cases h with
 | here=>exact ⟨rfl,rfl,rfl,rfl⟩
 | step h1 U h3 h4 h5 h6=>have:=hz _ _ _ _ _ _ U h3 h5;subst this;simp at h6
theorem lG.pK {t:TypeId} {v:Value} {x:V} (h:Pure P w I t v x) (hz: ∀e1 l,x= .list e1 l→l=[]):lG P w I t v x:=by
 cases h with
 | int h=>exact .fl (by unfold fi;rw[h]) (.int h)
 | bool h=>exact .fl (by unfold fi;rw[h]) (.bool h)
 | str h hl=>exact .fl (by unfold fi;rw[h]) (.str h hl)
 | nil h=>exact .emp h fun _=>rfl
 | emp h=>exact .emp h fun h=>by cases h
 | list g hu hl _ _ _ _=>
  have:=hz _ _ rfl
  subst this
  simp at hl
  subst hl
  exact .emp hu fun h=>by cases h
theorem U7 (S:aF P w I β hp B M w0) {nb cap:Nat} {e:TypeId} {es:List V} {C0:Array Value} (au:cE P e=true) (hn:hp nb=none) (hs:C0.size=cap*P.cellsOf e) (hl:es.length≤cap) (hm:cap≤maxLen)
  (hx: ∀(i j:Nat) (x:V) (t':TypeId),es[i]? =some x→(aR P e)[j]? =some t'→j<P.cellsOf e→∃v,C0[i*P.cellsOf e+j]? =some v∧Pure P w I t' v (bC P e x j))
  (hz: ∀(i j:Nat) x t' e1 l,es[i]? =some x→(aR P e)[j]? =some t'→bC P e x j= .list e1 l→l=[]):
  Le P w I β hp (w.alloc (.cells C0 e)) I (aI β nb (some w.heap.size)) (aI hp nb (some (.nest e es [0,0,0])))∧aF P (w.alloc (.cells C0 e)) I (aI β nb (some w.heap.size)) (aI hp nb (some (.nest e es [0,0,0]))) B M w0∧
  ao P (w.alloc (.cells C0 e)) I (aI β nb (some w.heap.size)) (aI hp nb (some (.nest e es [0,0,0]))) (.slice (some ⟨w.heap.size,0,none⟩) es.length cap) (.whole e nb):=by
 obtain ⟨h1,U⟩:=FY S (blk:= .nest e es [0,0,0]) (c:=C0) (T:=e) hn (fun b' h=>by
   cases h with
   | root _ h=>exact (cR h).symm
   | row h ha=>cases h;exact (At.only hz ha).2.1)
  (fun hle ez cD=> .nest rfl (fun q b' e' aK ha=>by
   obtain ⟨rfl,rfl,rfl,rfl⟩:=At.only hz ha
   refine ⟨au,⟨C0,ez,by rw[hs];exact dj _ hl,fun i j x t' a b c=> ?_⟩,cD⟩
   obtain ⟨v,hv,hp⟩:=hx i j x t' a b c
   exact ⟨v,hv,.pK (hp.mono hle.cW hle.bV) fun e1 l h=>hz i j x t' e1 l a b h⟩)
   fun q1 q2 b' e1 b8 e2 bR a1 a2=>(At.only hz a1).1.trans (At.only hz a2).1.symm)
 refine ⟨h1,U,.eb (cI _ _ _) (cI _ _ _) ?_ hl hm⟩
 rw[mF (heap_alloc_new w (.cells C0 e)),hs]
theorem Ly (cr: ∀id blk,hp id=some blk→dF P w I β hp (β id) blk) {a:Act} {sl:Nat→V} (hs:kb P w I β hp a sl) {G:Nat→V} (hg:gi P G w I) {e:TypeId} {len:Nat}: ∀{l:List (Nat × Operand)} {ps:List (Nat × V)} {upd:List (Nat × an)} {rd:List Nat},
  (xF P e len (l.map fun p=>(p.1,aO P G e sl p.2))).run C hp=some ((ps,upd),rd)→cE P e=true→(∀p∈upd,xZ hp p)∧∀I':Nat→Prop,(∀b,I b→I' b)→(∀p∈upd,∀b,rf P w β hp p.1 b→I' b)→
   ∀(cells:Array Value) (es:List V),es.length=len→vd P w I' e cells es→∃oO,Instr.fill (fun i=>some (i*P.cellsOf e,P.cellsOf e)) cells (l.map fun p=>(p.1,a.eval p.2))=some oO∧vd P w I' e oO (xE es ps)∧(xE es ps).length=len
 | [],ps,upd,rd,h,_=>by
  cases h
  exact ⟨by simp,fun I' _ _ cells es hl he=>⟨cells,by simp[Instr.fill],he,hl⟩⟩
 | (i,x)::l,ps,upd,rd,h,au=>by
  simp only[cH,xF] at h
  obtain ⟨⟨ys,u1⟩,l1,l2,h1,h⟩:=kf h
  obtain ⟨hc,h⟩:=aG h
  obtain ⟨⟨ps',u2⟩,l3,l4,U,h⟩:=kf h
  have:=aN h
  cases this
  simp only[aJ,jx] at hc
  obtain ⟨hi,fa⟩:=hc
  obtain ⟨tl,tg⟩:=sL fa
  have u3:=hs.ev hg e x
  obtain ⟨v1,v2⟩:=U3 cr u3 h1 fa
  obtain ⟨k1,k2,k3⟩:=FW cr h1 (vs:=(a.eval x).cells.toList) (by simpa using v1) v2
  obtain ⟨m1,m2⟩:=Ly cr hs hg U au
  refine ⟨fun p hp=> ?_,fun I' i1 i2 cells es hl he=> ?_⟩
  ·rcases ei.1 hp with h|h
   ·exact k2 p h
   ·exact m1 p h
  ·have bL:=k3 I' i1 (fun p hp=>i2 p (ei.2 (.inl hp)))
   have aS:=(jI au).1
   have sO:ys.length=P.cellsOf e:=by rw[←tl,aS]
   have B5:(a.eval x).cells.size=P.cellsOf e:=by rw[v1,←k1,sO]
   have gy:=he.set (i:=i) (ys:=ys) (by omega) B5 sO (fun j t' u y ht hu hy=>by
    exact (bL j u y (by simpa using hu) hy).pure (tg j t' y (by rw[←rh];exact ht) hy))
   obtain ⟨oO,f1,f2,f3⟩:=m2 I' i1 (fun p hp=>i2 p (ei.2 (.inr hp))) _ (es.set i (cg P e ys)) (by simpa using hl) gy
   refine ⟨oO,?_,f2,f3⟩
   have hb:i*P.cellsOf e+P.cellsOf e≤cells.size:=by
    rw[he.1,hl]
    have:(i+1)*P.cellsOf e≤len*P.cellsOf e:=dj _ hi
    rw[c6] at this
    omega
   simp only[cH,Instr.fill]
   rw[ai (by simp;omega)]
   exact f1
theorem LA {z:Array Value} {n k:Nat} (hk:k<n) (hz:0<z.size):((Array.range n).map (z[· %z.size]!))[k]? =z[k %z.size]? :=by
 have hm:k %z.size<z.size:=Nat.mod_lt _ hz
 simp[hk,hm]
theorem Ch {e:TypeId} (h:lA P e=true) {i:TypeInfo} {z:Value} (hi:P.info? e=some i) (hz:i.zero=some z) (n m:Nat) (kL:n≤m):
  ∀(k j:Nat) (x:V) (t':TypeId),(List.replicate n (cg P e (ej P e)))[k]? =some x→(aR P e)[j]? =some t'→j<P.cellsOf e→
   ∃v,((Array.range (m*P.cellsOf e)).map (z.cells[· %z.cells.size]!))[k*P.cellsOf e+j]? =some v∧Pure P w I t' v (bC P e x j):=by
 intro k j x t' hx ht hj
 obtain ⟨i2,z2,h1,U,h3,h4,h5⟩:=yu (w:=w) (I:=I) h
 rw[hi] at h1;cases h1
 rw[hz] at U;cases U
 rw[List.getElem?_replicate] at hx
 split at hx
 ·rename_i hk
  cases hx
  obtain ⟨v,hv,hp⟩:=h5 j t' ht hj
  refine ⟨v,?_,hp⟩
  have hb:k*P.cellsOf e+j<m*P.cellsOf e:=by
   have:(k+1)*P.cellsOf e≤m*P.cellsOf e:=dj _ (by omega)
   rw[c6] at this
   omega
  rw[LA hb (by omega),h4,show (k*P.cellsOf e+j) %P.cellsOf e=j by rw[np,Nat.mul_add_mod];exact Nat.mod_eq_of_lt hj]
  exact hv
 ·cases hx
theorem U8 {P:Program} (w:World) (t e:TypeId) (len:Nat) (parts:Array (Nat × Value)) (cells:Array Value) (ie:TypeInfo) (z:Value)
  (hu:P.underlying t=some (.slice e)) (jl:P.info? e=some ie) (hz:ie.zero=some z) (U9: ¬len*ie.size>2^24)
  (h:Instr.fill (fun i=>some (i*ie.size,ie.size)) ((Array.range (len*ie.size)).map (z.cells[· %z.cells.size]!)) parts.toList=some cells):
  (Instr.buildSlice t len parts).run P w= .ok (.slice (some ⟨w.heap.size,0,none⟩) len len) (w.alloc (.cells cells e)):=by
 by_cases kL:len*ie.size=0
 ·have h0: ∀g:Nat→Value,(Array.range (len*ie.size)).map g= #[]:=by intro g;exact Array.eq_empty_of_size_eq_zero (by simp[kL])
  have hp: ∀(u:Array Value),(Pure.pure u:Sem (Array Value)).run P w= .ok u w:=fun _=>rfl
  rw[h0] at h
  simp only[Instr.buildSlice,Sem.run_bind,run_underlying hu,Result.andThen_ok,sizeOf,typeInfo,jl]
  have h1:(Array.range (len*ie.size)).map (fun _:Nat=>(default:Value))= #[]:=h0 _
  have hs: ¬16777216<len*ie.size:=by omega
  simp[jl,hs,kL]
  simp only[kL] at h1
  simp[h1,h,newRow]
 ·exact run_buildSlice w t e len parts cells ie z hu jl hz U9 kL h
theorem Va (S:aF P w I β hp B M w0) {a:Act} {sl:Nat→V} (hs:kb P w I β hp a sl) {G:Nat→V} (hg:gi P G w I) {t e:TypeId} {len nb:Nat} {ps:Array (Nat × Operand)} {r:R} {rd:List Nat} (hu:P.underlying t=some (.slice e))
  (h:(Rd.aC (lA P e&&Nat.ble (len*P.cellsOf e) (2^24)) ((xF P e len (ps.toList.map fun p=>(p.1,aO P G e sl p.2))).bind fun r=>
    iK nb (.arr e (xE (List.replicate len (cg P e (ej P e))) r.1) false) (.whole e nb) r.2)).run C hp=some (r,rd)):
  cL P ((Instr.buildSlice t len (ps.map fun (i,x)=>(i,a.eval x))).run P w) w I β hp B M w0 r:=by
 obtain ⟨hc,h⟩:=aG h
 simp only[aJ,dD] at hc
 obtain ⟨cF,uQ⟩:=hc
 have au:cE P e=true:=by
  unfold lA at cF;simp only[aJ] at cF;exact cF.1
 obtain ⟨⟨pv,upd⟩,l1,l2,h1,h⟩:=kf h
 obtain ⟨hn,rfl⟩:=mL h
 obtain ⟨m1,m2⟩:=Ly S.h.rel hs hg h1 au
 obtain ⟨pY,S1⟩:=yd S m1
 obtain ⟨i,z,hi,hz,h3,h4,_⟩:=yu (w:=w) (I:=I) cF
 have kS:=(jI au).2
 have h0:vd P w (il P w I β hp upd) e ((Array.range (len*P.cellsOf e)).map (z.cells[· %z.cells.size]!)) (List.replicate len (cg P e (ej P e))):=
  ⟨by simp,Ch cF hi hz len len (b7 _)⟩
 obtain ⟨cells,f1,f2,f3⟩:=m2 (il P w I β hp upd) (fun _ h=> .inl h) (fun p hp b h=> .inr ⟨p,hp,h⟩) _ _ (by simp) h0
 have jM:bB hp upd nb=none:=by
  rcases sF (hp:=hp) (l:=upd) (id:=nb) with h|⟨b',hm,_⟩
  ·exact h.trans hn
  ·obtain ⟨e1,b8,_,h5⟩:=m1 _ hm
   simp only[hn] at h5
   rcases h5 with ⟨_,h5⟩|⟨_,h5⟩<;>cases h5
 have nD:len≤maxLen:=by
  have:len*1≤len*P.cellsOf e:=sd _ kS
  simp only[maxLen]
  omega
 obtain ⟨n1,n2,n3⟩:=ve S1 (cap:=len) au jM (by rw[f2.1,f3]) (by rw[f3];exact b7 _) nD f2.2
 have cJ:=U8 w t e len (ps.map fun (i,x)=>(i,a.eval x)) cells i z hu hi hz (by rw[h3];omega) (by rw[h3];simpa using f1)
 refine ⟨_,_,_,_,cJ,pY.trans n1,n2,?_⟩
 rw[f3] at n3
 exact n3
theorem LB (S:aF P w I β hp B M w0) {t e:TypeId} {nb:Nat} {kl kc:IntKind} {n m:Int} {r:R} {rd:List Nat} (hu:P.underlying t=some (.slice e))
  (h:(Rd.aC (lA P e&&(decide (0≤n)&&(decide (n≤m)&&Nat.ble (m.toNat*P.bytesOf e) cC)))
    (iK nb (.arr e (List.replicate n.toNat (cg P e (ej P e))) false) (.whole e nb) [])).run C hp=some (r,rd)):
  cL P ((Instr.makeSlice t (.int kl n) (.int kc m)).run P w) w I β hp B M w0 r:=by
 obtain ⟨hc,h⟩:=aG h
 simp only[aJ,dD,dN] at hc
 obtain ⟨cF,h0,kL,dB⟩:=hc
 have au:cE P e=true:=by
  unfold lA at cF;simp only[aJ] at cF;exact cF.1
 obtain ⟨hn,rfl⟩:=mL h
 obtain ⟨i,z,hi,hz,h3,h4,_⟩:=yu (w:=w) (I:=I) cF
 have lK:P.bytesOf e=i.bytes:=by simp[Program.bytesOf,hi]
 have Gl:m≤9223372036854775807:=by
  have h1:m.toNat*1≤m.toNat*P.bytesOf e:=sd _ (uS au)
  simp only[cC] at dB
  omega
 have cJ:=run_make (P:=P) w t e i z hu hi hz kl kc n m h0 kL (by
  rw[lK] at dB
  simp only[cC] at dB
  have:(i.bytes:Int)*m=((m.toNat*i.bytes:Nat):Int):=by
   rw[Int.natCast_mul,Int.toNat_of_nonneg (by omega),Int.mul_comm]
  rw[this]
  omega) Gl
 have hlen:(List.replicate n.toNat (cg P e (ej P e))).length=n.toNat:=by simp
 obtain ⟨n1,n2,n3⟩:=ve S (cap:=m.toNat) (es:=List.replicate n.toNat (cg P e (ej P e))) (C0:=madeCells z.cells (m.toNat*i.size)) au hn (by rw[size_madeCells,h3]) (by rw[hlen];omega) (by simp only[maxLen];omega)
  (by rw[h3];exact Ch cF hi hz n.toNat m.toNat (by omega))
 refine ⟨_,_,_,_,cJ,n1,n2,?_⟩
 rw[hlen] at n3
 exact n3
theorem Gm: ∀{l:List V} {j:Nat} {e1:TypeId} {k:List V},xO l=true→V.nth l j= .list e1 k→k=[]
 | [],j,e1,k,_,h=>by cases j<;>cases h
 | x::l,0,e1,k,hn,h=>by
  simp only[V.nth] at h
  subst h
  cases k with
  | nil=>rfl
  | cons _ _=>cases hn
 | x::l,j+1,e1,k,hn,h=>by
  refine Gm (l:=l) (j:=j) ?_ h
  cases x with
  | list e2 k2=>
   cases k2 with
   | nil=>exact hn
   | cons _ _=>cases hn
  | _=>exact hn
theorem Vb {e:TypeId} {n:Nat} (au:cE P e=true) (h:xO (ej P e)=true):
  ∀(i j:Nat) x t' e1 l,(List.replicate n (cg P e (ej P e)))[i]? =some x→(aR P e)[j]? =some t'→bC P e x j= .list e1 l→l=[]:=by
 intro i j x t' e1 l hx ht hl
 have:=List.eq_of_mem_replicate (jc hx)
 subst this
 unfold bC cg at hl
 cases ha:bA P e with
 | true=>rw[ha] at hl;exact Gm h hl
 | false=>rw[ha] at hl;exact Gm h hl
theorem Vc (S:aF P w I β hp B M w0) {t e:TypeId} {nb:Nat} {kl kc:IntKind} {n m:Int} {r:R} {rd:List Nat} (hu:P.underlying t=some (.slice e))
  (h:(Rd.aC (lA P e&&(decide (0≤n)&&(decide (n≤m)&&Nat.ble (m.toNat*P.bytesOf e) cC)))
    (Rd.aC (xO (ej P e)) (iK nb (.nest e (List.replicate n.toNat (cg P e (ej P e))) [0,0,0]) (.whole e nb) []))).run C hp=some (r,rd)):
  cL P ((Instr.makeSlice t (.int kl n) (.int kc m)).run P w) w I β hp B M w0 r:=by
 obtain ⟨hc,h⟩:=aG h
 simp only[aJ,dD,dN] at hc
 obtain ⟨cF,h0,kL,dB⟩:=hc
 have au:cE P e=true:=by
  unfold lA at cF;simp only[aJ] at cF;exact cF.1
 obtain ⟨Vd,h⟩:=aG h
 obtain ⟨hn,rfl⟩:=mL h
 obtain ⟨i,z,hi,hz,h3,h4,_⟩:=yu (w:=w) (I:=I) cF
 have lK:P.bytesOf e=i.bytes:=by simp[Program.bytesOf,hi]
 have Gl:m≤9223372036854775807:=by
  have h1:m.toNat*1≤m.toNat*P.bytesOf e:=sd _ (uS au)
  simp only[cC] at dB
  omega
 have cJ:=run_make (P:=P) w t e i z hu hi hz kl kc n m h0 kL (by
  rw[lK] at dB
  simp only[cC] at dB
  have:(i.bytes:Int)*m=((m.toNat*i.bytes:Nat):Int):=by
   rw[Int.natCast_mul,Int.toNat_of_nonneg (by omega),Int.mul_comm]
  rw[this]
  omega) Gl
 have hlen:(List.replicate n.toNat (cg P e (ej P e))).length=n.toNat:=by simp
 obtain ⟨n1,n2,n3⟩:=U7 S (cap:=m.toNat) (es:=List.replicate n.toNat (cg P e (ej P e))) (C0:=madeCells z.cells (m.toNat*i.size)) au hn (by rw[size_madeCells,h3]) (by rw[hlen];omega) (by simp only[maxLen];omega)
  (by rw[h3];exact Ch cF hi hz n.toNat m.toNat (by omega))
  (Vb au Vd)
 refine ⟨_,_,_,_,cJ,n1,n2,?_⟩
 rw[hlen] at n3
 exact n3
theorem Pure.one {t:TypeId} {v:Value} {x:V} (h:Pure P w I t v x):v.oneCell'=true:=by cases h<;>rfl
structure Row (P:Program) (w:World) (I:Nat→Prop) (e:TypeId) (v:Value) (xs:List V) (a:Addr) (c:Nat) (news:List Value):Prop where
 val:v= .slice (some a) xs.length c
 len:news.length=xs.length*P.cellsOf e
 cell: ∀(j:Nat) u,news[j]? =some u→w.cell? (a.add j)=some u
 el: ∀(i j:Nat) (x:V) (t':TypeId),xs[i]? =some x→(aR P e)[j]? =some t'→j<P.cellsOf e→∃u,news[i*P.cellsOf e+j]? =some u∧Pure P w I t' u (bC P e x j)
theorem Row.one {e:TypeId} {v:Value} {xs:List V} {a:Addr} {c:Nat} {news:List Value} (h:Row P w I e v xs a c news) (au:cE P e=true): ∀u∈news,u.oneCell'=true:=by
 intro u hu
 obtain ⟨k,hk⟩:=qK hu
 have gZ:=(bm.1 hk).1
 have kS:=(jI au).2
 rw[h.len] at gZ
 have hi:k/P.cellsOf e<xs.length:=Nat.div_lt_of_lt_mul (by rw[np];exact gZ)
 have hj:k %P.cellsOf e<P.cellsOf e:=Nat.mod_lt _ kS
 have fT:k %P.cellsOf e<(aR P e).length:=by rw[e9 au];exact hj
 obtain ⟨u',fp,hp⟩:=h.el (k/P.cellsOf e) (k %P.cellsOf e) _ _ (bG hi) (bG fT) hj
 rw[Nat.div_add_mod'] at fp
 rw[hk] at fp
 cases fp
 exact hp.one
theorem LC {e:TypeId} {es:List V} {b:Nat} {Ca:Array Value} {off len cap o:Nat} (hh:w.heap[b]? =some (.cells Ca e (0,0))) (hs:es.length*P.cellsOf e≤Ca.size)
  (hx: ∀(i j:Nat) (x:V) (t':TypeId),es[i]? =some x→(aR P e)[j]? =some t'→j<P.cellsOf e→∃v,Ca[i*P.cellsOf e+j]? =some v∧Pure P w I t' v (bC P e x j))
  (ka:off+len≤es.length) (ho:0<len→o=off*P.cellsOf e):
  Row P w I e (.slice (some ⟨b,o,none⟩) len cap) ((es.drop off).take len) ⟨b,o,none⟩ cap ((Ca.toList.drop (off*P.cellsOf e)).take (len*P.cellsOf e)):=by
 have hlen:((es.drop off).take len).length=len:=by simp;omega
 have hb:(off+len)*P.cellsOf e≤Ca.size:=lz (dj _ ka) hs
 rw[c6] at hb
 refine ⟨by rw[hlen],by rw[hlen];simp;omega,fun j u hj=> ?_,fun i j x t' fR ht hj=> ?_⟩
 ·have bW:=(bm.1 hj).1
  have Gn:j<len*P.cellsOf e:=by
   rw[fg] at bW;omega
  have ji:0<len:=by
   rcases Nat.eq_zero_or_pos len with h|h
   ·rw[h] at Gn;simp at Gn
   ·exact h
  rw[eE Gn,gL] at hj
  rw[mI,cell?_cells hh,ho ji]
  simpa using hj
 ·have hi:i<len:=by rw[←hlen];exact (bm.1 fR).1
  rw[eE hi,gL] at fR
  obtain ⟨u,hu,hp⟩:=hx (off+i) j x t' fR ht hj
  refine ⟨u,?_,hp⟩
  have:i*P.cellsOf e+j<len*P.cellsOf e:=by
   have:(i+1)*P.cellsOf e≤len*P.cellsOf e:=dj _ hi
   rw[c6] at this
   omega
  rw[eE this,gL]
  rw[c6] at hu
  rw[←nk]
  simpa using hu
theorem Ci (cr: ∀id blk,hp id=some blk→dF P w I β hp (β id) blk) {e:TypeId} {v:Value} {x:V} {k:List V→Rd R} {r:R} {rd:List Nat} (au:cE P e=true) (hv:ao P w I β hp v x)
  (h:(qT e x k).run C hp=some (r,rd)): ∃xs,(((∃a,v= .slice a 0 0)∧xs=[])∨∃a c news,Row P w I e v xs a c news)∧∃l,(k xs).run C hp=some (r,l):=by
 cases hv with
 | list hp'=>
  obtain ⟨hc,U⟩:=aG h
  clear h
  rw[aQ] at hc
  subst hc
  cases hp' with
  | nil=>exact ⟨[],.inl ⟨⟨_,rfl⟩,rfl⟩,rd,U⟩
  | @emp a cap=>exact ⟨[],.inr ⟨a,cap,[],⟨rfl,by simp,fun j u hj=>by simp at hj,fun i j x t' hx _ _=>by simp at hx⟩⟩,rd,U⟩
  | @list b o len cap es g hl bS hI fG hx=>
   refine ⟨_,.inr ⟨⟨b,o,none⟩,cap,(List.range (len*P.cellsOf e)).map fun k=>g (k/P.cellsOf e) (k %P.cellsOf e),⟨by rw[hl],by rw[hl];simp,fun j u hj=> ?_,fun i j x t' fR ht hj=> ?_⟩⟩,rd,U⟩
   ·obtain ⟨bW,gX⟩:=bm.1 hj
    simp at bW gX
    have kS:=(jI au).2
    have hi:j/P.cellsOf e<len:=Nat.div_lt_of_lt_mul (by rw[np];exact bW)
    have fI:j %P.cellsOf e<P.cellsOf e:=Nat.mod_lt _ kS
    rw[mI,←gX]
    have:=fG (j/P.cellsOf e) (j %P.cellsOf e) hi fI
    rwa [Nat.div_add_mod'] at this
   ·have hi:i<len:=by rw[←hl];exact (bm.1 fR).1
    have hb:i*P.cellsOf e+j<len*P.cellsOf e:=by
     have:(i+1)*P.cellsOf e≤len*P.cellsOf e:=dj _ hi
     rw[c6] at this
     omega
    refine ⟨g i j,?_,hx i j x t' fR ht⟩
    have e1:(i*P.cellsOf e+j)/P.cellsOf e=i:=by
     rw[np,Nat.mul_add_div (jI au).2,Nat.div_eq_of_lt hj,Nat.add_zero]
    have e2:(i*P.cellsOf e+j) %P.cellsOf e=j:=by
     rw[np,Nat.mul_add_mod];exact Nat.mod_eq_of_lt hj
    simp[hb,e1,e2]
 | nilS=>
  obtain ⟨hc,h⟩:=aG h
  exact ⟨[],.inl ⟨⟨_,rfl⟩,rfl⟩,rd,h⟩
 | dp ab hb=>
  obtain ⟨l,h⟩:=run_get h
  simp only[ab] at h
  obtain ⟨hc,h⟩:=aG h
  exact ⟨[],.inl ⟨⟨_,rfl⟩,rfl⟩,l,h⟩
 | @whole e' id es fz b cap ab hb aS bS hm=>
  obtain ⟨l,h⟩:=run_get h
  simp only[ab] at h
  obtain ⟨hc,U⟩:=aG h
  clear h
  simp only[aJ,aQ] at hc
  obtain ⟨rfl,_⟩:=hc
  have hr:=cr _ _ ab
  cases hr with
  | dq aA=>rw[aA] at hb;cases hb
  | arr F2 aA hh hs hf dR hx=>
   rw[hb] at aA;cases aA
   have:=LC (cap:=cap) (off:=0) (len:=es.length) (o:=0) hh hs hx (by omega) (fun _=>by simp)
   exact ⟨es,.inr ⟨_,_,_,by simpa using this⟩,l,U⟩
 | fm ab hb=>
  obtain ⟨l,h⟩:=run_get h
  simp only[ab] at h
  obtain ⟨hc,h⟩:=aG h
  exact ⟨[],.inl ⟨⟨_,rfl⟩,rfl⟩,l,by simpa using h⟩
 | @sub e' id off len es fz b o cap ab hb ka bS ho=>
  obtain ⟨l,h⟩:=run_get h
  simp only[ab] at h
  obtain ⟨hc,U⟩:=aG h
  clear h
  simp only[aJ,aQ] at hc
  obtain ⟨rfl,_⟩:=hc
  have hr:=cr _ _ ab
  cases hr with
  | dq aA=>rw[aA] at hb;cases hb
  | arr F2 aA hh hs hf dR hx=>
   rw[hb] at aA;cases aA
   exact ⟨_,.inr ⟨_,_,_,LC (cap:=cap) hh hs hx ka ho⟩,l,U⟩
 | dQ ab=>
  obtain ⟨l,h⟩:=run_get h
  simp only[ab] at h
  cases h
 | fF ab=>
  obtain ⟨l,h⟩:=run_get h
  simp only[ab] at h
  cases h
 | undef=>cases h
 | int=>cases h
 | bool=>cases h
 | str=>cases h
 | agg=>cases h
 | aY=>cases h
 | c7=>cases h
 | fn=>cases h
 | pref=>cases h
 | jG=>cases h
 | ptr=>cases h
 | jf=>cases h
 | jg=>cases h
 | row=>cases h
 | cq=>cases h
 | df=>cases h
 | gV=>cases h
 | cf=>cases h
 | eb ab=>
  obtain ⟨l,h⟩:=run_get h
  simp only[ab] at h
  cases h
theorem LD {t ty e:TypeId} {i:TypeInfo} (ht:P.underlying t=some (.slice e)) (hi:P.info? e=some i) (a:Option Addr) (n cap:Nat) (x:Value) (hx: ∃a c,x= .slice a 0 c) (hn:n≤cap):
  (Builtin.append_ #[t,t] ty #[.slice a n cap,x]).run P w= .ok (.slice a n cap) w:=by
 obtain ⟨a',c,rfl⟩:=hx
 cases a' with
 | none=>cases a<;>simp[Builtin.append_,run_underlying ht,sizeOf,typeInfo,hi,Builtin.lenOf,Builtin.firstCells,hn,storeCells]
 | some a'=>cases a<;>simp[Builtin.append_,run_underlying ht,sizeOf,typeInfo,hi,Builtin.lenOf,Builtin.firstCells,hn,storeCells,loadCells,loadCellsFrom]
theorem Cj {e:TypeId} {es xs:List V} {n:Nat} {c:List Value} {news:List Value} (hn:es.length=n)
  (h1: ∀(i j:Nat) (x:V) (t':TypeId),es[i]? =some x→(aR P e)[j]? =some t'→j<P.cellsOf e→∃v,c[i*P.cellsOf e+j]? =some v∧Pure P w I t' v (bC P e x j))
  (U: ∀(i j:Nat) (x:V) (t':TypeId),xs[i]? =some x→(aR P e)[j]? =some t'→j<P.cellsOf e→∃v,news[i*P.cellsOf e+j]? =some v∧Pure P w I t' v (bC P e x j))
  (hb:n*P.cellsOf e≤c.length) (rest:List Value):
  ∀(i j:Nat) (x:V) (t':TypeId),(es++xs)[i]? =some x→(aR P e)[j]? =some t'→j<P.cellsOf e→∃v,(c.take (n*P.cellsOf e)++news++rest)[i*P.cellsOf e+j]? =some v∧Pure P w I t' v (bC P e x j):=by
 intro i j x t' hx ht hj
 have hl:(c.take (n*P.cellsOf e)).length=n*P.cellsOf e:=by simp;omega
 by_cases hi:i<n
 ·rw[hX (by omega)] at hx
  obtain ⟨v,hv,hp⟩:=h1 i j x t' hx ht hj
  have:i*P.cellsOf e+j<n*P.cellsOf e:=by
   have:(i+1)*P.cellsOf e≤n*P.cellsOf e:=dj _ hi
   rw[c6] at this
   omega
  exact ⟨v,by rw[cd,hX (by omega),eE this];exact hv,hp⟩
 ·rw[gN (by omega),hn] at hx
  obtain ⟨v,hv,hp⟩:=U (i-n) j x t' hx ht hj
  have gz:i-n<xs.length:=(bm.1 hx).1
  have e1:i*P.cellsOf e+j-n*P.cellsOf e=(i-n)*P.cellsOf e+j:=by
   rw[Nat.sub_mul]
   have:n*P.cellsOf e≤i*P.cellsOf e:=dj _ (by omega)
   omega
  have h3:(i-n)*P.cellsOf e+j<news.length:=(bm.1 hv).1
  refine ⟨v,?_,hp⟩
  have h4:n*P.cellsOf e≤i*P.cellsOf e+j:=by
   have:n*P.cellsOf e≤i*P.cellsOf e:=dj _ (by omega)
   omega
  rw[cd,gN (by omega),hl,e1,hX h3]
  exact hv
theorem Pure.drew {t:TypeId} {v:Value} {x:V} (h:Pure P w I t v x):Pure P w.drew I t v x:=Pure.mono (w:=w) (w':=w.drew) (fun _ h=>h) (fun _ _=>rfl) h
theorem Ve (w:World) (t ty e:TypeId) (i:TypeInfo) (z:Value) (ht:P.underlying t=some (.slice e)) (hi:P.info? e=some i) (hz:i.zero=some z)
  (a0:Option Addr) (a:Addr) (n c:Nat) (news:List Value) (hl:news.length=n*i.size) (Ck: ∀j v,news[j]? =some v→w.cell? (a.add j)=some v)
  (h0:0<n) (Cl:(n:Int)≤9223372036854775807) (Cm:n*i.bytes≤281474976710656):
  (Builtin.append_ #[t,t] ty #[.slice a0 0 0,.slice (some a) n c]).run P w=
   .ok (.slice (some ⟨w.heap.size,0,none⟩) n (grownCap w n 0 e)) (w.drew.alloc (.cells (news.toArray++Builtin.zeroCells z.cells (grownCap w n 0 e-n)) e)):=by
 cases a0 with
 | none=>exact run_append_nil w t ty e i z ht hi hz a n c news hl Ck h0 Cl Cm
 | some b=>
  have:=run_append_grow (P:=P) w t ty e i z ht hi hz b 0 0 [] (by simp) (by simp) a n c news hl Ck (by omega) (by omega) (by rw[gj,nextslicecap_zero h0];omega)
  simpa using this
theorem Gp (S:aF P w I β hp B M w0) {t ty e:TypeId} {nb:Nat} {x:Value} {xs:List V} (hu:P.underlying t=some (.slice e)) (au:cE P e=true) (hn:hp nb=none)
  (dB:xs.length*P.bytesOf e≤cC) {a0:Option Addr} (hx:((∃a,x= .slice a 0 0)∧xs=[])∨∃a c news,Row P w I e x xs a c news):
  ∃v w' av,(Builtin.append_ #[t,t] ty #[.slice a0 0 0,x]).run P w= .ok v w'∧Le P w I β hp w' I av (aI hp nb (some (.arr e xs false)))∧aF P w' I av (aI hp nb (some (.arr e xs false))) B M w0∧
   ao P w' I av (aI hp nb (some (.arr e xs false))) v (.whole e nb):=by
 obtain ⟨i,z,hi,hz,h3,h4,_⟩:=jL au
 have sS:=uS au
 have lK:P.bytesOf e=i.bytes:=by simp[Program.bytesOf,hi]
 have hlen:xs.length≤2^45:=by
  have:xs.length*1≤xs.length*P.bytesOf e:=sd _ sS
  simp only[cC] at dB
  omega
 have empty:xs=[]→(∃a c,x= .slice a 0 c)→∃v w' av,(Builtin.append_ #[t,t] ty #[.slice a0 0 0,x]).run P w= .ok v w'∧Le P w I β hp w' I av (aI hp nb (some (.arr e xs false)))∧aF P w' I av (aI hp nb (some (.arr e xs false))) B M w0∧
   ao P w' I av (aI hp nb (some (.arr e xs false))) v (.whole e nb):=by
  intro fU Gq
  subst fU
  obtain ⟨a1,a2⟩:=BQ S e hn
  exact ⟨_,_,_,LD hu hi a0 0 0 x Gq (b7 _),a1,a2,.dp (cI _ _ _) (cI _ _ _)⟩
 rcases hx with ⟨⟨_,rfl⟩,rfl⟩|⟨a,c,news,hr⟩
 ·exact empty rfl ⟨_,_,rfl⟩
 ·by_cases h0:xs.length=0
  ·have fU:xs=[]:=kJ h0
   refine empty fU ⟨some a,c,?_⟩
   rw[hr.val,h0]
  ·have cJ:=Ve (P:=P) w t ty e i z hu hi hz a0 a xs.length c news (by rw[hr.len,h3]) hr.cell (by omega) (by omega) (by rw[←lK];simp only[cC] at dB;omega)
   have oN:=grownCap_ge w xs.length 0 e
   have sU:grownCap w xs.length 0 e≤maxLen:=grownCap_le_maxLen w xs.length 0 e (by simp only[maxLen];omega)
   obtain ⟨n1,n2,n3⟩:=ve S.drew (nb:=nb) (cap:=grownCap w xs.length 0 e) (es:=xs) (C0:=news.toArray++Builtin.zeroCells z.cells (grownCap w xs.length 0 e-xs.length)) au hn
    (by simp only[Bd,po,size_zeroCells,h4,hr.len,←c6];congr 1;omega) oN sU
    (fun i' j y t' hy ht hj=>by
     obtain ⟨u,fp,hp⟩:=hr.el i' j y t' hy ht hj
     have aP:=(bm.1 fp).1
     refine ⟨u,?_,Pure.drew hp⟩
     rw[Array.getElem?_append_left (by simpa using aP)]
     simpa using fp)
   rw[hr.val]
   exact ⟨_,_,_,cJ,(Le.drew w I β hp).trans n1,n2,n3⟩
theorem Vf (S:aF P w I β hp B M w0) {t ty e:TypeId} {nb:Nat} {s x:Value} {sv xv:V} {r:R} {rd:List Nat} (hu:P.underlying t=some (.slice e)) (hs:ao P w I β hp s sv) (hx:ao P w I β hp x xv)
  (h:(uG P nb e sv xv).run C hp=some (r,rd)):cL P ((Builtin.append_ #[t,t] ty #[s,x]).run P w) w I β hp B M w0 r:=by
 unfold uG at h
 obtain ⟨au,h⟩:=aG h
 obtain ⟨xs,k0,l0,h⟩:=Ci S.h.rel au hx h
 cases sv with
 | nilS e'=>
  obtain ⟨hc,h⟩:=aG h
  simp only[aJ,aQ,dD] at hc
  obtain ⟨hn,rfl⟩:=mL h
  obtain ⟨a0,rfl⟩: ∃a0,s= .slice a0 0 0:=by cases hs;exact ⟨_,rfl⟩
  obtain ⟨v,w',av,a1,a2,a3,a4⟩:=Gp (ty:=ty) S hu au hn hc.2 k0
  exact ⟨v,w',I,av,a1,a2,a3,a4⟩
 | whole e' id=>
  obtain ⟨l,h⟩:=run_get h
  cases ab:hp id with
  | none=>rw[ab] at h;cases h
  | some blk=>
   rw[ab] at h
   cases blk with
   | dead=>cases h
   | var _=>cases h
   | nest _ _ _=>cases h
   | map _ _=>cases h
   | arr dk es fz=>
    cases fz with
    | true=>cases h
    | false=>
     obtain ⟨hc,h⟩:=aG h
     obtain ⟨hn,rfl⟩:=mL h
     simp only[aJ,aQ,dD] at hc
     obtain ⟨Gr,Gt,dB⟩:=hc
     subst Gr
     subst Gt
     have bx:nb≠id:=fun e=>by rw[e,ab] at hn;cases hn
     obtain ⟨k1,k2⟩:=BR S ab
     have jM:aI hp id (some an.dead) nb=none:=by rw[dS _ _ bx];exact hn
     cases hs with
     | dQ hd=>rw[ab] at hd;cases hd
     | eb hd=>rw[ab] at hd;cases hd
     | dp hd hb=>
      rw[ab] at hd
      cases hd
      simp only[List.length_nil,gj] at dB
      have Vg:((∃a,x= .slice a 0 0)∧xs=[])∨∃a c news,Row P w I e x xs a c news:=k0
      obtain ⟨v,w',av,a1,a2,a3,a4⟩:=Gp (ty:=ty) k2 hu au jM dB Vg
      exact ⟨v,w',I,av,a1,k1.trans a2,a3,a4⟩
     | @whole _ _ aK mB b cap hd hb aS bS hm=>
      rw[ab] at hd
      cases hd
      have hr:=S.h.rel id _ ab
      cases hr with
      | dq aA=>rw[aA] at hb;cases hb
      | @arr _ _ _ b' Ca _ aA hh oP hf dR lL=>
       rw[hb] at aA
       cases aA
       obtain ⟨i,z,hi,hz,h3,h4,_⟩:=jL au
       have sS:=uS au
       have lK:P.bytesOf e=i.bytes:=by simp[Program.bytesOf,hi]
       have hlen:es.length+xs.length≤2^45:=by
        have:(es.length+xs.length)*1≤(es.length+xs.length)*P.bytesOf e:=sd _ sS
        simp only[cC] at dB
        omega
       rw[mF hh] at aS
       have pQ: ∀aD blk',aI hp id (some an.dead) aD=some blk'→¬bp P w (β aD) blk' b:=by
        intro aD blk' h1 U
        by_cases iv:aD=id
        ·subst iv;rw[cI] at h1;cases h1;exact U.alive rfl
        ·rw[dS _ _ iv] at h1
         exact iv (S.h.inj aD id blk' _ b h1 ab U (.root (by simp) hb))
       have Gu:=S.h.ra id _ b ab (by simp) hb
       have room: ∀(C':Array Value) (w':World) (ys:List V),w'.heap[b]? =some (.cells C' e (0,0))→C'.size=Ca.size→(∀b',b'≠b→w'.heap[b']? =w.heap[b']?)→w.heap.size≤w'.heap.size→(w'.os=w.os∧w'.output=w.output)→ys.length≤cap→
         (∀(i j:Nat) (y:V) (t':TypeId),ys[i]? =some y→(aR P e)[j]? =some t'→j<P.cellsOf e→∃v,C'[i*P.cellsOf e+j]? =some v∧Pure P w I t' v (bC P e y j))→
         Le P w I β hp w' I (aI β nb (some b)) (aI (aI hp id (some .dead)) nb (some (.arr e ys false)))∧aF P w' I (aI β nb (some b)) (aI (aI hp id (some .dead)) nb (some (.arr e ys false))) B M w0∧
         ao P w' I (aI β nb (some b)) (aI (aI hp id (some .dead)) nb (some (.arr e ys false))) (.slice (some ⟨b,0,none⟩) ys.length cap) (.whole e nb):=by
        intro C' w' ys hC nJ Gv Vh Vi sO hy
        obtain ⟨a1,a2⟩:=ye k2 (blk:= .arr e ys false) (w':=w') jM pQ (dR rfl) (fun b' h _=>Gv b' h) Vh Vi Gu
         (fun b' h=>(cR (h.flat (by simp))).symm) (fun hle=> .arr au rfl hC (by rw[nJ,←aS];exact dj _ sO) (fun h=>by cases h) (fun _=>dR rfl) fun i j y t' a b c=>by
          obtain ⟨v,hv,hp⟩:=hy i j y t' a b c
          exact ⟨v,hv,hp.mono hle.cW hle.bV⟩)
        refine ⟨k1.trans a1,a2,.whole (cI _ _ _) (cI _ _ _) ?_ sO hm⟩
        rw[mF hC,nJ,aS]
       have same:xs=[]→(∃a c,x= .slice a 0 c)→cL P ((Builtin.append_ #[t,t] ty #[.slice (some ⟨b,0,none⟩) es.length cap,x]).run P w) w I β hp B M w0 ⟨.whole e nb,[(nb,.arr e (es++xs) false),(id,.dead)]⟩:=by
        intro fU Gq
        subst fU
        rw[dA]
        obtain ⟨a1,a2,a3⟩:=room Ca w es hh rfl (fun _ _=>rfl) (b7 _) ⟨rfl,rfl⟩ bS lL
        exact ⟨_,_,_,_,LD hu hi _ _ _ x Gq bS,a1,a2,a3⟩
       rcases k0 with ⟨⟨_,rfl⟩,rfl⟩|⟨a,c,news,ct⟩
       ·exact same rfl ⟨_,_,rfl⟩
       ·have h1:=ct.one au
        have kZ:es.length*P.cellsOf e≤Ca.toList.length:=by simpa using oP
        by_cases rp:es.length+xs.length≤cap
        ·have yv:es.length*P.cellsOf e+news.length≤Ca.size:=by rw[ct.len,←c6,←aS];exact dj _ rp
         have cJ:=run_append_room (P:=P) w t ty e i hu hi b es.length cap Ca hh a xs.length c news (by rw[ct.len,h3]) ct.cell h1 rp (by rw[h3];exact yv)
         rw[h3] at cJ
         have cF:=Cj (P:=P) (w:=w) (I:=I) (n:=es.length) (c:=Ca.toList) rfl (fun i j y t' a b c=>by
          obtain ⟨v,hv,hp⟩:=lL i j y t' a b c
          exact ⟨v,by simpa using hv,hp⟩) ct.el kZ (Ca.toList.drop (es.length*P.cellsOf e+news.length))
         obtain ⟨a1,a2,a3⟩:=room (Ca.toList.take (es.length*P.cellsOf e)++news++Ca.toList.drop (es.length*P.cellsOf e+news.length)).toArray (w.setRow b _) (es++xs)
          (setRow_heap w b Ca _ e _ hh) (by simp;omega) (fun b' aA=>setRow_other w b b' _ aA) (by simp) ⟨rfl,rfl⟩ (by simpa using rp)
          (fun i j y t' a b c=>by
           obtain ⟨v,hv,hp⟩:=cF i j y t' a b c
           exact ⟨v,by simpa using hv,hp⟩)
         rw[ct.val]
         rw[ca] at a3
         exact ⟨_,_,_,_,cJ,a1,a2,a3⟩
        ·have hold: ∀(j:Nat) v,(Ca.toList.take (es.length*P.cellsOf e))[j]? =some v→w.cell? ((⟨b,0,none⟩:Addr).add j)=some v:=by
          intro j v hj
          have bW:=(bm.1 hj).1
          have fI:j<es.length*P.cellsOf e:=by rw[fg] at bW;omega
          rw[eE fI] at hj
          rw[mI,cell?_cells hh,gj]
          simpa using hj
         have cJ:=run_append_grow (P:=P) w t ty e i z hu hi hz ⟨b,0,none⟩ es.length cap (Ca.toList.take (es.length*P.cellsOf e)) (by rw[h3];simp;omega) hold a xs.length c news (by rw[ct.len,h3]) ct.cell (by omega) (by omega)
          (growslice_fits (by omega) (by rw[←lK];simp only[cC] at dB;omega))
         have oN:=grownCap_ge w (es.length+xs.length) cap e
         have sU:grownCap w (es.length+xs.length) cap e≤maxLen:=grownCap_le_maxLen w _ cap e (by simp only[maxLen];omega)
         have cF:=Cj (P:=P) (w:=w) (I:=I) (n:=es.length) (c:=Ca.toList) rfl (fun i j y t' a b c=>by
          obtain ⟨v,hv,hp⟩:=lL i j y t' a b c
          exact ⟨v,by simpa using hv,hp⟩) ct.el kZ (Builtin.zeroCells z.cells (grownCap w (es.length+xs.length) cap e-(es.length+xs.length))).toList
         obtain ⟨n1,n2,n3⟩:=ve k2.drew (nb:=nb) (cap:=grownCap w (es.length+xs.length) cap e) (es:=es++xs)
          (C0:=(Ca.toList.take (es.length*P.cellsOf e)).toArray++news.toArray++Builtin.zeroCells z.cells (grownCap w (es.length+xs.length) cap e-(es.length+xs.length))) au jM
          (by
           have e1:(Ca.toList.take (es.length*P.cellsOf e)).length=es.length*P.cellsOf e:=by simp;omega
           simp only[Bd,po,size_zeroCells,h4,ct.len,e1,←c6];congr 1;omega) (by simpa using oN) sU
          (fun i j y t' a b c=>by
           obtain ⟨v,hv,hp⟩:=cF i j y t' a b c
           refine ⟨v,?_,Pure.drew hp⟩
           rw[←qL]
           simpa using hv)
         rw[ct.val]
         rw[ca] at n3
         exact ⟨_,_,_,_,cJ,(k1.trans (Le.drew w I β _)).trans n1,n2,n3⟩
 | _=>cases h
end
section
variable {P:Program} {w w':World} {I I':Nat→Prop} {β av:Nat→Option Nat} {hp hp':Nat→Option an} {C:ag} {B:Nat} {M:Nat→Prop} {w0:Start}
theorem run_copy_none (w:World) {dT sT ty elem:TypeId} {i:TypeInfo} (a0:Option Addr) (LF Vj:Nat) (a1:Option Addr) (LG Vk:Nat) (hu:P.underlying dT=some (.slice elem)) (hi:P.info? elem=some i) (h0:Nat.min LG LF=0):
  (Builtin.copy_ #[dT,sT] ty #[.slice a0 LF Vj,.slice a1 LG Vk]).run P w= .ok (goInt 0) w:=by
 cases a0<;>cases a1<;>simp[Builtin.copy_,run_underlying hu,Builtin.lenOf,Builtin.firstCells,sizeOf,typeInfo,hi,h0,storeCells,loadCells,loadCellsFrom]
theorem Vl (S:aF P w I β hp B M w0) {t u ty e:TypeId} {s x:Value} {sv xv:V} {r:R} {rd:List Nat} (hu:P.underlying t=some (.slice e)) (hs:ao P w I β hp s sv) (hx:ao P w I β hp x xv)
  (h:(Fy P e sv xv).run C hp=some (r,rd)):cL P ((Builtin.copy_ #[t,u] ty #[s,x]).run P w) w I β hp B M w0 r:=by
 unfold Fy at h
 obtain ⟨au,h'⟩:=aG h
 clear h
 simp only[aJ,aQ] at au
 obtain ⟨au,h1⟩:=au
 obtain ⟨xs,k0,l0,h⟩:=Ci S.h.rel au hx h'
 obtain ⟨i,z,hi,hz,aS,_⟩:=jL au
 cases sv<;>simp only at h<;>first|(cases h;done)|skip
 rename_i e' id
 obtain ⟨l,U⟩:=run_get h
 clear h
 cases ab:hp id with
 | none=>rw[ab] at U;cases U
 | some blk=>
  rw[ab] at U
  cases blk<;>simp only at U<;>first|(cases U;done)|skip
  rename_i e2 es fz
  cases fz with
  | true=>cases U
  | false=>
  obtain ⟨hc,h3⟩:=aG U
  simp only[aJ,aQ] at hc
  obtain ⟨rfl,rfl⟩:=hc
  obtain rfl:=aN h3
  have mM:min xs.length es.length=0→(Builtin.copy_ #[t,u] ty #[s,x]).run P w= .ok (goInt 0) w→cL P ((Builtin.copy_ #[t,u] ty #[s,x]).run P w) w I β hp B M w0 ⟨.int .i64 (min xs.length es.length:Nat),[(id,.arr e (xs.take es.length++es.drop xs.length) false)]⟩:=by
   intro h0 hr
   have he:xs.take es.length++es.drop xs.length=es:=by
    rcases Nat.le_total xs.length es.length with hl|hl
    ·have:xs=[]:=kJ (by omega)
     simp[this]
    ·have:es=[]:=kJ (by omega)
     simp[this]
   have fH:bB hp [(id,.arr e (xs.take es.length++es.drop xs.length) false)]=hp:=by
    rw[he];exact FI hp id _ ab
   refine ⟨goInt 0,w,I,β,hr,?_⟩
   simp only[fH,h0]
   exact ⟨Le.refl w I β hp,S,.int⟩
  cases hs with
  | dQ hd=>rw[ab] at hd;cases hd
  | eb hd=>rw[ab] at hd;cases hd
  | @dp _ _ fz a hd hb=>
   rw[ab] at hd
   cases hd
   refine mM (by simp) ?_
   rcases k0 with ⟨⟨a',rfl⟩,rfl⟩|⟨a',c,news,ct⟩
   ·exact run_copy_none w _ _ _ _ _ _ hu hi (by simp)
   ·rw[ct.val];exact run_copy_none w _ _ _ _ _ _ hu hi (by simp)
  | @whole _ _ aK mB b cap hd hb yw bS hm=>
   have en:=hd
   rw[ab] at hd
   cases hd
   rcases k0 with ⟨⟨a',rfl⟩,rfl⟩|⟨a',c,news,ct⟩
   ·exact mM (by simp) (run_copy_none w _ _ _ _ _ _ hu hi (by simp))
   have hr:=S.h.rel id _ ab
   cases hr with
   | dq aA=>rw[aA] at hb;cases hb
   | @arr _ _ _ b' Ca _ aA hh oP hf dR lL=>
    rw[hb] at aA
    cases aA
    have kX:news.length=xs.length:=by rw[ct.len,h1,mo]
    rw[h1,mo] at oP
    have kj:(news.take es.length).length=Nat.min xs.length es.length:=by
     rw[fg,kX,Nat.min_comm]
    have LH:Nat.min xs.length es.length=min xs.length es.length:=rfl
    have cJ:=run_copy_row (P:=P) w t u ty e b 0 es.length cap a' xs.length c Ca e (news.take es.length) hu (by rw[hi];simp[aS,h1]) hh kj
     (fun j v hj=>ct.cell j v (by
      have:=(bm.1 hj).1
      rw[fg] at this
      rwa [eE (by omega)] at hj)) (by rw[kj,LH];omega) (fun v hv=>ct.one au v (List.mem_of_mem_take hv))
    rw[ct.val]
    have hq:(goInt (news.take es.length).length)= .int .i64 ((min xs.length es.length:Nat):Int):=by rw[kj];rfl
    have iP:(xs.take es.length++es.drop xs.length).length=es.length:=by simp;omega
    have nJ:(Ca.toList.take 0++news.take es.length++Ca.toList.drop (0+(news.take es.length).length)).toArray.size=Ca.size:=by
     simp only[po,ca,se,fg,kj,LH]
     simp
     omega
    obtain ⟨a1,a2⟩:=B4 S (blk':= .arr e (xs.take es.length++es.drop xs.length) false) (Cb:=(Ca.toList.take 0++news.take es.length++Ca.toList.drop (0+(news.take es.length).length)).toArray) ab (by simp) ⟨rfl,iP.symm⟩ hb (dR rfl) (by simp) hh nJ
     (fun hle ez=> .arr au rfl ez (by rw[nJ,iP,h1,mo];exact oP) (fun h=>by cases h) (fun _=>dR rfl) fun i j y t' hy ht hj=>by
      rw[h1] at hj⊢
      obtain rfl:j=0:=by omega
      rw[mo,Nat.add_zero]
      have p7:=(bm.1 hy).1
      rw[iP] at p7
      by_cases bZ:i<xs.length
      ·rw[hX (by rw[fg];omega),eE p7] at hy
       obtain ⟨u',k1,k2⟩:=ct.el i 0 y t' hy ht (by omega)
       rw[h1,mo,Nat.add_zero] at k1
       refine ⟨u',?_,k2.mono hle.cW hle.bV⟩
       simp only[List.take_zero,List.nil_append,mn]
       rw[hX (by rw[fg];omega),eE p7]
       exact k1
      ·have e1:(xs.take es.length).length=xs.length:=by rw[fg];omega
       rw[gN (by omega),e1,gL,show xs.length+(i-xs.length)=i by omega] at hy
       obtain ⟨u',k1,k2⟩:=lL i 0 y t' hy ht (by omega)
       rw[h1,mo,Nat.add_zero] at k1
       refine ⟨u',?_,k2.mono hle.cW hle.bV⟩
       simp only[List.take_zero,List.nil_append,mn,gj]
       have e2:(news.take es.length).length=xs.length:=by rw[fg];omega
       rw[gN (by omega),e2,gL,show xs.length+(i-xs.length)=i by omega]
       simpa using k1)
    exact ⟨_,_,_,_,cJ,a1,a2,by rw[hq];exact .int⟩
theorem Vm (S:aF P w I β hp B M w0) {t ty e:TypeId} {x:Value} {xv:V} {r:R} {rd:List Nat} (hu:P.underlying t=some (.slice e)) (hx:ao P w I β hp x xv)
  (h:(Fx P e xv).run C hp=some (r,rd)):cL P ((Builtin.clear_ #[t] ty #[x]).run P w) w I β hp B M w0 r:=by
 unfold Fx at h
 obtain ⟨cF,h'⟩:=aG h
 clear h
 have au:cE P e=true:=by
  unfold lA at cF;simp only[aJ] at cF;exact cF.1
 obtain ⟨i,z,hi,hz,aS,yx,Vn⟩:=yu (w:=w) (I:=I) cF
 have kS:=(jI au).2
 cases xv<;>simp only at h'<;>first|(cases h';done)|skip
 rename_i e' id off len
 obtain ⟨l,U⟩:=run_get h'
 clear h'
 cases ab:hp id with
 | none=>rw[ab] at U;cases U
 | some blk=>
  rw[ab] at U
  cases blk<;>simp only at U<;>first|(cases U;done)|skip
  rename_i e2 es fz
  cases fz with
  | true=>cases U
  | false=>
  obtain ⟨hc,h3⟩:=aG U
  simp only[aJ,aQ] at hc
  obtain ⟨rfl,rfl⟩:=hc
  obtain rfl:=aN h3
  have mM:len=0→(Builtin.clear_ #[t] ty #[x]).run P w= .ok (.tuple #[]) w→cL P ((Builtin.clear_ #[t] ty #[x]).run P w) w I β hp B M w0 ⟨.aY [],[(id,.arr e (es.take off++(List.replicate len (cg P e (ej P e))++es.drop (off+len))) false)]⟩:=by
   intro h0 hr
   subst h0
   have fH:bB hp [(id,.arr e (es.take off++(List.replicate 0 (cg P e (ej P e))++es.drop (off+0))) false)]=hp:=by
    simp only[List.replicate_zero,List.nil_append,Nat.add_zero,Be]
    exact FI hp id _ ab
   refine ⟨.tuple #[],w,I,β,hr,?_⟩
   simp only[fH]
   exact ⟨Le.refl w I β hp,S,.aY rfl fun j v x hj hx=>by simp at hx⟩
  cases hx with
  | fF hd=>rw[ab] at hd;cases hd
  | @fm _ _ _ a0 hd hb=>exact mM rfl (by cases a0<;>simp[Builtin.clear_,run_underlying hu])
  | @sub _ _ _ _ aK mB b o cap hd hb ka bS ho=>
   by_cases hlen:len=0
   ·refine mM hlen ?_
    subst hlen
    simp[Builtin.clear_,run_underlying hu]
   have Vo:0<len:=by omega
   have en:=hd
   rw[ab] at hd
   cases hd
   have hr:=S.h.rel id _ ab
   cases hr with
   | dq aA=>rw[aA] at hb;cases hb
   | @arr _ _ _ b' Ca _ aA hh oP hf dR lL=>
    rw[hb] at aA
    cases aA
    have ho:=ho Vo
    subst ho
    have sR:(Builtin.zeroCells z.cells len).toList.length=len*P.cellsOf e:=by rw[Array.length_toList,size_zeroCells,yx]
    have hmul:off*P.cellsOf e+len*P.cellsOf e≤es.length*P.cellsOf e:=by rw[←c6];exact dj _ ka
    have pZ: ∀v∈(Builtin.zeroCells z.cells len).toList,v.oneCell'=true:=by
     intro v hv
     obtain ⟨k,hk⟩:=qK hv
     have gZ:=(bm.1 hk).1
     rw[sR] at gZ
     have Vp:(Builtin.zeroCells z.cells len)[k]? =z.cells[k %z.cells.size]? :=LA (z:=z.cells) (n:=len*z.cells.size) (by rw[yx];exact gZ) (by rw[yx];exact kS)
     rw[qL,Vp] at hk
     have hm:k %z.cells.size<P.cellsOf e:=by rw[yx];exact Nat.mod_lt _ kS
     have Vq:k %z.cells.size<(aR P e).length:=by rw[e9 au];exact hm
     obtain ⟨v',u0,hp'⟩:=Vn (k %z.cells.size) _ (bG Vq) hm
     rw[hk] at u0
     cases u0
     generalize bC P e (cg P e (ej P e)) (k %z.cells.size)=y at hp'
     cases hp'<;>rfl
    have bM:=run_storeCells_at P b (off*P.cellsOf e) e (Builtin.zeroCells z.cells len).toList 0 Ca w hh (by rw[sR];omega) pZ
    simp only[Nat.add_zero] at bM
    have cJ:(Builtin.clear_ #[t] ty #[.slice (some ⟨b,off*P.cellsOf e,none⟩) len cap]).run P w= .ok (.tuple #[]) (w.setRow b (Ca.toList.take (off*P.cellsOf e)++(Builtin.zeroCells z.cells len).toList++Ca.toList.drop (off*P.cellsOf e+(Builtin.zeroCells z.cells len).toList.length)).toArray):=by
     obtain ⟨n,rfl⟩: ∃n,len=n+1:=⟨len-1,by omega⟩
     simp[Builtin.clear_,run_underlying hu,zeroValue,typeInfo,hi,hz,bM]
    have iP:(es.take off++(List.replicate len (cg P e (ej P e))++es.drop (off+len))).length=es.length:=by simp;omega
    have nJ:(Ca.toList.take (off*P.cellsOf e)++(Builtin.zeroCells z.cells len).toList++Ca.toList.drop (off*P.cellsOf e+(Builtin.zeroCells z.cells len).toList.length)).toArray.size=Ca.size:=by
     simp only[po,ca,se,fg,sR,Array.length_toList]
     omega
    obtain ⟨a1,a2⟩:=B4 S (blk':= .arr e (es.take off++(List.replicate len (cg P e (ej P e))++es.drop (off+len))) false) ab (by simp) ⟨rfl,iP.symm⟩ hb (dR rfl) (by simp) hh nJ
     (fun hle ez=> .arr au rfl ez (by rw[nJ,iP];exact oP) (fun h=>by cases h) (fun _=>dR rfl) fun i' j y t' hy ht hj=>by
      have gA:=mJ es (List.replicate len (cg P e (ej P e))) off i' (by simp;omega)
      rw[sf] at gA
      rw[gA] at hy
      have hC:(Ca.toList.take (off*P.cellsOf e)++(Builtin.zeroCells z.cells len).toList++Ca.toList.drop (off*P.cellsOf e+(Builtin.zeroCells z.cells len).toList.length)).toArray[i'*P.cellsOf e+j]? =
        if i'*P.cellsOf e+j<off*P.cellsOf e then Ca.toList[i'*P.cellsOf e+j]? else if i'*P.cellsOf e+j<off*P.cellsOf e+len*P.cellsOf e then (Builtin.zeroCells z.cells len).toList[i'*P.cellsOf e+j-off*P.cellsOf e]? else Ca.toList[i'*P.cellsOf e+j]? :=by
       have:=mJ Ca.toList (Builtin.zeroCells z.cells len).toList (off*P.cellsOf e) (i'*P.cellsOf e+j) (by rw[sR,Array.length_toList];omega)
       rw[mn,cd,this,sR]
      by_cases Gw:i'<off
      ·rw[aj Gw] at hy
       have:(i'+1)*P.cellsOf e≤off*P.cellsOf e:=dj _ Gw
       rw[c6] at this
       rw[aj (by omega)] at hC
       obtain ⟨u,k1,k2⟩:=lL i' j y t' hy ht hj
       exact ⟨u,hC.trans (by simpa using k1),k2.mono hle.cW hle.bV⟩
      ·rw[ai Gw] at hy
       have h1:off*P.cellsOf e≤i'*P.cellsOf e:=dj _ (by omega)
       rw[ai (by omega)] at hC
       by_cases gz:i'<off+len
       ·rw[aj gz] at hy
        have:(i'+1)*P.cellsOf e≤(off+len)*P.cellsOf e:=dj _ gz
        rw[c6,c6] at this
        rw[aj (by omega)] at hC
        obtain ⟨v,k1,k2⟩:=Ch (w:=w) (I:=I) cF hi hz len len (b7 _) (i'-off) j y t' hy ht hj
        refine ⟨v,hC.trans ?_,k2.mono hle.cW hle.bV⟩
        rw[show i'*P.cellsOf e+j-off*P.cellsOf e=(i'-off)*P.cellsOf e+j by rw[Nat.sub_mul];omega,qL]
        unfold Builtin.zeroCells
        rw[yx] at k1⊢
        exact k1
       ·rw[ai gz] at hy
        have:(off+len)*P.cellsOf e≤i'*P.cellsOf e:=dj _ (by omega)
        rw[c6] at this
        rw[ai (by omega)] at hC
        obtain ⟨u,k1,k2⟩:=lL i' j y t' hy ht hj
        exact ⟨u,hC.trans (by simpa using k1),k2.mono hle.cW hle.bV⟩)
    exact ⟨_,_,_,_,cJ,a1,a2,.aY rfl fun j v x hj hx=>by simp at hx⟩
end
section
variable {P:Program} {w w':World} {I I':Nat→Prop} {β av:Nat→Option Nat} {hp hp':Nat→Option an} {C:ag} {B:Nat} {M:Nat→Prop} {w0:Start}
theorem Vr (S:aF P w I β hp B M w0) {s:TypeId} {f:Nat} {v:Value} {x:V} {r:R} {rd:List Nat} (hv:ao P w I β hp v x)
  (h:(FB P s f x).run C hp=some (r,rd)):cL P ((Instr.field s v f).run P w) w I β hp B M w0 r:=by
 unfold FB Bs at h
 split at h
 ·rename_i fs hu
  cases hf:fs[f]? with
  | none=>rw[hf] at h;cases h
  | some fd=>
   rw[hf] at h
   simp only[uH] at h
   obtain ⟨ht,h⟩:=aG h
   obtain ⟨d,sV⟩:=yi ht
   obtain ⟨i,hi⟩:=uY sV
   have aS:i.size=P.cellsOf fd.type:=by simp[Program.cellsOf,hi]
   cases x with
   | agg xs=>
    obtain ⟨cs,rfl,h1,U⟩:=hv.kg
    dsimp only at h
    cases ha:bA P fd.type with
    | true=>
     rw[ha] at h
     simp only[cond_true] at h
     obtain ⟨hc,h⟩:=aG h
     obtain rfl:=aN h
     rw[dD] at hc
     refine .same S (v:= .agg (cs.extract fd.offset (fd.offset+P.cellsOf fd.type))) ?_ (.agg (by simp;omega) fun j u y fp hy=> ?_)
     ·simp[Instr.field,run_underlying hu,hf,part,F0 sV,ha,asAgg,sizeOf,typeInfo,hi,aS]
     ·have hj:j<P.cellsOf fd.type:=by
       have:=(gM.1 fp).1
       simp at this;omega
      rw[eE hj,gL] at hy
      refine U (fd.offset+j) u y ?_ hy
      rw[Array.getElem?_extract] at fp
      split at fp
      ·exact fp
      ·cases fp
    | false=>
     rw[ha] at h
     simp only[cond_false] at h
     obtain ⟨y,hy,h⟩:=kT h
     obtain rfl:=aN h
     have aP:fd.offset<cs.size:=by rw[h1];exact (bm.1 hy).1
     refine .same S (v:=cs[fd.offset]) ?_ (U _ _ _ (j4 aP) hy)
     simp[Instr.field,run_underlying hu,hf,part,F0 sV,ha,asAgg,aP]
   | _=>cases h
 ·cases h
theorem Vs (S:aF P w I β hp B M w0) {i:Nat} {v:Value} {xs:List V} {r:R} {rd:List Nat} (hv:ao P w I β hp v (.aY xs))
  (h:(Rd.opt xs[i]? fun v=> .ret ⟨v,[]⟩).run C hp=some (r,rd)):cL P ((Instr.extract v i).run P w) w I β hp B M w0 r:=by
 obtain ⟨cs,rfl,h1,U⟩:=hv.sI
 obtain ⟨y,hy,h⟩:=kT h
 obtain rfl:=aN h
 have aP:i<cs.size:=by rw[h1];exact (bm.1 hy).1
 exact .same S (v:=cs[i]) (by simp[Instr.extract,aP]) (U _ _ _ (j4 aP) hy)
theorem Vt (S:aF P w I β hp B M w0) {t:TypeId} {s:ByteArray} {l:List UInt8} {k:IntKind} {i:Int} {r:R} {rd:List Nat} (hu:P.underlying t=some .string) (hs:s.data.toList=l)
  (h:(Rd.opt (bif decide (0≤i) then (l[i.toNat]?).map fun b=>V.int .u8 b.toNat else none) fun v=> .ret ⟨.int .u8 v.toInt,[]⟩).run C hp=some (r,rd)):
  cL P ((Instr.index t (.string s) (.int k i)).run P w) w I β hp B M w0 r:=by
 obtain ⟨v,hv,h⟩:=kT h
 obtain rfl:=aN h
 cases hc:decide (0≤i) with
 | false=>rw[hc] at hv;cases hv
 | true=>
  rw[hc] at hv
  simp only[cond_true] at hv
  have h0:0≤i:=by simpa using hc
  cases hb:l[i.toNat]? with
  | none=>rw[hb] at hv;cases hv
  | some b=>
   rw[hb] at hv
   simp only[Option.map_some,dE] at hv
   subst hv
   have Vu:s[i.toNat]? =some b:=by
    subst hs
    obtain ⟨aP,he⟩:=bm.1 hb
    have Gx:i.toNat<s.size:=by simpa using aP
    rw[getElem?_pos s i.toNat Gx]
    congr 1
   refine .same S (v:= .int .u8 b.toNat) ?_ .int
   simp[Instr.index,asIntOf,run_underlying hu,h0,Vu]
theorem Gy (S:aF P w I β hp B M w0) (mx:Bool): ∀{vs:List Value} {xs:List V} {v:Value} {x:V} {r:R} {rd:List Nat},ao P w I β hp v x→vs.length=xs.length→
  (∀(j:Nat) u y,vs[j]? =some u→xs[j]? =some y→ao P w I β hp u y)→(uI mx x xs).run C hp=some (r,rd)→
  cL P ((vs.foldlM (if mx then Builtin.max2 else Builtin.min2) v).run P w) w I β hp B M w0 r
 | [],[],v,x,r,rd,hv,_,_,h=>by
  have:r=⟨x,[]⟩:=by
   cases x<;>(simp only[uI] at h;exact (aN h).symm)
  subst this
  exact .same S (by simp) hv
 | [],_::_,v,x,r,rd,hv,hl,_,h=>by simp at hl
 | _::_,[],v,x,r,rd,hv,hl,_,h=>by simp at hl
 | u::vs,y::xs,v,x,r,rd,hv,hl,hx,h=>by
  cases x<;>cases y<;>simp only[uI] at h<;>first|(cases h;done)|skip
  rename_i k a k' b
  obtain ⟨hc,h4⟩:=aG h
  clear h
  obtain rfl:k=k':=by simpa using hc
  have hu:=hx 0 u _ rfl rfl
  rw[hv.dU,hu.dU]
  have ih:=Gy S mx (vs:=vs) (xs:=xs) (v:= .int k (bif mx then (if b>a then b else a) else (if b<a then b else a))) .int (by simpa using hl)
   (fun j u y h1 U=>hx (j+1) u y (by simpa using h1) (by simpa using U)) h4
  cases mx with
  | true=>simpa[List.foldlM_cons,Builtin.max2] using ih
  | false=>simpa[List.foldlM_cons,Builtin.min2] using ih
theorem p8 {n cap:Nat} {isS:Bool} {lo hi:Option V} {lov hiv:Option Value} {k:Nat→Nat→Rd R} {r:R} {rd:List Nat} (hn:n≤cap)
  (iw: ∀x,lo=some x→∃v,lov=some v∧ao P w I β hp v x) (gB: ∀x,hi=some x→∃v,hiv=some v∧ao P w I β hp v x) (mN:lo=none→lov=none) (nK:hi=none→hiv=none)
  (h:(qU n lo hi k).run C hp=some (r,rd)): ∃l u,l≤u∧u≤n∧(Instr.sliceBounds isS n cap lov hiv none).run P w= .ok (l,u,cap) w∧(k l u).run C hp=some (r,rd):=by
 have ok: ∀(kk:IntKind) (i:Int) (y:Nat) (c:BoundsCode),0≤i→i≤y→(Instr.sliceBound (.int kk i) y c).run P w= .ok i.toNat w:=by
  intro kk i y c h1 U
  simp[Instr.sliceBound,asIntOf,h1,U]
 unfold qU at h
 cases lo with
 | none=>
  rw[mN rfl]
  cases hi with
  | none=>
   rw[nK rfl]
   exact ⟨0,n,jZ _,b7 _,by simp[Instr.sliceBounds],h⟩
  | some x=>
   obtain ⟨v,rfl,hv⟩:=gB x rfl
   cases x<;>simp only at h<;>first|(cases h;done)|skip
   rename_i kk u
   obtain ⟨hc,h⟩:=aG h
   simp only[aJ,dN] at hc
   rw[hv.dU]
   have:=ok kk u cap (if isS then .sliceAcap else .sliceAlen) hc.1 (by omega)
   exact ⟨0,u.toNat,jZ _,by omega,by simp[Instr.sliceBounds,this],h⟩
 | some x=>
  obtain ⟨v,rfl,hv⟩:=iw x rfl
  cases hi with
  | none=>
   rw[nK rfl]
   cases x<;>simp only at h<;>first|(cases h;done)|skip
   rename_i kk l
   obtain ⟨hc,h⟩:=aG h
   simp only[aJ,dN] at hc
   rw[hv.dU]
   have:=ok kk l n .sliceB hc.1 (by omega)
   exact ⟨l.toNat,n,by omega,b7 _,by simp[Instr.sliceBounds,this],h⟩
  | some y=>
   obtain ⟨v2,rfl,pN⟩:=gB y rfl
   cases x<;>cases y<;>simp only at h<;>first|(cases h;done)|skip
   rename_i kk l Vv u
   obtain ⟨hc,h⟩:=aG h
   simp only[aJ,dN] at hc
   rw[hv.dU,pN.dU]
   have h1:=ok Vv u cap (if isS then .sliceAcap else .sliceAlen) (by omega) (by omega)
   have U:=ok kk l u.toNat .sliceB hc.1 (by omega)
   exact ⟨l.toNat,u.toNat,by omega,by omega,by simp[Instr.sliceBounds,h1,U],h⟩
theorem Cn {a:Option Addr} {t e:TypeId} {i:TypeInfo} (hu:P.underlying t=some (.slice e)) (hi:P.info? e=some i) {lov hiv:Option Value}
  (hb:(Instr.sliceBounds true 0 0 lov hiv none).run P w= .ok (0,0,0) w):(Instr.sliceAt t (.slice a 0 0) lov hiv none).run P w= .ok (.slice a 0 0) w:=by
 cases a<;>simp[Instr.sliceAt,Instr.slice,run_underlying hu,hb,sizeOf,typeInfo,hi]
theorem Gz {t e:TypeId} {i:TypeInfo} {b o len cap l u:Nat} (hu:P.underlying t=some (.slice e)) (hi:P.info? e=some i) {lov hiv:Option Value} (huc:u≤cap)
  (hb:(Instr.sliceBounds true len cap lov hiv none).run P w= .ok (l,u,cap) w): ∃o',(0<u-l→o'=o+l*i.size)∧(Instr.sliceAt t (.slice (some ⟨b,o,none⟩) len cap) lov hiv none).run P w= .ok (.slice (some ⟨b,o',none⟩) (u-l) (cap-l)) w:=by
 by_cases hc:cap=l
 ·subst hc
  refine ⟨o,fun h=>by omega,?_⟩
  ·simp[Instr.sliceAt,Instr.slice,run_underlying hu,hb,sizeOf,typeInfo,hi]
 ·refine ⟨o+l*i.size,fun _=>rfl,?_⟩
  simp[Instr.sliceAt,Instr.slice,run_underlying hu,hb,sizeOf,typeInfo,hi,hc,mI]
theorem Vw (s:ByteArray) (l:List UInt8) (h:s.data.toList=l) (a b:Nat):(s.extract a b).data.toList=(l.drop a).take (b-a):=by
 subst h
 simp[ByteArray.data_extract]
theorem Vx (S:aF P w I β hp B M w0) {t:TypeId} {v:Value} {x:V} {lo hi:Option V} {lov hiv:Option Value} {r:R} {rd:List Nat} (hv:ao P w I β hp v x)
  (iw: ∀x,lo=some x→∃v,lov=some v∧ao P w I β hp v x) (gB: ∀x,hi=some x→∃v,hiv=some v∧ao P w I β hp v x) (mN:lo=none→lov=none) (nK:hi=none→hiv=none)
  (h:(By P t x lo hi).run C hp=some (r,rd)):cL P ((Instr.sliceAt t v lov hiv none).run P w) w I β hp B M w0 r:=by
 unfold By at h
 cases hu:P.underlying t with
 | none=>rw[hu] at h;cases h
 | some d=>
  rw[hu] at h
  cases d<;>simp only at h<;>first|(cases h;done)|skip
  case string=>
   cases x<;>simp only at h<;>first|(cases h;done)|skip
   rename_i l
   obtain ⟨s,rfl,hs⟩:=hv.lH
   have aS:l.length=s.size:=by rw[←hs];simp
   obtain ⟨a,u,h1,U,h3,h4⟩:=p8 (isS:=false) (cap:=s.size) (by omega) iw gB mN nK h
   obtain rfl:=aN h4
   rw[aS] at h3
   refine .same S (v:= .string (s.extract a u)) ?_ (.str (Vw s l hs a u))
   simp[Instr.sliceAt,Instr.slice,run_underlying hu,h3]
  case slice e=>
   cases x<;>simp only at h<;>first|(cases h;done)|skip
   case list e' es=>
    obtain ⟨hc,h⟩:=aG h
    simp only[aJ,aQ] at hc
    obtain ⟨dr,au⟩:=hc
    obtain ⟨i,z,dH,_,aS,_⟩:=jL au
    cases hv with
    | list hp'=>
     cases hp' with
     | nil=>
      obtain ⟨a,u,h1,U,h3,h4⟩:=p8 (n:=0) (isS:=true) (cap:=0) (b7 _) iw gB mN nK h
      obtain rfl:=aN h4
      obtain rfl:u=0:=by omega
      obtain rfl:a=0:=by omega
      exact .same S (Cn hu dH h3) (by simpa using ao.list ig.nil)
     | @emp ad cap=>
      obtain ⟨a,u,h1,U,h3,h4⟩:=p8 (n:=0) (isS:=true) (cap:=cap) (jZ _) iw gB mN nK h
      obtain rfl:=aN h4
      obtain rfl:u=0:=by omega
      obtain rfl:a=0:=by omega
      refine .same S (v:= .slice (some ad) 0 cap) ?_ (by simpa using ao.list ig.emp)
      by_cases hc:cap=0
      ·subst hc
       simp[Instr.sliceAt,Instr.slice,run_underlying hu,h3,sizeOf,typeInfo,dH]
      ·simp[Instr.sliceAt,Instr.slice,run_underlying hu,h3,sizeOf,typeInfo,dH,hc,Addr.add]
     | @list b o len cap _ g hl bS hI fG hx=>
      obtain ⟨a,u,h1,U,h3,h4⟩:=p8 (isS:=true) (cap:=cap) (by omega) iw gB mN nK h
      obtain rfl:=aN h4
      rw[hl] at U h3
      obtain ⟨o',iO,cJ⟩:=Gz (b:=b) (o:=o) hu dH (by omega) h3
      have fV:e=e':=dr
      refine .same S cJ (.list ?_)
      rw[←fV]
      rw[←fV] at fG hx hI
      have hlen:((es.drop a).take (u-a)).length=u-a:=by simp;omega
      refine .list (fun i j=>g (a+i) j) hlen (by omega) (fun h=>hI (qH h (dj _ (by omega)))) (fun i j hi hj=> ?_) (fun i j y t' hy ht=> ?_)
      ·have:=fG (a+i) j (by omega) hj
       rw[c6,nk,←nk o] at this
       rw[iO (by omega),aS]
       exact this
      ·have hi:i<u-a:=by rw[←hlen];exact (bm.1 hy).1
       rw[eE hi,gL] at hy
       exact hx (a+i) j y t' hy ht
   case whole e' id=>
    obtain ⟨l,h⟩:=run_get h
    cases ab:hp id with
    | none=>rw[ab] at h;cases h
    | some blk=>
     rw[ab] at h
     cases blk<;>simp only at h<;>first|(cases h;done)|skip
     rename_i dk es fz
     obtain ⟨hc,h9⟩:=aG h
     clear h
     simp only[aJ,aQ] at hc
     obtain ⟨dr,ij,au⟩:=hc
     obtain ⟨i,z,dH,_,aS,_⟩:=jL au
     cases hv with
     | dQ hd=>rw[ab] at hd;cases hd
     | eb hd=>rw[ab] at hd;cases hd
     | dp hd hb=>
      rw[ab] at hd
      cases hd
      obtain ⟨a,u,h1,U,h3,h4⟩:=p8 (n:=0) (isS:=true) (cap:=0) (b7 _) iw gB mN nK h9
      obtain rfl:=aN h4
      obtain rfl:u=0:=by omega
      obtain rfl:a=0:=by omega
      exact .same S (Cn hu dH h3) (.fm ab hb)
     | @whole _ _ aK mB b cap hd hb yw bS hm=>
      have en:=hd
      rw[ab] at hd
      cases hd
      obtain ⟨a,u,h1,U,h3,h4⟩:=p8 (isS:=true) (cap:=cap) bS iw gB mN nK h9
      obtain rfl:=aN h4
      obtain ⟨o',iO,cJ⟩:=Gz (b:=b) (o:=0) hu dH (by omega) h3
      have fV:e=e':=dr
      exact .same S cJ (.sub en hb (by omega) (by omega) (fun h=>by rw[iO h,aS,fV,gj]))
   case sub e' id off len=>
    obtain ⟨l,h⟩:=run_get h
    cases ab:hp id with
    | none=>rw[ab] at h;cases h
    | some blk=>
     rw[ab] at h
     cases blk<;>simp only at h<;>first|(cases h;done)|skip
     rename_i dk es fz
     obtain ⟨hc,h⟩:=aG h
     simp only[aJ,aQ] at hc
     obtain ⟨dr,ij,au⟩:=hc
     obtain ⟨i,z,dH,_,aS,_⟩:=jL au
     cases hv with
     | fF hd=>rw[ab] at hd;cases hd
     | fm hd hb=>
      have en:=hd
      obtain ⟨a,u,h1,U,h3,h4⟩:=p8 (isS:=true) (cap:=0) (b7 _) iw gB mN nK h
      obtain rfl:=aN h4
      obtain rfl:u=0:=by omega
      obtain rfl:a=0:=by omega
      exact .same S (Cn hu dH h3) (.fm en hb)
     | @sub _ _ _ _ aK mB b o cap hd hb ka bS ho=>
      have en:=hd
      obtain ⟨a,u,h1,U,h3,h4⟩:=p8 (isS:=true) (cap:=cap) bS iw gB mN nK h
      obtain rfl:=aN h4
      obtain ⟨o',iO,cJ⟩:=Gz (b:=b) (o:=o) hu dH (by omega) h3
      have fV:e=e':=dr
      exact .same S cJ (.sub en hb (by omega) (by omega) (fun h=>by rw[iO h,aS,ho (by omega),fV,c6]))
theorem Vy (S:aF P w I β hp B M w0) {t:TypeId} {v:Value} {x:V} {lo hi mx:Option V} {lov hiv LI:Option Value} {r:R} {rd:List Nat} (hv:ao P w I β hp v x)
  (iw:lo=none→lov=none) (gB: ∀y,hi=some y→∃u,hiv=some u∧ao P w I β hp u y) (nD: ∀y,mx=some y→∃u,LI=some u∧ao P w I β hp u y)
  (h:(Fz P t x lo hi mx).run C hp=some (r,rd)):cL P ((Instr.sliceAt t v lov hiv LI).run P w) w I β hp B M w0 r:=by
 unfold Fz at h
 cases hu:P.underlying t with
 | none=>rw[hu] at h;cases h
 | some d=>
  rw[hu] at h
  cases d<;>(try (cases h;done))
  rename_i e
  cases lo<;>(try (cases h;done))
  cases hi<;>(try (cases h;done))
  rename_i vf
  cases vf<;>(try (cases h;done))
  cases mx<;>(try (cases h;done))
  rename_i Vz
  cases Vz<;>(try (cases h;done))
  obtain ⟨hc,h9⟩:=aG h
  clear h
  have h:=h9
  clear h9
  simp only[aJ,dN] at hc
  obtain ⟨rfl,rfl,au⟩:=hc
  obtain ⟨i,z,dH,_,_,_⟩:=jL au
  obtain ⟨u1,rfl,k1⟩:=gB _ rfl
  obtain ⟨u2,rfl,k2⟩:=nD _ rfl
  rw[k1.dU,k2.dU,iw rfl]
  have run: ∀{k k2:IntKind} (a:Option Addr) (len cap:Nat),(Instr.sliceAt t (.slice a len cap) none (some (.int k 0)) (some (.int k2 0))).run P w= .ok (.slice a 0 0) w:=by
   intro k k2 a len cap
   cases a<;>simp[Instr.sliceAt,Instr.slice,Instr.sliceBounds,Instr.sliceBound,asIntOf,run_underlying hu,sizeOf,typeInfo,dH]
  cases x<;>(try (cases h;done))
  ·simp only at h
   obtain rfl:=aN h
   cases hv with
   | list hp'=>cases hp'<;>exact .same S (run _ _ _) .nilS
  ·simp only at h
   obtain rfl:=aN h
   cases hv
   exact .same S (run _ _ _) .nilS
  ·rename_i e' id
   simp only at h
   obtain ⟨l,h⟩:=run_get h
   cases ab:hp id with
   | none=>rw[ab] at h;cases h
   | some blk=>
    rw[ab] at h
    cases blk<;>simp only at h<;>first|(cases h;done)|skip
    all_goals
     obtain rfl:=aN h
     cases hv with
     | dQ hd=>rw[ab] at hd;cases hd
     | eb hd=>exact .same S (run _ _ _) .nilS
     | dp hd hb=>exact .same S (run _ _ _) .nilS
     | whole hd=>exact .same S (run _ _ _) .nilS
theorem VA (S:aF P w I β hp B M w0) {t:TypeId} {v ix:Value} {x y:V} {r:R} {rd:List Nat} (hv:ao P w I β hp v x) (hy:ao P w I β hp ix y)
  (h:(FC P t x y).run C hp=some (r,rd)):cL P ((Instr.indexAt t v ix).run P w) w I β hp B M w0 r:=by
 unfold FC at h
 cases hu:P.underlying t with
 | none=>rw[hu] at h;cases h
 | some d=>
  rw[hu] at h
  cases y<;>(try (cases d<;>cases h;done))
  rename_i k i
  rw[hy.dU]
  cases d<;>simp only at h<;>first|(cases h;done)|skip
  case slice e=>
   have run: ∀(b o len cap:Nat) (ie:TypeInfo),P.info? e=some ie→0≤i→i<(len:Int)→(Instr.indexAt t (.slice (some ⟨b,o,none⟩) len cap) (.int k i)).run P w= .ok (.pointer (some ⟨b,o+i.toNat*ie.size,none⟩)) w:=by
    intro b o len cap ie jl h0 h1
    simp[Instr.indexAt,asIntOf,run_underlying hu,h0,h1,sizeOf,typeInfo,jl,mI]
   cases x<;>simp only at h<;>first|(cases h;done)|skip
   case list e' es=>
    obtain ⟨hc,h⟩:=aG h
    simp only[aJ,aQ] at hc
    obtain ⟨dr,au⟩:=hc
    have fV:e=e':=dr
    obtain ⟨ie,z,dH,_,aS,_⟩:=jL au
    obtain ⟨el,cF,h⟩:=kT h
    obtain rfl:=aN h
    unfold idx at cF
    cases h0:decide (0≤i) with
    | false=>rw[h0] at cF;cases cF
    | true=>
     rw[h0] at cF
     simp only[cond_true] at cF
     have vg:0≤i:=by simpa using h0
     have aP:i.toNat<es.length:=(bm.1 cF).1
     cases hv with
     | list hp'=>
      cases hp' with
      | nil=>simp at aP
      | emp=>simp at aP
      | @list b o len cap _ g hl bS hI fG hx=>
       rw[←fV] at fG hx hI
       refine .same S (run b o len cap ie dH vg (by omega)) ?_
       have bL:=uZ (P:=P) e el
       have GA:=e9 au
       have LJ:(bif bA P e then flat P e else [e])=aR P e:=rfl
       rw[LJ]
       refine .pref (by rw[bL]) (fun _=>hI ?_) (fun j t' y' ht yf=> ?_)
       ·have:=Nat.mul_pos (show 0<len by omega) (jI au).2
        exact this
       ·obtain ⟨t2,a1,a2⟩:=F1 yf
        rw[ht] at a1;cases a1
        have hj:j<P.cellsOf e:=by rw[←GA];exact (bm.1 ht).1
        have gu:=hx i.toNat j el t' cF ht
        refine ⟨g i.toNat j,?_,?_⟩
        ·rw[aS,nk];exact fG i.toNat j (by omega) hj
        ·rw[a2,gu.ri];exact gu
   case whole e' id=>
    obtain ⟨l,h⟩:=run_get h
    cases ab:hp id with
    | none=>rw[ab] at h;cases h
    | some blk=>
     rw[ab] at h
     cases blk<;>simp only at h<;>first|(cases h;done)|skip
     rename_i dk es fz
     obtain ⟨hc,h⟩:=aG h
     simp only[aJ,aQ] at hc
     obtain ⟨dr,ij⟩:=hc
     obtain ⟨eo,h⟩:=aG h
     simp only[aJ,dN] at eo
     obtain rfl:=aN h
     cases hv with
     | dQ hd=>rw[ab] at hd;cases hd
     | eb hd=>rw[ab] at hd;cases hd
     | dp hd hb=>rw[ab] at hd;cases hd;simp at eo;omega
     | @whole _ _ aK mB b cap hd hb yw bS hm=>
      have en:=hd
      rw[ab] at hd
      cases hd
      have hr:=S.h.rel id _ ab
      cases hr with
      | dq aA=>rw[aA] at hb;cases hb
      | arr au aA hh hs hf dR hx=>
       have fV:e=e':=dr
       obtain ⟨ie,z,dH,_,aS,_⟩:=jL au
       rw[←fV] at dH aS
       refine .same S (run b 0 _ cap ie dH eo.1 eo.2) ?_
       have:=ao.ptr (P:=P) (w:=w) (I:=I) (i:=i.toNat) (c:=0) en (by simp) hb
       simp only[an.sz] at this
       rw[gj,aS,fV]
       simpa using this
     rename_i dk es aq
     obtain ⟨hc,h⟩:=aG h
     simp only[aJ,aQ] at hc
     obtain ⟨dr,ij⟩:=hc
     obtain ⟨eo,h⟩:=aG h
     simp only[aJ,dN] at eo
     obtain rfl:=aN h
     cases hv with
     | dQ hd=>rw[ab] at hd;cases hd
     | dp hd hb=>rw[ab] at hd;cases hd
     | whole hd=>rw[ab] at hd;cases hd
     | @eb _ _ aK vers' b cap hd hb yw bS hm=>
      have en:=hd
      rw[ab] at hd
      cases hd
      have au:=(S.rows en hb .here).ok
      have fV:e=e':=dr
      obtain ⟨ie,z,dH,_,aS,_⟩:=jL au
      rw[←fV] at dH aS
      refine .same S (run b 0 _ cap ie dH eo.1 eo.2) ?_
      have:=ao.ptr (P:=P) (w:=w) (I:=I) (i:=i.toNat) (c:=0) en (by simp) hb
      simp only[an.sz] at this
      rw[gj,aS,fV]
      simpa using this
   case row e' id ver path=>
    obtain ⟨e0,es,aq,l,ab,h1,U,h3,h⟩:=nC h
    obtain ⟨e2,v',k1,k2,h⟩:=uT h
    obtain ⟨hc,h⟩:=aG h
    simp only[aJ,aQ] at hc
    obtain ⟨dr,ij⟩:=hc
    obtain ⟨eo,h⟩:=aG h
    simp only[aJ,dN] at eo
    obtain rfl:=aN h
    cases hv with
    | jf hd hp'=>rw[ab] at hd;cases hd;exact absurd hp' (uU h1 U h3)
    | @row v _ e0 t1 _ ver b i1 c1 q es l1 aq hd hb hq Gf ht fG=>
     have VB:=fG
     obtain ⟨b',e3,aK,Ca,T,f,x,m1,m2,m3,m4,m5,m6⟩:=fG
     have im:=hd
     rw[ab] at im
     cases im
     obtain ⟨n1,n2⟩:=BN m1 m3 m4 ht m5
     rw[n2] at k2
     cases k2
     simp only[V.toList] at eo
     have hR:=S.rows hd hb m1
     obtain ⟨C1,c2,c3,c4⟩:=hR.cells
     rw[m2] at c2
     cases c2
     have hj:c1<P.cellsOf e3:=by
      rw[←e9 hR.ok];exact (bm.1 m4).1
     obtain ⟨v2,d1,d2⟩:=c4 _ _ _ _ m3 m4 hj
     rw[m6] at d1
     cases d1
     rw[m5] at d2
     cases d2 with
     | fl a _=>unfold fi at a;rw[ht] at a;cases a
     | emp _ _=>simp at eo;omega
     | @row _ _ b1 cap _ hl _ _ _=>
      have au:=(S.rows hd hb (m1.snoc m2 m3 m4 ht m5 hl m6)).ok
      have fV:e=e':=dr
      obtain ⟨ie,z,dH,_,aS,_⟩:=jL au
      rw[←fV] at dH aS
      refine .same S (run b1 0 _ cap ie dH eo.1 eo.2) ?_
      have:=ao.cq (P:=P) (I:=I) (i:=i.toNat) (c:=0) hd hb hq Gf ht hl VB
      rw[gj,aS,fV]
      simpa using this
   case sub e' id off len=>
    obtain ⟨l,h⟩:=run_get h
    cases ab:hp id with
    | none=>rw[ab] at h;cases h
    | some blk=>
     rw[ab] at h
     cases blk<;>simp only at h<;>first|(cases h;done)|skip
     rename_i dk es fz
     obtain ⟨hc,h⟩:=aG h
     simp only[aJ,aQ] at hc
     obtain ⟨dr,ij⟩:=hc
     obtain ⟨eo,h⟩:=aG h
     simp only[aJ,dN] at eo
     obtain rfl:=aN h
     cases hv with
     | fF hd=>rw[ab] at hd;cases hd
     | fm hd hb=>simp at eo;omega
     | @sub _ _ _ _ aK mB b o cap hd hb ka bS ho=>
      have en:=hd
      rw[ab] at hd
      cases hd
      have hr:=S.h.rel id _ ab
      cases hr with
      | dq aA=>rw[aA] at hb;cases hb
      | arr au aA hh hs hf dR hx=>
       have fV:e=e':=dr
       obtain ⟨ie,z,dH,_,aS,_⟩:=jL au
       rw[←fV] at dH aS
       refine .same S (run b o _ cap ie dH eo.1 eo.2) ?_
       have:=ao.ptr (P:=P) (w:=w) (I:=I) (i:=off+i.toNat) (c:=0) en (by simp) hb
       simp only[an.sz] at this
       rw[ho (by omega),aS,fV,←c6]
       simpa using this
  case array n e=>
   have run: ∀(b o:Nat) (ie:TypeInfo),P.info? e=some ie→0≤i→i<(n:Int)→(Instr.indexAt t (.pointer (some ⟨b,o,none⟩)) (.int k i)).run P w= .ok (.pointer (some ⟨b,o+i.toNat*ie.size,none⟩)) w:=by
    intro b o ie jl h0 h1
    simp[Instr.indexAt,asIntOf,run_underlying hu,h0,h1,sizeOf,typeInfo,jl,mI,Instr.sureAddr]
   cases x<;>simp only at h<;>first|(cases h;done)|skip
   case ptr id j c=>
    obtain ⟨⟨blk,ab,hd⟩,l,h⟩:=uX h
    obtain ⟨eo,h⟩:=aG h
    simp only[aJ,dN] at eo
    obtain rfl:=aN h
    obtain ⟨b,hb,rfl⟩:=hv.gx ab hd
    obtain ⟨d,sV⟩:=yi eo.1
    obtain ⟨ie,jl⟩:=uY sV
    have aS:ie.size=P.cellsOf e:=by simp[Program.cellsOf,jl]
    refine .same S (run b _ ie jl eo.2.1 eo.2.2) ?_
    rw[aS,nk]
    exact .ptr ab hd hb
   case pref ts cs=>
    obtain ⟨eo,h⟩:=aG h
    simp only[aJ,dN] at eo
    obtain rfl:=aN h
    obtain ⟨b,o,rfl,h1,U,h3⟩:=hv.BW
    obtain ⟨d,sV⟩:=yi eo.1
    obtain ⟨ie,jl⟩:=uY sV
    have aS:ie.size=P.cellsOf e:=by simp[Program.cellsOf,jl]
    refine .same S (run b _ ie jl eo.2.1 eo.2.2) ?_
    rw[aS]
    exact ao.K2 h1 U h3
end
end Go.AM
namespace Go.AM
open Go.Maps
section
variable {P:Program} {w w':World} {I I':Nat→Prop} {β av:Nat→Option Nat} {hp hp':Nat→Option an} {C:ag} {B:Nat} {M:Nat→Prop} {w0:Start}
theorem VC (S:aF P w I β hp B M w0) {nb:Nat} {t:TypeId} {v:Value} {x:V} {lo hi:Option V} {lov hiv:Option Value} {r:R} {rd:List Nat} (hv:ao P w I β hp v x)
  (gB: ∀x,hi=some x→∃v,hiv=some v∧ao P w I β hp v x) (mN:lo=none→lov=none)
  (h:(Bz P nb t x lo hi).run C hp=some (r,rd)):cL P ((Instr.sliceAt t v lov hiv none).run P w) w I β hp B M w0 r:=by
 unfold Bz at h
 split at h
 case h_2=>cases h
 rename_i e e' id k hh hu
 obtain ⟨l,h1⟩:=run_get h
 cases ab:hp id with
 | none=>rw[ab] at h1;cases h1
 | some blk=>
  rw[ab] at h1
  cases blk<;>simp only at h1<;>first|(cases h1;done)|skip
  rename_i e2 es fz
  cases fz with
  | true=>cases h1
  | false=>
  obtain ⟨hc,U⟩:=aG h1
  simp only[aJ,aQ,dN] at hc
  obtain ⟨rfl,rfl,au,LL,LM⟩:=hc
  obtain ⟨hn,rfl⟩:=mL U
  have iw:=mN rfl
  subst iw
  obtain ⟨GB,rfl,VD⟩:=gB _ rfl
  obtain rfl:=VD.dU
  obtain ⟨i,z,dH,_,aS,_⟩:=jL au
  have bx:nb≠id:=fun e=>by rw[e,ab] at hn;cases hn
  obtain ⟨k1,k2⟩:=BR S ab
  have jM:aI hp id (some an.dead) nb=none:=by rw[dS _ _ bx];exact hn
  have LN: ∀cap,es.length≤cap→(Instr.sliceBounds true es.length cap none (some (.int k hh)) none).run P w= .ok (0,hh.toNat,cap) w:=by
   intro cap bS
   have hb:(qU es.length none (some (.int k hh)) fun l u=> .aC (decide (l=0∧u=hh.toNat)) (.ret (⟨.undef,[]⟩:R))).run C hp=some (⟨.undef,[]⟩,[]):=by
    simp[qU,Rd.run,LL,LM]
   obtain ⟨l,u,b1,b2,b3,b4⟩:=p8 (P:=P) (w:=w) (I:=I) (β:=β) (hp:=hp) (n:=es.length) (isS:=true) (cap:=cap) (lov:=none) (hiv:=some (.int k hh)) bS (by simp) (fun x hx=>by cases hx;exact ⟨_,rfl,.int⟩) (fun _=>rfl) (by simp) hb
   obtain ⟨b5,_⟩:=aG b4
   simp only[dN] at b5
   obtain ⟨rfl,rfl⟩:=b5
   exact b3
  cases hv with
  | dQ hd=>rw[ab] at hd;cases hd
  | eb hd=>rw[ab] at hd;cases hd
  | @dp _ _ _ a0 hd hb=>
   rw[ab] at hd
   cases hd
   have F7:hh=0:=by simpa using Int.le_antisymm LM LL
   subst F7
   have aA:=LN 0 (b7 _)
   obtain ⟨a1,a2⟩:=BQ k2 e jM
   refine ⟨_,w,I,_,Cn hu dH aA,k1.trans a1,a2,.dp (cI _ _ _) (cI _ _ _)⟩
  | @whole _ _ aK mB b cap hd hb yw bS hm=>
   have en:=hd
   rw[ab] at hd
   cases hd
   have hr:=S.h.rel id _ ab
   cases hr with
   | dq aA=>rw[aA] at hb;cases hb
   | @arr _ _ _ b' Ca _ aA Co oP hf dR lL=>
    rw[hb] at aA
    cases aA
    have iP:(es.take hh.toNat).length=hh.toNat:=by rw[fg];omega
    have cJ:(Instr.sliceAt t (.slice (some ⟨b,0,none⟩) es.length cap) none (some (.int k hh)) none).run P w= .ok (.slice (some ⟨b,0,none⟩) hh.toNat cap) w:=by
     have aA:=LN cap bS
     by_cases LO:cap=0
     ·subst LO
      simp[Instr.sliceAt,Instr.slice,run_underlying hu,aA,sizeOf,typeInfo,dH]
     ·simp[Instr.sliceAt,Instr.slice,run_underlying hu,aA,sizeOf,typeInfo,dH,LO,mI]
    have pQ: ∀aD blk',aI hp id (some an.dead) aD=some blk'→¬bp P w (β aD) blk' b:=by
     intro aD blk' h1 U
     by_cases iv:aD=id
     ·subst iv;rw[cI] at h1;cases h1;exact U.alive rfl
     ·rw[dS _ _ iv] at h1
      exact iv (S.h.inj aD id blk' _ b h1 ab U (.root (by simp) hb))
    obtain ⟨a1,a2⟩:=ye k2 (blk:= .arr e (es.take hh.toNat) false) (w':=w) jM pQ (dR rfl) (fun _ _ _=>rfl) (b7 _) ⟨rfl,rfl⟩ (S.h.ra id _ b ab (by simp) hb)
     (fun b' h=>(cR (h.flat (by simp))).symm) (fun hle=> .arr au rfl Co (by rw[iP];exact lz (dj _ (by omega)) oP) (fun h=>by cases h) (fun _=>dR rfl) fun i j y t' hy ht hj=>by
      have p7:=(bm.1 hy).1
      rw[iP] at p7
      rw[eE p7] at hy
      obtain ⟨v,hv,hp⟩:=lL i j y t' hy ht hj
      exact ⟨v,hv,hp.mono hle.cW hle.bV⟩)
    refine ⟨_,w,I,_,cJ,k1.trans a1,a2,?_⟩
    have:=ao.whole (P:=P) (w:=w) (I:=I) (β:=aI β nb (some b)) (hp:=aI (aI hp id (some .dead)) nb (some (.arr e (es.take hh.toNat) false))) (cap:=cap) (cI _ _ _) (cI _ _ _) yw (by rw[iP];omega) hm
    rw[iP] at this
    exact this
theorem p9 {t:TypeId} {x:V} (h:oB P t x=true):
  (∃q n,P.underlying t=some (.int q)∧x= .int q n∧Fu q n=true)∨(∃b,P.underlying t=some .bool∧x= .bool b)∨(∃s,P.underlying t=some .string∧x= .str s∧s.length≤maxLen):=by
 unfold oB at h
 split at h
 ·rename_i q q' n hu
  simp only[aJ,dN] at h
  obtain ⟨rfl,h⟩:=h
  exact .inl ⟨_,_,hu,rfl,h⟩
 ·rename_i b hu
  exact .inr (.inl ⟨_,hu,rfl⟩)
 ·rename_i s hu
  exact .inr (.inr ⟨_,hu,rfl,by simpa using h⟩)
 ·cases h
theorem size_data (s:ByteArray):s.data.toList.length=s.size:=by simp
theorem VE {q:IntKind} {n:Int} (h:Fu q n=true):(Lit.int q n).wf=true:=h
theorem LP {t:TypeId} {x:V} {v:Value} (h:oB P t x=true) (hv:iN v x): ∃l,mapKey P t v=some l∧∀d,P.keyLits (d+1) t [v]=some [l]:=by
 rcases p9 h with ⟨q,n,hu,rfl,hn⟩|⟨b,hu,rfl⟩|⟨s,hu,rfl,hs⟩
 ·obtain rfl:v= .int q n:=hv
  have hw:=VE hn
  exact ⟨.int q n,by simp[mapKey,hu,hw],fun d=>by simp[Program.keyLits,hu,hw]⟩
 ·obtain rfl:v= .bool b:=hv
  exact ⟨.bool b,by simp[mapKey,hu],fun d=>by simp[Program.keyLits,hu]⟩
 ·obtain ⟨s',rfl,GC⟩:=hv
  have:s'.size≤maxLen:=by rw[←size_data,GC];exact hs
  exact ⟨.string s'.data.toList,by simp[mapKey,hu,this],fun d=>by simp[Program.keyLits,hu,this]⟩
theorem GD {t:TypeId}: ∀{xs:List V} {j:Nat} {x:V},pB P t xs=true→xs[j]? =some x→oB P t x=true
 | [],j,x,_,h=>by simp at h
 | y::ys,0,x,h,hx=>by
  simp only[pB,aJ] at h
  simp at hx;subst hx;exact h.1
 | y::ys,j+1,x,h,hx=>by
  simp only[pB,aJ] at h
  exact GD (j:=j) h.2 (by simpa using hx)
theorem mapM_some {α β:Type} {f:α→Option β}: ∀{l:List α},(∀a∈l,∃b,f a=some b)→∃bs,l.mapM f=some bs
 | [],_=>⟨[],rfl⟩
 | a::l,h=>by
  obtain ⟨b,hb⟩:=h a (qM ..)
  obtain ⟨bs,gv⟩:=mapM_some (l:=l) fun x hx=>h x (kK _ hx)
  exact ⟨b::bs,by simp[List.mapM_cons,hb,gv]⟩
inductive GF (P:Program) (t:TypeId) (x:V):Prop
 | one:oB P t x=true→x.cells=[x]→GF P t x
 | arr {n:Nat} {e:TypeId} {xs:List V}:x= .agg xs→WideMaps.ArrKey P t e n→xs.length=n→0<P.types.size→pB P e xs=true→GF P t x
theorem vh {t:TypeId} {x:V} (h:mA P t x=true):GF P t x:=by
 unfold mA at h
 split at h
 ·rename_i n e xs hu
  simp only[aJ,aQ] at h
  rw[jx] at h
  exact .arr rfl ⟨hu,h.2.2.2.1,h.2.1,h.2.2.1⟩ h.1 h.2.2.2.2.1 h.2.2.2.2.2
 ·refine .one h ?_
  rcases p9 h with ⟨q,n,hu,rfl,hn⟩|⟨b,hu,rfl⟩|⟨s,hu,rfl,hs⟩<;>rfl
theorem pJ.one {x:V} {v:Value} (h:pJ v x) (hx:x.cells=[x]):iN v x:=by
 cases x<;>first|exact h|skip
 simp only[V.cells] at hx
 rename_i cs
 have:=congrArg List.length hx
 cases cs with
 | nil=>simp at hx
 | cons c cs=>
  simp only[List.cons.injEq] at hx
  have:=congrArg SizeOf.sizeOf hx.1
  simp at this
  omega
theorem Cp {t:TypeId} {x:V} {v:Value} (h:mA P t x=true) (hv:pJ v x): ∃l,Go.keyOf P t v=some l:=by
 cases vh h with
 | one h1 hx=>
  obtain ⟨l,hl,_⟩:=LP h1 (hv.one hx)
  refine ⟨l,?_⟩
  rcases p9 h1 with ⟨q,n,hu,_⟩|⟨b,hu,_⟩|⟨s,hu,_⟩<;>simp only[Go.keyOf,hu,hl]
 | @arr n e xs hx A hl hp0 hf=>
  subst hx
  obtain ⟨cs,rfl,hs,hc⟩:=hv
  obtain ⟨m,hm⟩: ∃m,P.types.size=m+1:=⟨P.types.size-1,by omega⟩
  have VF:=A.keyType ⟨m,hm⟩
  have hlen:cs.toList.length=P.cellsOf t:=by rw[A.size];simp[hs,hl]
  have VG:(Value.agg cs).formed P t=true:=by simp[Value.formed,A.hu,A.size,hs,hl]
  have hex: ∀i∈List.range n,∃y,P.keyLits (m+1) e (((Value.agg cs).cells.toList.drop (i*P.cellsOf e)).take (P.cellsOf e))=some y:=by
   intro i hi
   have hi:=List.mem_range.1 hi
   rw[A.one]
   have fJ:i<cs.size:=by omega
   have bZ:i<xs.length:=by omega
   obtain ⟨l,_,U⟩:=LP (GD hf (bG bZ)) (hc i cs[i] xs[i] (j4 fJ) (bG bZ))
   have e1:((Value.agg cs).cells.toList.drop (i*1)).take 1=[cs[i]]:=by
    show (cs.toList.drop (i*1)).take 1=_
    rw[mo,List.drop_eq_getElem_cons (by simpa using fJ)]
    simp
   rw[e1]
   exact ⟨_,U m⟩
  obtain ⟨bs,gv⟩:=mapM_some hex
  refine ⟨.string (keyBytes bs.flatten),?_⟩
  have VH:(Value.agg cs).cells.toList.length=P.cellsOf t:=hlen
  unfold Go.keyOf
  rw[A.hu]
  simp only[VF,VG,Bool.and_self,dc]
  unfold Program.keyLits
  rw[A.hu,hm]
  simp only[VH,dc,gv,Option.map_some]
theorem GG {t:TypeId} {x:V} (h:mA P t x=true):Keyed P t:=by
 cases vh h with
 | one h1 hx=>
  rcases p9 h1 with ⟨q,n,hu,_⟩|⟨b,hu,_⟩|⟨s,hu,_⟩
  ·exact int_keyed hu
  ·exact bool_keyed hu
  ·exact string_keyed hu
 | arr hx A hl _ hf=>exact Keyed.of_law A.law
theorem LQ {t:TypeId} {x y:V} {v u:Value} (h1:oB P t x=true) (U:oB P t y=true) (hv:iN v x) (hu:iN u y):uF x y=true↔v=u:=by
 rcases p9 h1 with ⟨q,n,lM,rfl,_⟩|⟨b,lM,rfl⟩|⟨s,lM,rfl,_⟩<;>
 rcases p9 U with ⟨q',n',lN,rfl,_⟩|⟨b',lN,rfl⟩|⟨s',lN,rfl,_⟩<;>
  (rw[lM] at lN;cases lN)
 ·obtain rfl:v= .int q n:=hv
  obtain rfl:u= .int q n':=hu
  simp[uF]
 ·obtain rfl:v= .bool b:=hv
  obtain rfl:u= .bool b':=hu
  simp[uF]
 ·obtain ⟨s1,rfl,e1⟩:=hv
  obtain ⟨s2,rfl,e2⟩:=hu
  simp only[uF,beq_iff_eq,Value.string.injEq,←e1,←e2]
  constructor
  ·intro h
   have:=Array.toList_inj.1 h
   cases s1;cases s2;simp_all
  ·rintro rfl;rfl
theorem LR {t:TypeId}: ∀{xs ys:List V} {vs us:List Value},pB P t xs=true→pB P t ys=true→xs.length=ys.length→vs.length=xs.length→us.length=ys.length→
  (∀(j:Nat) v x,vs[j]? =some v→xs[j]? =some x→iN v x)→(∀(j:Nat) v x,us[j]? =some v→ys[j]? =some x→iN v x)→(sm xs ys=true↔vs=us)
 | [],[],vs,us,_,_,_,h1,U,_,_=>by
  have e1:=kJ (l:=vs) (by simpa using h1)
  have e2:=kJ (l:=us) (by simpa using U)
  simp[sm,e1,e2]
 | [],_::_,_,_,_,_,h,_,_,_,_=>by simp at h
 | _::_,[],_,_,_,_,h,_,_,_,_=>by simp at h
 | x::xs,y::ys,[],us,_,_,_,h,_,_,_=>by simp at h
 | x::xs,y::ys,v::vs,[],_,_,_,_,h,_,_=>by simp at h
 | x::xs,y::ys,v::vs,u::us,f1,f2,h,h1,U,r1,r2=>by
  simp only[pB,aJ] at f1 f2
  have a:=LQ f1.1 f2.1 (r1 0 v x rfl rfl) (r2 0 u y rfl rfl)
  have b:=LR (vs:=vs) (us:=us) f1.2 f2.2 (by simpa using h) (by simpa using h1) (by simpa using U) (fun j v x hj hx=>r1 (j+1) v x (by simpa using hj) (by simpa using hx)) (fun j v x hj hx=>r2 (j+1) v x (by simpa using hj) (by simpa using hx))
  simp only[sm,aJ,a,b,List.cons.injEq]
theorem GH {t:TypeId} {x y:V} {v u:Value} (h1:mA P t x=true) (U:mA P t y=true) (hv:pJ v x) (hu:pJ u y):lC x y=true↔v=u:=by
 unfold lC
 cases vh h1 with
 | one f1 c1=>
  cases vh U with
  | one f2 c2=>
   rw[c1,c2]
   simp only[sm,Bool.and_true]
   exact LQ f1 f2 (hv.one c1) (hu.one c2)
  | arr hy A hl _ hf=>
   rcases p9 f1 with ⟨q,n,lM,_⟩|⟨b,lM,_⟩|⟨s,lM,_⟩<;>(rw[A.hu] at lM;cases lM)
 | arr hx A hl _ hf=>
  cases vh U with
  | one f2 c2=>
   rcases p9 f2 with ⟨q,n,lM,_⟩|⟨b,lM,_⟩|⟨s,lM,_⟩<;>(rw[A.hu] at lM;cases lM)
  | arr hy A2 jz _ GI=>
   have fV:=A.hu.symm.trans A2.hu
   cases fV
   subst hx
   subst hy
   obtain ⟨cs,rfl,s1,r1⟩:=hv
   obtain ⟨ds,rfl,s2,r2⟩:=hu
   have:=LR (vs:=cs.toList) (us:=ds.toList) hf GI (by omega) (by simpa using s1) (by simpa using s2) (fun j v x hj hx=>r1 j v x (by simpa using hj) hx) (fun j v x hj hx=>r2 j v x (by simpa using hj) hx)
   simp only[V.cells,this,Value.agg.injEq]
   exact Array.toList_inj
theorem LU {k:V}: ∀{es:List V},(∀x∈es,lC k (x.comp 0)=false)→kO k es=false∧(∀z,lD k es z=z)∧∀v,hZ k v es=es++[.aY [k,v]]
 | [],_=>⟨rfl,fun _=>rfl,fun _=>rfl⟩
 | e::es,h=>by
  have h0:=h e (qM ..)
  obtain ⟨a,b,c⟩:=LU (k:=k) (es:=es) fun x hx=>h x (kK _ hx)
  exact ⟨by simp[kO,h0,a],fun z=>by simp[lD,h0,b],fun v=>by simp[hZ,h0,c]⟩
theorem LV {k:V}: ∀{es:List V} {j:Nat} {k' y:V},es[j]? =some (.aY [k',y])→lC k k'=true→(∀i x,i<j→es[i]? =some x→lC k (x.comp 0)=false)→
  kO k es=true∧(∀z,lD k es z=y)∧∀v,hZ k v es=es.set j (.aY [k',v])
 | [],j,k',y,h,_,_=>by simp at h
 | e::es,0,k',y,h,he,_=>by
  simp at h
  subst h
  exact ⟨by simp[kO,V.comp,V.nth,he],fun z=>by simp[lD,V.comp,V.nth,he],fun v=>by simp[hZ,V.comp,V.nth,he]⟩
 | e::es,j+1,k',y,h,he,aP=>by
  have h0:=aP 0 e (by omega) rfl
  obtain ⟨a,b,c⟩:=LV (k:=k) (es:=es) (j:=j) (by simpa using h) he fun i x hi hx=>aP (i+1) x (by omega) (by simpa using hx)
  exact ⟨by simp[kO,h0,a],fun z=>by simp[lD,h0,b],fun v=>by simp[hZ,h0,c]⟩
theorem LW {kt vt:TypeId} {E:Array MapEntry} {es:List V} {k:V} {kv:Value} (hs:E.size=es.length) (hx: ∀(j:Nat) (e:MapEntry) (x:V),E[j]? =some e→es[j]? =some x→BJ P kt vt e x)
  (hn:E.toList.Pairwise (fun a b=>a.key≠b.key)) (hk:mA P kt k=true) (Cq:pJ kv k) (w:World):
  ((Instr.findKey kt kv E.toList).run P w= .ok none w∧(∀e∈E.toList,e.key≠kv)∧kO k es=false∧(∀z,lD k es z=z)∧∀v,hZ k v es=es++[.aY [k,v]])∨
  ∃j e k' y,(Instr.findKey kt kv E.toList).run P w= .ok (some (j,e.val)) w∧E[j]? =some e∧e.key=kv∧es[j]? =some (.aY [k',y])∧mA P kt k'=true∧pJ kv k'∧ew P vt y=true∧iN e.val y∧
   kO k es=true∧(∀z,lD k es z=y)∧∀v,hZ k v es=es.set j (.aY [k',v]):=by
 have K:=GG hk
 obtain ⟨l,hl⟩:=Cp hk Cq
 have LX: ∀(j:Nat) x,es[j]? =some x→∃e,E[j]? =some e∧BJ P kt vt e x:=by
  intro j x hj
  have aP:j<E.size:=by rw[hs];exact (bm.1 hj).1
  exact ⟨E[j],j4 aP,hx j _ x (j4 aP) hj⟩
 have keys: ∀e∈E.toList,∃l,Go.keyOf P kt e.key=some l:=by
  intro e he
  obtain ⟨j,hj⟩:=qK he
  have fT:E[j]? =some e:=by simpa using hj
  have aP:j<es.length:=by rw[←hs];exact (gM.1 fT).1
  obtain ⟨k',y,_,h1,U,_⟩:=hx j e es[j] fT (bG aP)
  exact Cp h1 U
 rcases K.find w hl E.toList keys with ⟨h1,U⟩|⟨j,e,h1,U,h3⟩
 ·left
  refine ⟨h1,U,LU fun x VI=> ?_⟩
  obtain ⟨j,hj⟩:=qK VI
  obtain ⟨e,he,k',y,rfl,f1,f2,_⟩:=LX j x hj
  cases hq:lC k (V.comp (.aY [k',y]) 0) with
  | false=>rfl
  | true=>
   have:=(GH hk f1 Cq f2).1 hq
   exact absurd this.symm (U e (jc (by simpa using he)))
 ·right
  have hE:E[j]? =some e:=by simpa using U
  have aP:j<es.length:=by rw[←hs];exact (gM.1 hE).1
  obtain ⟨k',y,hy,f1,f2,f3,f4⟩:=hx j e es[j] hE (bG aP)
  have hj:=bG aP
  rw[hy] at hj
  rw[h3] at f2
  refine ⟨j,e,k',y,h1,hE,h3,hj,f1,f2,f3,f4,LV hj ((GH hk f1 Cq f2).2 rfl) fun i x hi fR=> ?_⟩
  obtain ⟨e',gy,k2,y2,rfl,g1,g2,_⟩:=LX i x fR
  cases hq:lC k (V.comp (.aY [k2,y2]) 0) with
  | false=>rfl
  | true=>
   have:=(GH hk g1 Cq g2).1 hq
   have i1:i<E.toList.length:=by have:=(bm.1 fR).1;simp;omega
   have i2:j<E.toList.length:=by simp;omega
   have:=Bf.1 hn i j i1 i2 hi
   have a1:E.toList[i]=e':=by
    have:E.toList[i]? =some e':=by simpa using gy
    rw[bG i1] at this;exact cR this
   have a2:E.toList[j]=e:=by
    have:=U
    rw[bG i2] at this;exact cR this
   rw[a1,a2,h3] at this
   exact absurd (by rw[← ‹kv=e'.key›]) this
theorem ao.LY {v:Value} {x:V} (h:ao P w I β hp v x) {t:TypeId} (hx:oB P t x=true):iN v x:=by
 rcases p9 hx with ⟨q,n,_,rfl,_⟩|⟨b,_,rfl⟩|⟨s,_,rfl,_⟩
 ·exact h.dU
 ·exact h.jJ
 ·exact h.lH
theorem ao.LZ {v:Value} {x:V} (h:ao P w I β hp v x) {t:TypeId} (hx:mA P t x=true):pJ v x:=by
 cases vh hx with
 | one f c=>
  have:=h.LY f
  cases x<;>first|exact this|cases this
 | arr hx A hl _ hf=>
  subst hx
  obtain ⟨cs,rfl,h1,U⟩:=h.kg
  exact ⟨cs,rfl,h1,fun j u y hu hy=>(U j u y hu hy).LY (GD hf hy)⟩
theorem L0 {vt:TypeId} {y:V} (h:mapVal P vt=true) (ht:ew P vt y=true):(∃q n,P.underlying vt=some (.int q)∧y= .int q n)∨∃b,P.underlying vt=some .bool∧y= .bool b:=by
 unfold mapVal at h
 unfold ew at ht
 split at h
 ·rename_i q hu
  rw[hu] at ht
  cases y<;>first|(simp at ht;done)|skip
  simp only[dN] at ht
  subst ht
  exact .inl ⟨_,_,hu,rfl⟩
 ·rename_i hu
  rw[hu] at ht
  cases y<;>first|(simp at ht;done)|skip
  exact .inr ⟨_,hu,rfl⟩
 ·cases h
theorem iN.GJ {vt:TypeId} {v:Value} {y:V} (h:mapVal P vt=true) (ht:ew P vt y=true) (hv:iN v y):ao P w I β hp v y:=by
 rcases L0 h ht with ⟨q,n,_,rfl⟩|⟨b,_,rfl⟩
 ·obtain rfl:v= .int q n:=hv;exact .int
 ·obtain rfl:v= .bool b:=hv;exact .bool
theorem ao.VJ {vt:TypeId} {v:Value} {y:V} (h:mapVal P vt=true) (ht:ew P vt y=true) (hv:ao P w I β hp v y):iN v y:=by
 rcases L0 h ht with ⟨q,n,_,rfl⟩|⟨b,_,rfl⟩
 ·exact hv.dU
 ·exact hv.jJ
theorem VK {vt:TypeId} {z:V} (h:Bu P vt=some z) (w:World): ∃v,(zeroValue vt).run P w= .ok v w∧iN v z:=by
 unfold Bu at h
 cases hi:P.info? vt with
 | none=>rw[hi] at h;cases h
 | some i=>
  rw[hi] at h
  simp only[Option.bind_some] at h
  cases hz:i.zero with
  | none=>rw[hz] at h;cases h
  | some v=>
   rw[hz] at h
   refine ⟨v,by simp[zeroValue,typeInfo,hi,hz],?_⟩
   cases v<;>simp only at h<;>first|(cases h;done)|skip
   ·cases h;rfl
   ·cases h;rfl
theorem GK {t kt vt:TypeId} (h:kP P t=some (kt,vt)):P.underlying t=some (.map kt vt):=by
 unfold kP at h
 split at h
 ·rename_i k e hu;cases h;exact hu
 ·cases h
theorem GL (S:aF P w I β hp B M w0) {ok:Bool} {v:Value} {x:V} {b:Bool} {r:R} {rd:List Nat} {res:Result Value} (hv:ao P w I β hp v x)
  (hr:res= .ok (if ok then .tuple #[v,.bool b] else v) w) (h:(Bv ok x b).run C hp=some (r,rd)):cL P res w I β hp B M w0 r:=by
 unfold Bv at h
 obtain rfl:=aN h
 cases ok with
 | false=>exact .same S hr hv
 | true=>
  refine .same S hr (.aY rfl fun j u y hu hy=> ?_)
  match j,hu,hy with
  | 0,hu,hy=>simp at hu hy;subst hu;subst hy;exact hv
  | 1,hu,hy=>simp at hu hy;subst hu;subst hy;exact .bool
  | j+2,hu,hy=>simp at hy
theorem VL (S:aF P w I β hp B M w0) {t kt vt:TypeId} (ht:kP P t=some (kt,vt)) {m k:Value} {mx kx:V} {ok:Bool} {r:R} {rd:List Nat} (hm:ao P w I β hp m mx) (hk:ao P w I β hp k kx)
  (h:(Fv P t mx kx ok).run C hp=some (r,rd)):cL P ((Instr.lookup t m k ok).run P w) w I β hp B M w0 r:=by
 unfold Fv at h
 rw[ht] at h
 simp only at h
 cases hz:Bu P vt with
 | none=>rw[hz] at h;cases h
 | some z=>
  rw[hz] at h
  obtain ⟨hc,h'⟩:=aG h
  clear h
  have h:=h'
  clear h'
  simp only[aJ] at hc
  obtain ⟨oQ,yz,Cr⟩:=hc
  have hu:=GK ht
  have vi:=hk.LZ oQ
  have K:=GG oQ
  obtain ⟨l,hl⟩:=Cp oQ vi
  obtain ⟨zv,L1,L2⟩:=VK hz w
  cases mx<;>simp only at h<;>first|(cases h;done)|skip
  ·rename_i t' id
   obtain ⟨kY,h'⟩:=aG h
   clear h
   have h:=h'
   clear h'
   rw[aQ] at kY
   subst kY
   obtain ⟨l2,h'⟩:=run_get h
   clear h
   have h:=h'
   clear h'
   cases ab:hp id with
   | none=>rw[ab] at h;cases h
   | some blk=>
    rw[ab] at h
    cases blk<;>simp only at h<;>first|(cases h;done)|skip
    rename_i t2 es
    obtain ⟨kY,h'⟩:=aG h
    clear h
    have h:=h'
    clear h'
    rw[aQ] at kY
    subst kY
    cases hm with
    | gV hd=>rw[ab] at hd;cases hd
    | @cf _ _ b aK hd hb=>
     rw[ab] at hd
     cases hd
     have hr:=S.h.rel id _ ab
     cases hr with
     | @map _ L3 L4 _ b' clock E fp aA hh hs hI hx hn=>
      rw[hb] at aA;cases aA
      rw[hu] at fp;cases fp
      rcases LW hs hx hn oQ vi w with ⟨h1,_,h3,h4,_⟩|⟨j,e,k',y,h1,_,_,_,_,_,h6,h7,h3,h4,_⟩
      ·rw[h3,h4,yh Cr] at h
       refine GL S (iN.GJ yz Cr L2) ?_ h
       unfold Instr.lookup
       simp only[Sem.run_bind,run_underlying hu,Result.andThen_ok,Go.MapKept.run_getObj_map hh,Sem.run_pure,K.check w E.isEmpty hl,h1,L1]
      ·rw[h3,h4,yh h6] at h
       refine GL S (iN.GJ yz h6 h7) ?_ h
       unfold Instr.lookup
       simp only[Sem.run_bind,run_underlying hu,Result.andThen_ok,Go.MapKept.run_getObj_map hh,Sem.run_pure,K.check w E.isEmpty hl,h1]
  ·rename_i t'
   obtain ⟨kY,h⟩:=aG h
   cases hm
   rw[yh Cr] at h
   refine GL S (iN.GJ yz Cr L2) ?_ h
   have hf:(Instr.findKey kt k []).run P w= .ok none w:=by
    rcases K.find w hl [] (by simp) with ⟨h1,_⟩|⟨j,e,_,U,_⟩
    ·exact h1
    ·simp at U
   unfold Instr.lookup
   simp[run_underlying hu,K.check w true hl,hf,L1]
theorem VM (S:aF P w I β hp B M w0) {t:TypeId} {nb:Nat} {r:R} {rd:List Nat} (h:(Rd.aC (kP P t).isSome (iK nb (.map t []) (.cf t nb) [])).run C hp=some (r,rd)):
  cL P ((Instr.makeMap t none).run P w) w I β hp B M w0 r:=by
 obtain ⟨ht,h⟩:=aG h
 obtain ⟨hn,rfl⟩:=mL h
 obtain ⟨⟨kt,vt⟩,ht⟩:=xr.1 ht
 have hu:=GK ht
 have cD: ¬I w.heap.size:=fun h=>Nat.lt_irrefl _ (S.h.jh _ h)
 have ez:(w.alloc (.map #[] 0)).heap[w.heap.size]? =some (.map #[] 0):=heap_alloc_new w _
 obtain ⟨a1,a2⟩:=ye S (w':=w.alloc (.map #[] 0)) (blk:= .map t []) (b:=w.heap.size) hn (fun aD blk' h ho=>Nat.lt_irrefl _ (S.h.lt h ho)) cD
  (fun b' _ aP=>heap_alloc_old w _ b' aP) (by simp) ⟨rfl,rfl⟩ (.inr S.size) (fun b' h=>(cR (h.flat (by simp))).symm)
  (fun _=> .map hu rfl ez rfl cD (fun j e x he _=>by simp at he) (by simp))
 exact ⟨_,_,_,_,Go.RowKit.run_makeMap t w,a1,a2,.cf (cI _ _ _) (cI _ _ _)⟩
theorem L5 (S:aF P w I β hp B M w0) {t kt vt:TypeId} (ht:kP P t=some (kt,vt)) {m k v:Value} {mx kx vx:V} {r:R} {rd:List Nat} (hm:ao P w I β hp m mx) (hk:ao P w I β hp k kx) (hv:ao P w I β hp v vx)
  (h:(Bw P t mx kx vx).run C hp=some (r,rd)):oJ P ((Instr.mapUpdate t m k v).run P w) w I β hp B M w0 r:=by
 unfold Bw at h
 rw[ht] at h
 obtain ⟨hc,h'⟩:=aG h
 clear h
 have h:=h'
 clear h'
 simp only[aJ] at hc
 obtain ⟨oQ,yz,sW⟩:=hc
 have hu:=GK ht
 have vi:=hk.LZ oQ
 have u3:=ao.VJ yz sW hv
 have K:=GG oQ
 obtain ⟨l,hl⟩:=Cp oQ vi
 cases mx<;>simp only at h<;>first|(cases h;done)|skip
 rename_i t' id
 obtain ⟨kY,h'⟩:=aG h
 clear h
 have h:=h'
 clear h'
 rw[aQ] at kY
 subst kY
 obtain ⟨l2,h'⟩:=run_get h
 clear h
 have h:=h'
 clear h'
 cases ab:hp id with
 | none=>rw[ab] at h;cases h
 | some blk=>
  rw[ab] at h
  cases blk<;>simp only at h<;>first|(cases h;done)|skip
  rename_i t2 es
  obtain ⟨kY,h'⟩:=aG h
  clear h
  have h:=h'
  clear h'
  rw[aQ] at kY
  subst kY
  obtain rfl:=aN h
  cases hm with
  | gV hd=>rw[ab] at hd;cases hd
  | @cf _ _ b aK hd hb=>
   rw[ab] at hd
   cases hd
   have hr:=S.h.rel id _ ab
   cases hr with
   | @map _ L3 L4 _ b' clock E fp aA hh hs hI hx hn=>
    rw[hb] at aA;cases aA
    rw[hu] at fp;cases fp
    have aP:b<w.heap.size:=(gM.1 hh).1
    have fin: ∀(E':Array MapEntry) (yA:Nat),(Instr.mapUpdate t (.map (some b)) k v).run P w= .ok () {w with heap:=w.heap.setIfInBounds b (.map E' yA)}→E'.size=(hZ kx vx es).length→
      (∀(j:Nat) (e:MapEntry) (x:V),E'[j]? =some e→(hZ kx vx es)[j]? =some x→BJ P kt vt e x)→E'.toList.Pairwise (fun a b=>a.key≠b.key)→
      oJ P ((Instr.mapUpdate t (.map (some b)) k v).run P w) w I β hp B M w0 ⟨.undef,[(id,.map t (hZ kx vx es))]⟩:=by
     intro E' yA cJ GC ch GM
     have ez:({w with heap:=w.heap.setIfInBounds b (.map E' yA)}:World).heap[b]? =some (.map E' yA):=by simp[aP]
     obtain ⟨a1,a2⟩:=BT S (w':={w with heap:=w.heap.setIfInBounds b (.map E' yA)}) (blk':= .map t (hZ kx vx es)) ab (by simp) rfl hb hI (by simp)
      (fun b' aA=>by simp[Array.getElem?_setIfInBounds,Ne.symm aA]) (by simp only[bsize,ez,hh]) (by simp) ⟨rfl,rfl⟩ (fun _=> .map hu rfl ez GC hI ch GM)
     exact ⟨_,I,β,cJ,a1,a2,rfl⟩
    rcases LW hs hx hn oQ vi w with ⟨h1,U,_,_,h5⟩|⟨j,e,k',y,h1,hE,L6,nL,VN,VO,_,_,_,_,h5⟩
    ·have e5:=h5 vx
     refine fin (E.push {key:=k,val:=v,born:=clock}) (clock+1) ?_ (by rw[e5];simp[hs]) (fun j e x he pS=> ?_) ?_
     ·unfold Instr.mapUpdate
      simp only[Sem.run_bind,run_underlying hu,Result.andThen_ok,Go.MapKept.run_getObj_map hh,K.check w false hl,h1,Go.MapKept.run_setObj_map _ hh]
     ·rw[e5] at pS
      rw[Array.getElem?_push] at he
      split at he
      ·rename_i hj
       rw[gN (by omega),hj,hs,Nat.sub_self] at pS
       simp at he pS
       subst he;subst pS
       exact ⟨kx,vx,rfl,oQ,vi,sW,u3⟩
      ·have hj:j<E.size:=(gM.1 he).1
       rw[hX (by omega)] at pS
       exact hx j e x he pS
     ·rw[Array.toList_push,List.pairwise_append]
      refine ⟨hn,by simp,fun a ha b' aA=> ?_⟩
      simp only[dX] at aA
      subst aA
      exact U a ha
    ·have e5:=h5 vx
     have hj:j<E.size:=(gM.1 hE).1
     refine fin (E.modify j fun e=>{e with key:=k,val:=v}) clock ?_ (by rw[e5];simp[hs]) (fun i e' x he fR=> ?_) ?_
     ·have bM:=K.stays w hl
      unfold Instr.mapUpdate
      simp only[Sem.run_bind,run_underlying hu,Result.andThen_ok,Go.MapKept.run_getObj_map hh,K.check w false hl,h1]
      simp only[hE,Option.map_some,Option.getD_some,L6,bM,Result.andThen_ok,Go.MapKept.run_setObj_map _ hh]
     ·rw[e5] at fR
      rw[xt] at he
      rw[List.getElem?_set] at fR
      split at he
      ·rename_i sX
       subst sX
       rw[aj rfl,aj (by omega)] at fR
       rw[hE] at he
       simp at he fR
       subst he;subst fR
       exact ⟨k',vx,rfl,VN,VO,sW,u3⟩
      ·rename_i sX
       rw[ai sX] at fR
       exact hx i e' x he fR
     ·have sY: ∀i (h1:i<(E.modify j fun e=>{e with key:=k,val:=v}).toList.length) (U:i<E.toList.length),((E.modify j fun e=>{e with key:=k,val:=v}).toList[i]).key=(E.toList[i]).key:=by
       intro i h1 U
       simp only[Array.getElem_toList,Array.getElem_modify]
       split
       ·rename_i sX
        subst sX
        have:=(gM.1 hE).2
        rw[this,L6]
       ·rfl
      rw[Bf] at hn⊢
      intro i i' h1 U iv
      have g1:i<E.toList.length:=by simpa using h1
      have g2:i'<E.toList.length:=by simpa using U
      rw[sY i h1 g1,sY i' U g2]
      exact hn i i' g1 g2 iv
theorem VP (S:aF P w I β hp B M w0) {t ty kt vt:TypeId} {v:Value} {x:V} {r:R} {rd:List Nat} (hu:P.underlying t=some (.map kt vt)) (hv:ao P w I β hp v x)
  (h:(Bx x).run C hp=some (r,rd)):cL P ((Builtin.len_ #[t] ty #[v]).run P w) w I β hp B M w0 r:=by
 unfold Bx at h
 cases x<;>simp only at h<;>first|(cases h;done)|skip
 ·rename_i t' id
  obtain ⟨l2,h'⟩:=run_get h
  clear h
  have h:=h'
  clear h'
  cases ab:hp id with
  | none=>rw[ab] at h;cases h
  | some blk=>
   rw[ab] at h
   cases blk<;>simp only at h<;>first|(cases h;done)|skip
   rename_i t2 es
   obtain rfl:=aN h
   cases hv with
   | gV hd=>rw[ab] at hd;cases hd
   | @cf _ _ b aK hd hb=>
    rw[ab] at hd
    cases hd
    have hr:=S.h.rel id _ ab
    cases hr with
    | @map _ L3 L4 _ b' clock E fp aA hh hs hI hx hn=>
     rw[hb] at aA;cases aA
     refine .same S (v:= .int .i64 E.size) (by simp[Builtin.len_,run_underlying hu,Go.MapKept.run_getObj_map hh,goInt]) ?_
     rw[hs]
     exact .int
 ·obtain rfl:=aN h
  cases hv
  exact .same S (v:= .int .i64 0) (by simp[Builtin.len_,run_underlying hu,goInt]) .int
theorem ao.GN {v:Value} {t:TypeId} (h:ao P w I β hp v (.df t)):v= .map none:=by cases h;rfl
theorem ao.VQ {v:Value} {t t':TypeId} {id:Nat} {es:List V} (h:ao P w I β hp v (.cf t id)) (ab:hp id=some (.map t' es)): ∃b,v= .map (some b):=by
 cases h with
 | gV h=>rw[ab] at h;cases h
 | cf h hb=>exact ⟨_,rfl⟩
theorem L7 (S:aF P w I β hp B M w0) {op:BinOp} {t:TypeId} {a:Option Nat} {r:R} {rd:List Nat} (x y:Operand)
  (h:(Br P op t a.isNone).run C hp=some (r,rd)):cL P ((do eqGuard op t x y (.map a) (.map none);binOp op t (.map a) (.map none)).run P w) w I β hp B M w0 r:=by
 unfold Br at h
 split at h
 case h_2=>cases h
 rename_i kt vt hu
 have he:(Op.equal t (.map a) (.map none)).run P w= .ok a.isNone w:=by
  show (Op.equalIn (9999+1) t (.map a) (.map none)).run P w=_
  rw[Op.equalIn]
  cases a<;>simp[Sem.run_bind,run_underlying hu,Result.andThen_ok,Sem.run_pure]
 cases op<;>simp only at h<;>first|(cases h;done)|skip
 ·obtain rfl:=aN h
  exact .same S (by simp[eqGuard,binOp,he]) .bool
 ·obtain rfl:=aN h
  exact .same S (by simp[eqGuard,binOp,he]) .bool
end
end Go.AM
namespace Go.AM
section
variable {P:Program} {w w':World} {I I':Nat→Prop} {β av:Nat→Option Nat} {hp hp':Nat→Option an} {C:ag} {B:Nat} {M:Nat→Prop} {w0:Start}
theorem VR {e:TypeId} (he:P.underlying e=some (.int .u8)) (hc:P.cellsOf e=1) (s:ByteArray): ∀(i j:Nat) (x:V) (t':TypeId),(s.data.toList.map dg)[i]? =some x→(aR P e)[j]? =some t'→j<P.cellsOf e→
  ∃u,(Lib.strCells s)[i*P.cellsOf e+j]? =some u∧Pure P w I t' u (bC P e x j):=by
 intro i j x t' hx ht hj
 have mO:bA P e=false:=by simp[bA,he]
 obtain rfl:j=0:=by omega
 simp only[aR,mO,cond_false,List.getElem?_cons_zero,dE] at ht
 subst ht
 rw[gl] at hx
 cases hb:s.data.toList[i]? with
 | none=>rw[hb] at hx;cases hx
 | some b=>
  rw[hb] at hx
  cases hx
  refine ⟨.int .u8 b.toNat,?_,?_⟩
  ·rw[hc,mo,Nat.add_zero]
   simp only[Lib.strCells,gl,hb,Option.map_some]
  ·simp only[bC,mO,cond_false]
   exact .int he
theorem VT (w:World) (t u ty e:TypeId) (i:TypeInfo) (z:Value) (ht:P.underlying t=some (.slice e)) (hu:P.underlying u=some .string) (hi:P.info? e=some i) (hz:i.zero=some z)
  (s:ByteArray) (h0:0<s.size) (Cl:(s.size:Int)≤9223372036854775807) (Cm:s.size*i.bytes≤281474976710656) (a0:Option Addr):
  (Builtin.append_ #[t,u] ty #[.slice a0 0 0,.string s]).run P w=
   .ok (.slice (some ⟨w.heap.size,0,none⟩) s.size (grownCap w s.size 0 e))
    (w.drew.alloc (.cells (s.data.map (fun b=>Value.int .u8 b.toNat)++Builtin.zeroCells z.cells (grownCap w s.size 0 e-s.size)) e)):=by
 cases a0 with
 | none=>exact run_append_nil_string w t u ty e i z ht hu hi hz s h0 Cl Cm
 | some b=>
  rw[←run_append_nil_string w t u ty e i z ht hu hi hz s h0 Cl Cm]
  have hn:s.size≠0:=by omega
  have VU: ¬(9223372036854775807<(s.size:Int)):=by omega
  have VV: ¬(281474976710656<Builtin.nextslicecap s.size 0*i.bytes):=by rw[nextslicecap_zero h0];omega
  simp[Builtin.append_,run_underlying ht,run_underlying hu,sizeOf,typeInfo,zeroValue,hi,hz,Builtin.lenOf,Builtin.firstCells,hn,VU,VV,Question.forced,newRow,grownCap,loadCells,loadCellsFrom]
theorem L8 (S:aF P w I β hp B M w0) {t u ty e:TypeId} {nb:Nat} {x:ByteArray} {xs:List V} {i:TypeInfo} {z:Value} (hu:P.underlying t=some (.slice e)) (nM:P.underlying u=some .string) (au:cE P e=true) (hn:hp nb=none)
 (hi:P.info? e=some i) (hz:i.zero=some z) (h3:i.size=P.cellsOf e) (h4:z.cells.size=P.cellsOf e) (vj:i.size=1) (lK:P.bytesOf e=i.bytes) (dB:xs.length*P.bytesOf e≤cC) (lO:xs.length=x.size) (kX:(Lib.strCells x).length=x.size)
 (cF: ∀(i j:Nat) (y:V) (t':TypeId),xs[i]? =some y→(aR P e)[j]? =some t'→j<P.cellsOf e→∃u,(Lib.strCells x)[i*P.cellsOf e+j]? =some u∧Pure P w I t' u (bC P e y j)):
 ∀a0,∃v w' av,(Builtin.append_ #[t,u] ty #[.slice a0 0 0,.string x]).run P w= .ok v w'∧Le P w I β hp w' I av (aI hp nb (some (.arr e xs false)))∧aF P w' I av (aI hp nb (some (.arr e xs false))) B M w0∧
  ao P w' I av (aI hp nb (some (.arr e xs false))) v (.whole e nb):=by
 intro a0
 have sS:=uS au
 have hlen:xs.length≤2^45:=by
  have:xs.length*1≤xs.length*P.bytesOf e:=sd _ sS
  simp only[cC] at dB
  omega
 by_cases h0:x.size=0
 ·have fU:xs=[]:=kJ (by omega)
  subst fU
  obtain ⟨a1,a2⟩:=BQ S e hn
  have hf:=Lib.run_firstCells_string (P:=P) w 1 x
  rw[h0] at hf
  have pX:Lib.strCells x=[]:=kJ (by omega)
  exact ⟨.slice a0 0 0,_,_,by cases a0<;>simp[storeCells,pX,Builtin.append_,run_underlying hu,run_underlying nM,sizeOf,typeInfo,hi,vj,Builtin.lenOf,h0,hf],a1,a2,.dp (cI _ _ _) (cI _ _ _)⟩
 ·have cJ:=VT (P:=P) w t u ty e i z hu nM hi hz x (by omega) (by omega) (by rw[←lK,←lO];simp only[cC] at dB;omega) a0
  have e1:(x.data.map fun b=>Value.int .u8 b.toNat)=(Lib.strCells x).toArray:=by
   apply Array.ext'
   simp[Lib.strCells]
  rw[e1,←lO] at cJ
  have oN:=grownCap_ge w xs.length 0 e
  have sU:grownCap w xs.length 0 e≤maxLen:=grownCap_le_maxLen w xs.length 0 e (by simp only[maxLen];omega)
  obtain ⟨n1,n2,n3⟩:=ve S.drew (nb:=nb) (cap:=grownCap w xs.length 0 e) (es:=xs) (C0:=(Lib.strCells x).toArray++Builtin.zeroCells z.cells (grownCap w xs.length 0 e-xs.length)) au hn
   (by
    have:(Lib.strCells x).length=xs.length*P.cellsOf e:=by rw[kX,lO,←h3,vj,mo]
    simp only[Bd,po,size_zeroCells,h4,this,←c6];congr 1;omega) oN sU
   (fun i' j y t' hy ht hj=>by
    obtain ⟨u,fp,hp⟩:=cF i' j y t' hy ht hj
    have aP:=(bm.1 fp).1
    refine ⟨u,?_,Pure.drew hp⟩
    rw[Array.getElem?_append_left (by simpa using aP)]
    simpa using fp)
  exact ⟨_,_,_,cJ,(Le.drew w I β hp).trans n1,n2,n3⟩
theorem VW (S:aF P w I β hp B M w0) {t u ty e:TypeId} {nb:Nat} {s:Value} {sv:V} {x:ByteArray} {r:R} {rd:List Nat} (hu:P.underlying t=some (.slice e)) (nM:P.underlying u=some .string) (he:P.underlying e=some (.int .u8)) (hs:ao P w I β hp s sv)
  (h:(uG P nb e sv (.list e (x.data.toList.map dg))).run C hp=some (r,rd)):cL P ((Builtin.append_ #[t,u] ty #[s,.string x]).run P w) w I β hp B M w0 r:=by
 unfold uG at h
 obtain ⟨au,h⟩:=aG h
 simp only[qT] at h
 obtain ⟨_,h⟩:=aG h
 have mO:bA P e=false:=by simp[bA,he]
 have dr:P.cellsOf e=1:=by rw[←(jI au).1,ya mO];rfl
 obtain ⟨i,z,hi,hz,h3,h4,_⟩:=jL au
 have vj:i.size=1:=by rw[h3,dr]
 have sS:=uS au
 have lK:P.bytesOf e=i.bytes:=by simp[Program.bytesOf,hi]
 have Cs:=VR (P:=P) (w:=w) (I:=I) he dr x
 have lO:(x.data.toList.map dg).length=x.size:=by simp
 have kX:(Lib.strCells x).length=x.size:=Lib.strCells_length x
 have h1:=Lib.strCells_oneCell x
 generalize fU:x.data.toList.map dg=xs at*
 cases sv with
 | nilS e'=>
  obtain ⟨hc,h⟩:=aG h
  simp only[aJ,aQ,dD] at hc
  obtain ⟨hn,rfl⟩:=mL h
  obtain ⟨a0,rfl⟩: ∃a0,s= .slice a0 0 0:=by cases hs;exact ⟨_,rfl⟩
  obtain ⟨v,w',av,a1,a2,a3,a4⟩:=L8 S hu nM au hn hi hz h3 h4 vj lK hc.2 lO kX Cs _
  exact ⟨v,w',I,av,a1,a2,a3,a4⟩
 | whole e' id=>
  obtain ⟨l,h⟩:=run_get h
  cases ab:hp id with
  | none=>rw[ab] at h;cases h
  | some blk=>
   rw[ab] at h
   cases blk with
   | dead=>cases h
   | var _=>cases h
   | nest _ _ _=>cases h
   | map _ _=>cases h
   | arr dk es fz=>
    cases fz with
    | true=>cases h
    | false=>
     obtain ⟨hc,h⟩:=aG h
     obtain ⟨hn,rfl⟩:=mL h
     simp only[aJ,aQ,dD] at hc
     obtain ⟨Gr,Gt,dB⟩:=hc
     subst Gr
     subst Gt
     have bx:nb≠id:=fun e=>by rw[e,ab] at hn;cases hn
     obtain ⟨k1,k2⟩:=BR S ab
     have jM:aI hp id (some an.dead) nb=none:=by rw[dS _ _ bx];exact hn
     cases hs with
     | dQ hd=>rw[ab] at hd;cases hd
     | eb hd=>rw[ab] at hd;cases hd
     | dp hd hb=>
      rw[ab] at hd
      cases hd
      simp only[List.length_nil,gj] at dB
      obtain ⟨v,w',av,a1,a2,a3,a4⟩:=L8 k2 hu nM au jM hi hz h3 h4 vj lK dB lO kX Cs _
      exact ⟨v,w',I,av,a1,k1.trans a2,a3,a4⟩
     | @whole _ _ aK mB b cap hd hb aS bS hm=>
      rw[ab] at hd
      cases hd
      have hr:=S.h.rel id _ ab
      cases hr with
      | dq aA=>rw[aA] at hb;cases hb
      | @arr _ _ _ b' Ca _ aA hh oP hf dR lL=>
       rw[hb] at aA
       cases aA
       have hlen:es.length+xs.length≤2^45:=by
        have:(es.length+xs.length)*1≤(es.length+xs.length)*P.bytesOf e:=sd _ sS
        simp only[cC] at dB
        omega
       rw[mF hh] at aS
       have pQ: ∀aD blk',aI hp id (some an.dead) aD=some blk'→¬bp P w (β aD) blk' b:=by
        intro aD blk' h1 U
        by_cases iv:aD=id
        ·subst iv;rw[cI] at h1;cases h1;exact U.alive rfl
        ·rw[dS _ _ iv] at h1
         exact iv (S.h.inj aD id blk' _ b h1 ab U (.root (by simp) hb))
       have Gu:=S.h.ra id _ b ab (by simp) hb
       have kZ:es.length*P.cellsOf e≤Ca.toList.length:=by simpa using oP
       have L9:(Lib.strCells x).length=xs.length*P.cellsOf e:=by rw[kX,lO,dr,mo]
       by_cases rp:es.length+xs.length≤cap
       ·have yv:es.length*P.cellsOf e+(Lib.strCells x).length≤Ca.size:=by rw[L9,←c6,←aS];exact dj _ rp
        have cJ:=Lib.run_append_room_string (P:=P) w t u ty e i hu nM hi vj b es.length cap Ca hh x (by rw[←lO];exact rp) (by rw[←kX];rw[dr,mo] at yv;exact yv)
        have cF:=Cj (P:=P) (w:=w) (I:=I) (n:=es.length) (c:=Ca.toList) rfl (fun i j y t' a b c=>by
         obtain ⟨v,hv,hp⟩:=lL i j y t' a b c
         exact ⟨v,by simpa using hv,hp⟩) Cs kZ (Ca.toList.drop (es.length*P.cellsOf e+(Lib.strCells x).length))
        generalize va:(Ca.toList.take es.length++Lib.strCells x++Ca.toList.drop (es.length+x.size)).toArray=C' at cJ
        have nJ:C'.size=Ca.size:=by
         rw[dr,mo] at yv
         rw[←va];simp;omega
        have Ma:(w.setRow b C').heap[b]? =some (.cells C' e (0,0)):=setRow_heap w b Ca C' e _ hh
        obtain ⟨a1,a2⟩:=ye k2 (blk:= .arr e (es++xs) false) (w':=w.setRow b C') jM pQ (dR rfl) (fun b' h _=>setRow_other w b b' _ h) (by simp) ⟨rfl,rfl⟩ Gu
         (fun b' h=>(cR (h.flat (by simp))).symm) (fun hle=> .arr au rfl Ma (by rw[nJ,←aS];exact dj _ (by simpa using rp)) (fun h=>by cases h) (fun _=>dR rfl) fun i j y t' a b c=>by
          obtain ⟨v,hv,hp⟩:=cF i j y t' a b c
          refine ⟨v,?_,hp.mono hle.cW hle.bV⟩
          rw[←va,mn]
          rw[dr] at hv⊢
          simpa[kX] using hv)
        refine ⟨_,_,_,_,cJ,k1.trans a1,a2,?_⟩
        have a3:=ao.whole (P:=P) (w:=w.setRow b C') (I:=I) (β:=aI β nb (some b)) (hp:=aI (aI hp id (some .dead)) nb (some (.arr e (es++xs) false))) (cap:=cap) (b:=b) (es:=es++xs) (fz:=false) (id:=nb) (e:=e) (cI _ _ _) (cI _ _ _) (by rw[mF Ma,nJ,aS]) (by simpa using rp) hm
        rw[ca,lO] at a3
        exact a3
       ·have hold: ∀(j:Nat) v,(Ca.toList.take (es.length*P.cellsOf e))[j]? =some v→w.cell? ((⟨b,0,none⟩:Addr).add j)=some v:=by
         intro j v hj
         have bW:=(bm.1 hj).1
         have fI:j<es.length*P.cellsOf e:=by rw[fg] at bW;omega
         rw[eE fI] at hj
         rw[mI,cell?_cells hh,gj]
         simpa using hj
        have cJ:=Lib.run_append_grow_string (P:=P) w t u ty e i z hu nM hi hz ⟨b,0,none⟩ es.length cap (Ca.toList.take (es.length*P.cellsOf e)) (by rw[h3];simp;omega) hold x (by omega) (by omega)
         (growslice_fits (by omega) (by rw[←lK,←lO];simp only[cC] at dB;omega))
        rw[←lO] at cJ
        have oN:=grownCap_ge w (es.length+xs.length) cap e
        have sU:grownCap w (es.length+xs.length) cap e≤maxLen:=grownCap_le_maxLen w _ cap e (by simp only[maxLen];omega)
        have cF:=Cj (P:=P) (w:=w) (I:=I) (n:=es.length) (c:=Ca.toList) rfl (fun i j y t' a b c=>by
         obtain ⟨v,hv,hp⟩:=lL i j y t' a b c
         exact ⟨v,by simpa using hv,hp⟩) Cs kZ (Builtin.zeroCells z.cells (grownCap w (es.length+xs.length) cap e-(es.length+xs.length))).toList
        obtain ⟨n1,n2,n3⟩:=ve k2.drew (nb:=nb) (cap:=grownCap w (es.length+xs.length) cap e) (es:=es++xs)
         (C0:=(Ca.toList.take (es.length*P.cellsOf e)).toArray++(Lib.strCells x).toArray++Builtin.zeroCells z.cells (grownCap w (es.length+xs.length) cap e-(es.length+xs.length))) au jM
         (by
          have e1:(Ca.toList.take (es.length*P.cellsOf e)).length=es.length*P.cellsOf e:=by simp;omega
          simp only[Bd,po,size_zeroCells,h4,L9,e1,←c6];congr 1;omega) (by simpa using oN) sU
         (fun i j y t' a b c=>by
          obtain ⟨v,hv,hp⟩:=cF i j y t' a b c
          refine ⟨v,?_,Pure.drew hp⟩
          rw[←qL]
          simpa using hv)
        rw[ca] at n3
        exact ⟨_,_,_,_,cJ,(k1.trans (Le.drew w I β _)).trans n1,n2,n3⟩
 | _=>cases h
end
section
variable {P:Program} {w w':World} {I I':Nat→Prop} {β av:Nat→Option Nat} {hp hp':Nat→Option an} {C:ag} {B:Nat} {M:Nat→Prop} {w0:Start}
theorem Mb: ∀(ns:List Int) (s:ByteArray),(ns.foldl (fun r n=>r.push (UInt8.ofNat n.toNat)) s).data.toList=s.data.toList++ns.map fun n=>UInt8.ofNat n.toNat
 | [],s=>by simp
 | n::ns,s=>by
  simp only[List.foldl_cons,Mb ns,cH]
  simp[ByteArray.push]
theorem Mc {e:TypeId} {u:Value} {x:V} (he:P.underlying e=some (.int .u8)) (hp:Pure P w I e u x):u= .int .u8 x.toInt:=by
 cases hp with
 | int hp'=>rw[he] at hp';cases hp';rfl
 | bool hp'=>rw[he] at hp';cases hp'
 | str hp'=>rw[he] at hp';cases hp'
 | nil hp'=>rw[he] at hp';cases hp'
 | emp hp'=>rw[he] at hp';cases hp'
 | list _ hp'=>rw[he] at hp';cases hp'
theorem VX (S:aF P w I β hp B M w0) {src dst e:TypeId} {v:Value} {x:V} {r:R} {rd:List Nat} (hs:P.underlying src=some (.slice e)) (he:P.underlying e=some (.int .u8)) (hd:P.underlying dst=some .string)
  (hv:ao P w I β hp v x) (h:(Rd.aC (cE P e) (qT e x fun es=> .ret ⟨.str (j6 es),[]⟩)).run C hp=some (r,rd)):cL P ((convert src dst v).run P w) w I β hp B M w0 r:=by
 obtain ⟨au,h⟩:=aG h
 obtain ⟨xs,hx,l,h⟩:=Ci S.h.rel au hv h
 obtain rfl:=aN h
 have mO:bA P e=false:=by simp[bA,he]
 have h1:P.cellsOf e=1:=by rw[←(jI au).1,ya mO];rfl
 rcases hx with ⟨⟨a,rfl⟩,rfl⟩|⟨a,c,news,hr⟩
 ·refine .same S (v:= .string .empty) ?_ (.str (by simp[j6]))
  rw[run_convert_bytes_string w src dst e a 0 0 hs he hd]
  cases a<;>simp[Conv.bytesToString,loadCells,loadCellsFrom]
 ·have Ck:news=(xs.map V.toInt).map (Value.int .u8):=by
   apply List.ext_getElem?
   intro j
   by_cases hj:j<xs.length
   ·obtain ⟨u,hu,hp⟩:=hr.el j 0 xs[j] e (bG hj) (by simp[aR,mO]) (by omega)
    rw[h1] at hu
    simp only[bC,mO,cond_false] at hp
    have fp:news[j]? =some u:=by simpa using hu
    rw[fp]
    have:=Mc he hp
    simp[hj,←this]
   ·have hl:news.length=xs.length:=by rw[hr.len,h1];simp
    rw[xo (by omega),xo (by simp;omega)]
  have GO:=run_loadCells_list (P:=P) w a news hr.cell
  have hl:news.length=xs.length:=by rw[hr.len,h1];simp
  rw[hl] at GO
  rw[Ck] at GO
  refine .same S (v:= .string ((xs.map V.toInt).foldl (fun r n=>r.push (UInt8.ofNat n.toNat)) ByteArray.empty)) ?_ (.str ?_)
  ·rw[hr.val,run_convert_bytes_string w src dst e _ _ _ hs he hd]
   exact run_bytesToString w a xs.length c (xs.map V.toInt) GO
  ·rw[Mb]
   simp[j6]
theorem ao.Ct {v:Value} (h:ao P w I β hp v .c7):v= .pointer none:=by cases h;rfl
section
variable (w:World)
theorem VY (t e:TypeId) (a:Addr) (h:P.underlying t=some (.pointer e)):(binOp .eql t (.pointer (some a)) (.pointer none)).run P w= .ok (.bool false) w:=by
 have h0: ∀d:Nat,(Op.equalIn (d+1) t (.pointer (some a)) (.pointer none)).run P w= .ok false w:=fun d=>by simp[Op.equalIn,run_underlying h]
 simp only[binOp]
 simp[Op.equal,Op.maxDepth,h0 9999]
theorem VZ (t e:TypeId) (a:Addr) (h:P.underlying t=some (.pointer e)):(binOp .neq t (.pointer (some a)) (.pointer none)).run P w= .ok (.bool (!false)) w:=by
 have h0: ∀d:Nat,(Op.equalIn (d+1) t (.pointer (some a)) (.pointer none)).run P w= .ok false w:=fun d=>by simp[Op.equalIn,run_underlying h]
 simp only[binOp]
 simp[Op.equal,Op.maxDepth,h0 9999]
theorem V0 (t e:TypeId) (a:Addr) (h:P.underlying t=some (.pointer e)):(binOp .eql t (.pointer none) (.pointer (some a))).run P w= .ok (.bool false) w:=by
 have h0: ∀d:Nat,(Op.equalIn (d+1) t (.pointer none) (.pointer (some a))).run P w= .ok false w:=fun d=>by simp[Op.equalIn,run_underlying h]
 simp only[binOp]
 simp[Op.equal,Op.maxDepth,h0 9999]
theorem V1 (t e:TypeId) (a:Addr) (h:P.underlying t=some (.pointer e)):(binOp .neq t (.pointer none) (.pointer (some a))).run P w= .ok (.bool (!false)) w:=by
 have h0: ∀d:Nat,(Op.equalIn (d+1) t (.pointer none) (.pointer (some a))).run P w= .ok false w:=fun d=>by simp[Op.equalIn,run_underlying h]
 simp only[binOp]
 simp[Op.equal,Op.maxDepth,h0 9999]
theorem V2 (t e:TypeId) (h:P.underlying t=some (.pointer e)):(binOp .eql t (.pointer none) (.pointer none)).run P w= .ok (.bool true) w:=by
 have h0: ∀d:Nat,(Op.equalIn (d+1) t (.pointer none) (.pointer none)).run P w= .ok true w:=fun d=>by simp[Op.equalIn,run_underlying h]
 simp only[binOp]
 simp[Op.equal,Op.maxDepth,h0 9999]
theorem V3 (t e:TypeId) (h:P.underlying t=some (.pointer e)):(binOp .neq t (.pointer none) (.pointer none)).run P w= .ok (.bool (!true)) w:=by
 have h0: ∀d:Nat,(Op.equalIn (d+1) t (.pointer none) (.pointer none)).run P w= .ok true w:=fun d=>by simp[Op.equalIn,run_underlying h]
 simp only[binOp]
 simp[Op.equal,Op.maxDepth,h0 9999]
end
theorem Cu (S:aF P w I β hp B M w0) {op:BinOp} {t:TypeId} {b:Bool} {x y:Operand} {v1 v2:Value} {r:R} {rd:List Nat} (h:(ptrEq P op t b).run C hp=some (r,rd)) (hg:(eqGuard op t x y v1 v2).run P w= .ok () w)
  (he: ∀e j,P.underlying t=some (.pointer e)→P.info? e=some j→(binOp .eql t v1 v2).run P w= .ok (.bool b) w∧(binOp .neq t v1 v2).run P w= .ok (.bool (!b)) w):
  cL P ((do eqGuard op t x y v1 v2;binOp op t v1 v2:Sem Value).run P w) w I β hp B M w0 r:=by
 unfold ptrEq at h
 cases hu:P.underlying t with
 | none=>rw[hu] at h;cases h
 | some d=>
  rw[hu] at h
  cases d<;>simp only at h<;>first|(cases h;done)|skip
  rename_i e
  obtain ⟨h1,U⟩:=aG h
  obtain ⟨j,hj⟩:=xr.1 h1
  obtain ⟨k1,k2⟩:=he e j hu hj
  cases op<;>simp only at U<;>first|(cases U;done)|skip
  ·obtain rfl:=aN U
   exact .same S (by simp only[Sem.run_bind,hg,Result.andThen_ok,k1]) .bool
  ·obtain rfl:=aN U
   exact .same S (by simp only[Sem.run_bind,hg,Result.andThen_ok,k2]) .bool
theorem V4 {b n:Nat}:(∀b',b'≠b→(w.freeze ⟨b,0,none⟩ n).heap[b']? =w.heap[b']?)∧bsize (w.freeze ⟨b,0,none⟩ n) b=bsize w b∧w.heap.size≤(w.freeze ⟨b,0,none⟩ n).heap.size∧(w.freeze ⟨b,0,none⟩ n).os=w.os∧(w.freeze ⟨b,0,none⟩ n).output=w.output:=by
 unfold World.freeze
 split
 ·exact ⟨fun _ _=>rfl,rfl,b7 _,rfl,rfl⟩
 ·refine ⟨fun b' hb=> ?_,?_,by simp,rfl,rfl⟩
  ·simp only[xt]
   rw[ai (fun e=>hb e.symm)]
  ·simp only[bsize,xt,dc]
   cases w.heap[b]? with
   | none=>rfl
   | some o=>cases o<;>rfl
theorem V5 {e:TypeId} (hb:isByte P e=true):P.underlying e=some (.int .u8):=by
 unfold isByte at hb
 split at hb
 ·assumption
 ·cases hb
theorem V6 (S:aF P w I β hp B M w0) {ts:Array TypeId} {ty e:TypeId} {v:Value} {id:Nat} {es:List V} {fz:Bool} (hv:ao P w I β hp v (.whole e id)) (ab:hp id=some (.arr e es fz)) (h0:0<es.length):
  cL P ((Builtin.unsafeSliceData_ ts ty #[v]).run P w) w I β hp B M w0 ⟨.ptr id 0 0,[]⟩:=by
 cases hv with
 | dQ h=>rw[ab] at h;cases h
 | dp h _=>rw[ab] at h;cases h;simp at h0
 | eb h _ _ _ _=>rw[ab] at h;cases h
 | @whole _ _ aK mB b cap h hb bS hle hm=>
  rw[ab] at h;cases h
  refine .same S (Lib.run_unsafeSliceData_row w ts ty ⟨b,0,none⟩ es.length cap (by omega)) ?_
  have:=ao.ptr (P:=P) (w:=w) (I:=I) (β:=β) (i:=0) (c:=0) ab (by simp) hb
  simpa using this
theorem V7 (S:aF P w I β hp B M w0) {t u ty e:TypeId} {vx:Value} {id:Nat} {n:Int} {es:List V} (hu:P.underlying t=some (.pointer e)) (hb:isByte P e=true) (hv:ao P w I β hp vx (.ptr id 0 0))
  (ab:hp id=some (.arr e es false)) (h0:0<n) (hn:n≤es.length) (hm:n.toNat≤mz) (mK:(es.take n.toNat).all uL=true):cL P ((Builtin.unsafeString_ #[t,u] ty #[vx,.int .i64 n]).run P w) w I β hp B M w0 ⟨.str (j6 (es.take n.toNat)),[(id,.dead)]⟩:=by
 obtain ⟨b,GP,rfl⟩:=hv.gx ab (by simp)
 have he:P.underlying e=some (.int .u8):=by
  unfold isByte at hb
  split at hb
  ·assumption
  ·cases hb
 have mO:bA P e=false:=by simp[bA,he]
 have hr:=S.h.rel id _ ab
 rw[GP] at hr
 cases hr with
 | dq aA=>cases aA
 | @arr _ _ _ b1 Ca au kZ hh hs hI cD cF=>
  cases kZ
  have h1:P.cellsOf e=1:=by rw[←(jI au).1,ya mO];rfl
  have aP:=S.Uh ab (by simp) GP
  have hl:(j6 (es.take n.toNat)).length=n.toNat:=by simp[j6];omega
  have GM:n=((j6 (es.take n.toNat)).length:Nat):=by rw[hl];omega
  have cJ:=Lib.run_unsafeString_row (P:=P) w t u ty e hu h1 b Ca.size (by simp[World.shape?,hh]) (j6 (es.take n.toNat)) (fun h=>by rw[h] at hl;simp at hl;omega) (by rw[hl];rw[h1] at hs;omega) (by rw[hl];unfold mz at hm;omega) (fun j x hx=>by
   have hj:j<n.toNat:=by
    have:=(bm.1 hx).1
    rw[hl] at this;exact this
   have gX:j<es.length:=by omega
   simp only[j6,gl,eE hj,bG gX,Option.map_some,dE] at hx
   obtain ⟨v,vf,bj⟩:=cF j 0 es[j] e (bG gX) (by simp[aR,mO]) (by omega)
   rw[h1] at vf
   simp only[bC,mO,cond_false] at bj
   have:=Mc he bj
   have hr:=eN.1 mK es[j] (jc (by rw[eE hj];exact bG gX))
   simp only[uL,aJ,dN] at hr
   have oK:(x.toNat:Int)=es[j].toInt:=by
    rw[←hx]
    have:es[j].toInt.toNat<256:=by omega
    simp only[UInt8.toNat_ofNat']
    omega
   rw[mI,cell?_cells hh,oK]
   rw[show 0+j=j*1+0 by omega,vf,this])
  obtain ⟨f1,f2,f3,f4,f5⟩:=V4 (w:=w) (b:=b) (n:=n.toNat)
  obtain ⟨k1,k2⟩:=BT (w':=w.freeze ⟨b,0,none⟩ n.toNat) S ab (by simp) (blk':= .dead) (by trivial) GP (cD rfl) (by simp) f1 f2 f3 ⟨f4,f5⟩ (fun _=> .dead)
  rw[←GM,hl] at cJ
  refine ⟨.string ⟨(j6 (es.take n.toNat)).toArray⟩,_,I,β,?_,k1,k2,.str ?_⟩
  ·simpa using cJ
  ·rfl
def GQ:Op→Bool
 | .call {callee:= .value (.func _),..}=>true
 | .call {callee:= .value (.tmp _),..}=>true
 | .defer _=>true
 | _=>false
theorem oH.val {o:Oper} {a:Act} {s:Sem Value} {r:R} (he:execOp a.eval o=(do Pure.pure (Next.value (←s)))) (h:cL P (s.run P w) w I β hp B M w0 r):oH P ((execOp a.eval o).run P w) w I β hp B M w0 r:=by
 rw[he];exact h.op
theorem V8 {A:cv} (S:aF P w I β hp B M w0) (hg:gi P A.aE w I) {a:Act} {sl:Nat→V} (hs:kb P w I β hp a sl) {ix nb:Nat} {o:Oper} (GR:GQ o.op=false) {r:R} {rd:List Nat}
  (h:(e6 P A sl ix nb o).run C hp=some (r,rd)):oH P ((execOp a.eval o).run P w) w I β hp B M w0 r:=by
 obtain ⟨dst,op,ty,pos,after,guard⟩:=o
 cases op<;>simp only[e6] at h<;>first|(cases h;done)|skip
 case move x=>
  obtain rfl:=aN h
  exact ⟨_,w,I,β,.inl (by simp[execOp]),Le.refl w I β hp,S,hs.ev hg ty x⟩
 case assign x=>
  obtain rfl:=aN h
  exact ⟨_,w,I,β,.inl (by simp[execOp]),Le.refl w I β hp,S,hs.ev hg ty x⟩
 case pick c x y=>
  have hc:=hs.ev hg ty c
  cases sQ:aO P A.aE ty sl c<;>rw[sQ] at h hc<;>simp only at h<;>first|(cases h;done)|skip
  rename_i t
  have V9:=hc.jJ
  have hx:=hs.ev hg ty x
  have hy:=hs.ev hg ty y
  have fin: ∀z:V,ao P w I β hp (if t then a.eval x else a.eval y) z→oH P ((execOp a.eval ⟨dst,.pick c x y,ty,pos,after,guard⟩).run P w) w I β hp B M w0 ⟨z,[]⟩:=by
   intro z hz
   exact ⟨_,w,I,β,.inl (by simp[execOp,V9,asBool]),Le.refl w I β hp,S,hz⟩
  cases Md:gone (aO P A.aE ty sl x) with
  | true=>
   rw[Md] at h
   obtain ⟨h1,h⟩:=aG h
   obtain rfl:=aN h
   have:t=false:=by simpa using h1
   subst this
   refine fin _ ?_
   simpa using hy
  | false=>
   rw[Md] at h
   simp only[cond_false] at h
   cases sZ:gone (aO P A.aE ty sl y) with
   | true=>
    rw[sZ] at h
    obtain ⟨h1,h⟩:=aG h
    obtain rfl:=aN h
    subst h1
    refine fin _ ?_
    simpa using hx
   | false=>
    rw[sZ] at h
    obtain rfl:=aN h
    exact fin _ (K0 hx hy)
 case makeFunc fn x y=>
  cases fn<;>simp only[e6] at h<;>first|(cases h;done)|skip
  rename_i f
  obtain rfl:=aN h
  refine ⟨.func (.func f) (x.map a.eval) (y.map a.eval),w,I,β,.inl (by simp[execOp,Instr.makeFunc]),Le.refl w I β hp,S,.fn (by simp) (fun j v z hj hz=> ?_) (by simp) (fun j v z hj hz=> ?_)⟩
  ·rw[Array.getElem?_map] at hj
   rw[gl,qL] at hz
   cases hx:x[j]? with
   | none=>rw[hx] at hj;cases hj
   | some o1=>
    rw[hx] at hj hz
    cases hj
    cases hz
    exact hs.ev hg ty o1
  ·rw[Array.getElem?_map] at hj
   rw[gl,qL] at hz
   cases hx:y[j]? with
   | none=>rw[hx] at hj;cases hj
   | some o1=>
    rw[hx] at hj hz
    cases hj
    cases hz
    exact hs.ev hg ty o1
 case defer c=>cases GR
 case makeMap t res=>
  cases res with
  | some x=>cases h
  | none=>exact .val rfl (VM S h)
 case lookup t m k ok=>
  cases ht:kP P t with
  | none=>rw[ht] at h;cases h
  | some q=>
   obtain ⟨kt,vt⟩:=q
   rw[ht] at h
   exact .val (s:=Instr.lookup t (a.eval m) (a.eval k) ok) rfl (VL S ht (hs.ev hg t m) (hs.ev hg kt k) h)
 case mapUpdate t m k x=>
  cases ht:kP P t with
  | none=>rw[ht] at h;cases h
  | some q=>
   obtain ⟨kt,vt⟩:=q
   rw[ht] at h
   have:=L5 S ht (hs.ev hg t m) (hs.ev hg kt k) (hs.ev hg vt x) h
   exact this.op
 case insert t m k x=>
  cases ht:kP P t with
  | none=>rw[ht] at h;cases h
  | some q=>
   obtain ⟨kt,vt⟩:=q
   rw[ht] at h
   have:=L5 S ht (hs.ev hg t m) (hs.ev hg kt k) (hs.ev hg vt x) h
   exact this.op
 case alloc e=>
  exact .val rfl (UZ S h)
 case box e x=>
  exact .val rfl (U0 S (hs.ev hg e x) h)
 case build t ps=>exact .val rfl (U2 S hs hg h)
 case buildSlice t len ps=>
  cases hu:P.underlying t with
  | none=>rw[hu] at h;cases h
  | some d=>
   rw[hu] at h
   cases d<;>simp only at h<;>first|(cases h;done)|skip
   exact .val rfl (Va S hs hg hu h)
 case load t x=>exact .val rfl (Ux S (hs.ev hg ty x) h)
 case store t x y=>
  have:=UT S (hs.ev hg ty x) (hs.ev hg t y) h
  exact this.op
 case nilCheck x=>
  have hx:=hs.ev hg ty x
  cases eR:aO P A.aE ty sl x<;>rw[eR] at h hx<;>simp only at h<;>first|(cases h;done)|skip
  ·obtain ⟨⟨blk,ab,hd⟩,l,h⟩:=uX h
   obtain rfl:=aN h
   have ch:=hx
   obtain ⟨b,hb,he⟩:=hx.gx ab hd
   rw[he] at ch
   exact ⟨_,w,I,β,.inl (by simp only[execOp,he];rfl),Le.refl w I β hp,S,ch⟩
  ·obtain rfl:=aN h
   have ch:=hx
   obtain ⟨b,o,he,_⟩:=hx.BW
   rw[he] at ch
   exact ⟨_,w,I,β,.inl (by simp only[execOp,he];rfl),Le.refl w I β hp,S,ch⟩
  ·obtain ⟨e0,es,aq,l,ab,h1,U,h3,h⟩:=nC h
   obtain rfl:=aN h
   have ch:=hx
   obtain ⟨b,o,he,_⟩:=hx.KY ab h1 U h3
   rw[he] at ch
   exact ⟨_,w,I,β,.inl (by simp only[execOp,he];rfl),Le.refl w I β hp,S,ch⟩
 case binOp op t x y yt=>
  have hx:=hs.ev hg t x
  have hy:=hs.ev hg t y
  refine .val (s:=do eqGuard op t x y (a.eval x) (a.eval y);binOp op t (a.eval x) (a.eval y)) rfl ?_
  cases eR:aO P A.aE t sl x<;>cases rq:aO P A.aE t sl y<;>rw[eR,rq] at h<;>rw[eR] at hx<;>rw[rq] at hy<;>first|(simp only[jC] at h;cases h;done)|skip
  ·rw[hx.dU,hy.dU]
   have:=Un S h
   simpa[Uk] using this
  ·rw[hx.jJ,hy.jJ]
   have:=Up S h
   simpa[Ul] using this
  ·obtain ⟨s1,e1,l1⟩:=hx.lH
   obtain ⟨s2,e2,l2⟩:=hy.lH
   rw[e1,e2]
   rw[←l1,←l2] at h
   have:=Uq (t:=t) S h
   simpa[Um] using this
  ·obtain ⟨cs,e1,h1,U⟩:=hx.kg
   obtain ⟨ds,e2,h3,h4⟩:=hy.kg
   rw[e1,e2]
   exact Ur S h1 h3 U h4 h
  ·
   simp only[jC] at h
   obtain ⟨h1,U⟩:=aG h
   clear h
   simp only[aJ,aQ] at h1
   obtain ⟨rfl,rfl,rfl⟩:=h1
   obtain ⟨⟨blk,ab,hd⟩,l,h⟩:=uX U
   obtain ⟨b,hb,e1⟩:=hx.gx ab hd
   obtain ⟨b',aA,e2⟩:=hy.gx ab hd
   rw[hb] at aA;cases aA
   rw[e1,e2]
   exact Cu S h (by cases op<;>simp[eqGuard]) fun e j he hj=>⟨run_eql_ptr_same w _ he hj,Lib.run_neq_ptr_same w _ he hj⟩
  ·simp only[jC] at h
   obtain ⟨⟨blk,ab,hd⟩,l,h⟩:=uX h
   obtain ⟨b,_,e1⟩:=hx.gx ab hd
   rw[e1,hy.Ct]
   exact Cu S h (by cases op<;>simp[eqGuard]) fun e j he hj=>⟨VY w t e _ he,VZ w t e _ he⟩
  ·simp only[jC] at h
   obtain ⟨⟨blk,ab,hd⟩,l,h⟩:=uX h
   obtain ⟨b,_,e1⟩:=hy.gx ab hd
   rw[e1,hx.Ct]
   exact Cu S h (by cases op<;>simp[eqGuard]) fun e j he hj=>⟨V0 w t e _ he,V1 w t e _ he⟩
  ·simp only[jC] at h
   rw[hx.Ct,hy.Ct]
   exact Cu S h (by cases op<;>simp[eqGuard]) fun e j he hj=>⟨V2 w t e he,V3 w t e he⟩
  ·
   simp only[jC] at h
   obtain ⟨l,h⟩:=run_get h
   split at h
   ·rename_i t2 es ab
    obtain ⟨b,hb⟩:=hx.VQ ab
    rw[hy.GN,hb]
    exact L7 (a:=some b) S x y h
   ·cases h
  ·simp only[jC] at h
   rw[hx.GN,hy.GN]
   exact L7 (a:=none) S x y h
 case unOp op t x=>exact .val rfl (Us S (hs.ev hg ty x) h)
 case convert src dst x=>
  have hx:=hs.ev hg ty x
  refine .val (s:=convert src dst (a.eval x)) rfl ?_
  cases ik:P.underlying src with
  | none=>rw[ik] at h;cases h
  | some d1=>
   cases k9:P.underlying dst with
   | none=>rw[ik,k9] at h;cases d1<;>cases h
   | some d2=>
    rw[ik,k9] at h
    have gO: ∀{b:Nat} {T:TypeId} {cs:List V} {id:Nat},hp id=some (.var T cs)→β id=some b→w.shape? b=some (T,cs.length):=by
     intro b T cs id ab hb
     have hr:=S.h.rel id _ ab
     rw[hb] at hr
     cases hr with
     | var aA hh aS _ _ _=>cases aA;simp[World.shape?,hh,aS]
    cases d1<;>(try (cases d2<;>cases h;done))
    ·cases d2<;>(try (cases h;done))
     rename_i k1 k2
     cases eR:aO P A.aE ty sl x<;>rw[eR] at h hx<;>simp only at h<;>first|(cases h;done)|skip
     obtain rfl:=aN h
     rw[hx.dU]
     exact .same S (by simp[convert,run_underlying ik,run_underlying k9,Conv.intToInt]) .int
    ·cases d2<;>(try (cases h;done))
     rename_i u
     cases eR:aO P A.aE ty sl x<;>rw[eR] at h hx<;>simp only at h<;>first|(cases h;done)|skip
     rename_i id i c
     obtain ⟨l,h1⟩:=run_get h
     cases ab:hp id with
     | none=>rw[ab] at h1;cases h1
     | some blk=>
      rw[ab] at h1
      cases blk<;>simp only at h1<;>first|(cases h1;done)|skip
      rename_i T cs
      obtain ⟨U,h3⟩:=aG h1
      simp only[aJ,aQ] at U
      obtain ⟨rfl,h4,h5⟩:=U
      obtain ⟨b,hb,e1⟩:=hx.gx ab (by simp)
      obtain rfl:=aN h3
      obtain ⟨j,hj⟩:=xr.1 h4
      have ch:=hx
      rw[e1] at ch⊢
      exact .same S (Lib.run_from_unsafe w _ ik k9 hj (gO ab hb) (by simpa using h5)) ch
    ·cases d2<;>(try (cases h;done))
     rename_i t
     cases eR:aO P A.aE ty sl x<;>rw[eR] at h hx<;>simp only at h<;>first|(cases h;done)|skip
     rename_i id i c
     obtain ⟨l,h1⟩:=run_get h
     cases ab:hp id with
     | none=>rw[ab] at h1;cases h1
     | some blk=>
      rw[ab] at h1
      cases blk<;>simp only at h1<;>first|(cases h1;done)|skip
      rename_i T cs
      obtain ⟨U,h3⟩:=aG h1
      simp only[aJ,aQ,jx] at U
      obtain ⟨rfl,h4,h5⟩:=U
      obtain ⟨b,hb,e1⟩:=hx.gx ab (by simp)
      obtain rfl:=aN h3
      cases hj:P.info? t with
      | none=>rw[hj] at h5;cases h5
      | some j=>
       rw[hj] at h5
       simp only[ml] at h5
       have h6:j.size≠0:=fun e=>by rw[e] at h5;cases h5
       have ch:=hx
       rw[e1] at ch⊢
       exact .same S (Lib.run_to_unsafe w _ ik k9 hj h6 (gO ab hb) (by simpa using h4)) ch
    ·rename_i e
     cases d2<;>(try (cases h;done))
     simp only at h
     cases he:P.underlying e with
     | none=>rw[he] at h;cases h
     | some d3=>
      rw[he] at h
      cases d3<;>(try (cases h;done))
      rename_i k
      cases k<;>(try (cases h;done))
      exact VX S ik he k9 hx h
 case fieldAddr s x f=>exact .val rfl (Ut S (hs.ev hg ty x) h)
 case field s x f=>exact .val rfl (Vr S (hs.ev hg ty x) h)
 case indexAddr t x y=>exact .val rfl (VA S (hs.ev hg ty x) (hs.ev hg 0 y) h)
 case index t x y=>
  have hx:=hs.ev hg ty x
  have hy:=hs.ev hg 0 y
  refine .val (s:=Instr.index t (a.eval x) (a.eval y)) rfl ?_
  cases hu:P.underlying t with
  | none=>rw[hu] at h;cases h
  | some d=>
   rw[hu] at h
   cases d<;>(try (cases h;done))
   cases eR:aO P A.aE ty sl x<;>rw[eR] at h hx<;>(try (cases h;done))
   cases rq:aO P A.aE 0 sl y<;>rw[rq] at h hy<;>(try (cases h;done))
   obtain ⟨s,e1,l1⟩:=hx.lH
   rw[e1,hy.dU]
   exact Vt S hu l1 h
 case slice t x lo hi mx=>
  cases mx with
  | some m=>
   simp only at h
   refine .val (s:=Instr.sliceAt t (a.eval x) (lo.map a.eval) (hi.map a.eval) (some (a.eval m))) (by simp[execOp]) (Vy S (hs.ev hg ty x) (fun hy=> ?_) (fun y hy=> ?_) (fun y hy=> ?_) h)
   ·cases lo with
    | none=>rfl
    | some l=>cases hy
   ·cases hi with
    | none=>cases hy
    | some l=>cases hy;exact ⟨_,rfl,hs.ev hg 0 l⟩
   ·cases hy;exact ⟨_,rfl,hs.ev hg 0 m⟩
  | none=>
   simp only at h
   have plain:(By P t (aO P A.aE ty sl x) (lo.map (aO P A.aE 0 sl)) (hi.map (aO P A.aE 0 sl))).run C hp=some (r,rd)→oH P ((execOp a.eval ⟨dst,.slice t x lo hi none,ty,pos,after,guard⟩).run P w) w I β hp B M w0 r:=by
    intro h
    refine .val (s:=Instr.sliceAt t (a.eval x) (lo.map a.eval) (hi.map a.eval) none) (by simp[execOp]) (Vx S (hs.ev hg ty x) (fun y hy=> ?_) (fun y hy=> ?_) (fun hy=> ?_) (fun hy=> ?_) h)
    ·cases lo with
     | none=>cases hy
     | some l=>cases hy;exact ⟨_,rfl,hs.ev hg 0 l⟩
    ·cases hi with
     | none=>cases hy
     | some l=>cases hy;exact ⟨_,rfl,hs.ev hg 0 l⟩
    ·cases lo with
     | none=>rfl
     | some l=>cases hy
    ·cases hi with
     | none=>rfl
     | some l=>cases hy
   have tr:(Bz P nb t (aO P A.aE ty sl x) (lo.map (aO P A.aE 0 sl)) (hi.map (aO P A.aE 0 sl))).run C hp=some (r,rd)→oH P ((execOp a.eval ⟨dst,.slice t x lo hi none,ty,pos,after,guard⟩).run P w) w I β hp B M w0 r:=by
    intro h
    refine .val (s:=Instr.sliceAt t (a.eval x) (lo.map a.eval) (hi.map a.eval) none) (by simp[execOp]) (VC S (hs.ev hg ty x) (fun y hy=> ?_) (fun hy=> ?_) h)
    ·cases hi with
     | none=>cases hy
     | some l=>cases hy;exact ⟨_,rfl,hs.ev hg 0 l⟩
    ·cases lo with
     | none=>rfl
     | some l=>cases hy
   cases dst with
   | none=>exact plain h
   | some d=>
    simp only at h
    cases Me:jA A.uC d with
    | true=>rw[Me] at h;exact tr h
    | false=>rw[Me] at h;exact plain h
 case extract x i=>
  have hx:=hs.ev hg ty x
  cases eR:aO P A.aE ty sl x<;>rw[eR] at h hx<;>simp only at h<;>first|(cases h;done)|skip
  exact .val (s:=Instr.extract (a.eval x) i) rfl (Vs S hx h)
 case makeSlice t l c=>
  have hl:=hs.ev hg 0 l
  have hc:=hs.ev hg 0 c
  refine .val (s:=Instr.makeSlice t (a.eval l) (a.eval c)) rfl ?_
  cases hu:P.underlying t with
  | none=>rw[hu] at h;cases h
  | some d=>
   rw[hu] at h
   cases d<;>(try (cases h;done))
   cases GS:aO P A.aE 0 sl l<;>rw[GS] at h hl<;>(try (cases h;done))
   cases sQ:aO P A.aE 0 sl c<;>rw[sQ] at h hc<;>(try (cases h;done))
   rw[hl.dU,hc.dU]
   cases dst with
   | none=>exact LB S hu h
   | some d=>
    simp only at h
    cases hg:jA A.uC d with
    | true=>rw[hg] at h;exact Vc S hu h
    | false=>rw[hg] at h;exact LB S hu h
 case call c=>
  obtain ⟨callee,args,argTypes⟩:=c
  cases callee with
  | invoke r m=>cases h
  | value f=>
   cases f with
   | func f=>cases GR
   | tmp f=>cases GR
   | _=>cases h
  | builtin b=>
   have one: ∀{x:Operand},args.toList=[x]→args= #[x]:=fun h=>by rw[←Array.toArray_toList (xs:=args),h]
   have qa: ∀(s:Array TypeId→TypeId→Array Value→Sem Value),builtin b argTypes ty (args.map fun| .const _=>true|_=>false) (args.map a.eval)=(do Pure.pure (Next.value (←s argTypes ty (args.map a.eval))))→
     execOp a.eval ⟨dst,.call ⟨.builtin b,args,argTypes⟩,ty,pos,after,guard⟩=(do Pure.pure (Next.value (←s argTypes ty (args.map a.eval)))):=by
    intro s hb
    simp only[execOp,resolve,pure_bind,invoke]
    exact hb
   cases b<;>(try (cases h;done))
   case append=>
    simp only at h
    cases ha:args.toList with
    | nil=>rw[ha] at h;cases h
    | cons x l=>
     cases l with
     | nil=>rw[ha] at h;cases h
     | cons y l2=>
      cases l2 with
      | cons _ _=>rw[ha] at h;cases h
      | nil=>
       cases cX:argTypes.toList with
       | nil=>rw[ha,cX] at h;cases h
       | cons t l3=>
        cases l3 with
        | nil=>rw[ha,cX] at h;cases h
        | cons u l4=>
         cases l4 with
         | cons _ _=>rw[ha,cX] at h;cases h
         | nil=>
          rw[ha,cX] at h
          simp only at h
          have e1:args= #[x,y]:=by rw[←Array.toArray_toList (xs:=args),ha]
          have e2:argTypes= #[t,u]:=by rw[←Array.toArray_toList (xs:=argTypes),cX]
          cases hu:P.underlying t with
          | none=>rw[hu] at h;cases h
          | some d=>
           rw[hu] at h
           cases d<;>(try (cases h;done))
           cases hc:Nat.beq t u with
           | true=>
            rw[hc] at h
            rw[aQ] at hc
            subst hc
            have:=Vf (ty:=ty) S hu (hs.ev hg t x) (hs.ev hg t y) h
            refine .val (qa Builtin.append_ rfl) ?_
            rw[e1,e2]
            simpa using this
           | false=>
            rw[hc] at h
            simp only[cond_false] at h
            have hy:=hs.ev hg u y
            cases nM:P.underlying u with
            | none=>rw[nM] at h;cases h
            | some du=>
             rw[nM] at h
             cases du<;>(try (cases h;done))
             cases rq:aO P A.aE u sl y<;>rw[rq] at h hy<;>(try (cases h;done))
             simp only at h
             obtain ⟨hb,h⟩:=aG h
             obtain ⟨s1,q1,q2⟩:=hy.lH
             subst q2
             have:=VW (ty:=ty) S hu nM (V5 hb) (hs.ev hg t x) h
             refine .val (qa Builtin.append_ rfl) ?_
             rw[e1,e2]
             simpa[q1] using this
   case len=>
    simp only at h
    cases ha:args.toList with
    | nil=>rw[ha] at h;cases h
    | cons x l=>
     cases l with
     | cons _ _=>rw[ha] at h;cases h
     | nil=>
      cases cX:argTypes.toList with
      | nil=>rw[ha,cX] at h;cases h
      | cons t l3=>
       cases l3 with
       | cons _ _=>rw[ha,cX] at h;cases h
       | nil=>
        rw[ha,cX] at h
        simp only at h
        have e1:args= #[x]:=by rw[←Array.toArray_toList (xs:=args),ha]
        have e2:argTypes= #[t]:=by rw[←Array.toArray_toList (xs:=argTypes),cX]
        have hx:=hs.ev hg ty x
        refine .val (qa Builtin.len_ rfl) ?_
        rw[e1,e2]
        cases hu:P.underlying t with
        | none=>rw[hu] at h;cases h
        | some d=>
         rw[hu] at h
         cases d<;>(try (cases h;done))
         ·cases eR:aO P A.aE ty sl x<;>rw[eR] at h hx<;>(try (cases h;done))
          have:=K1 (t:=t) (ty:=ty) S hx (fun l hl=>hu) (fun hn=>absurd rfl (hn _)) h
          simpa using this
         ·have U:(∀l,aO P A.aE ty sl x≠ .str l)∧(Bt P (aO P A.aE ty sl x)).run C hp=some (r,rd):=by
           cases eR:aO P A.aE ty sl x<;>rw[eR] at h<;>first|(cases h;done)|exact ⟨fun l=>by simp,h⟩
          have:=K1 (t:=t) (ty:=ty) S hx (fun l hl=>absurd hl (U.1 l)) (fun _=>⟨_,hu⟩) U.2
          simpa using this
         ·have U:(Bx (aO P A.aE ty sl x)).run C hp=some (r,rd):=by
           cases eR:aO P A.aE ty sl x<;>rw[eR] at h<;>exact h
          have:=VP (t:=t) (ty:=ty) S hu hx U
          simpa using this
   case unsafeSliceData=>
    simp only at h
    cases ha:args.toList with
    | nil=>rw[ha] at h;cases h
    | cons x l=>
     cases l with
     | cons _ _=>rw[ha] at h;cases h
     | nil=>
      rw[ha] at h
      simp only at h
      have e1:args= #[x]:=by rw[←Array.toArray_toList (xs:=args),ha]
      have hx:=hs.ev hg ty x
      refine .val (qa Builtin.unsafeSliceData_ rfl) ?_
      rw[e1]
      cases eR:aO P A.aE ty sl x<;>rw[eR] at h hx<;>simp only at h<;>first|(cases h;done)|skip
      rename_i e id
      obtain ⟨l2,h1⟩:=run_get h
      cases ab:hp id with
      | none=>rw[ab] at h1;cases h1
      | some blk=>
       rw[ab] at h1
       cases blk<;>simp only at h1<;>first|(cases h1;done)|skip
       rename_i e' es fz
       obtain ⟨U,h3⟩:=aG h1
       simp only[aJ,aQ,jx] at U
       obtain ⟨rfl,h4⟩:=U
       obtain rfl:=aN h3
       have:=V6 (ts:=argTypes) (ty:=ty) S hx ab h4
       simpa using this
   case unsafeString=>
    simp only at h
    cases ha:args.toList with
    | nil=>rw[ha] at h;cases h
    | cons x l=>
     cases l with
     | nil=>rw[ha] at h;cases h
     | cons y l2=>
      cases l2 with
      | cons _ _=>rw[ha] at h;cases h
      | nil=>
       cases cX:argTypes.toList with
       | nil=>rw[ha,cX] at h;cases h
       | cons t l3=>
        cases l3 with
        | nil=>rw[ha,cX] at h;cases h
        | cons u l4=>
         cases l4 with
         | cons _ _=>rw[ha,cX] at h;cases h
         | nil=>
          rw[ha,cX] at h
          simp only at h
          have e1:args= #[x,y]:=by rw[←Array.toArray_toList (xs:=args),ha]
          have e2:argTypes= #[t,u]:=by rw[←Array.toArray_toList (xs:=argTypes),cX]
          have hx:=hs.ev hg ty x
          have hy:=hs.ev hg ty y
          cases hu:P.underlying t with
          | none=>rw[hu] at h;cases h
          | some d=>
           rw[hu] at h
           cases d<;>(try (cases h;done))
           rename_i e
           cases eR:aO P A.aE ty sl x<;>rw[eR] at h hx<;>(try (cases h;done))
           cases rq:aO P A.aE ty sl y<;>rw[rq] at h hy<;>(try (cases h;done))
           rename_i id i c k n
           cases k<;>(try (cases h;done))
           simp only at h
           obtain ⟨l2,h1⟩:=run_get h
           cases ab:hp id with
           | none=>rw[ab] at h1;cases h1
           | some blk=>
            rw[ab] at h1
            cases blk<;>simp only at h1<;>first|(cases h1;done)|skip
            rename_i e' es fz
            cases fz<;>simp only at h1<;>first|(cases h1;done)|skip
            obtain ⟨U,h3⟩:=aG h1
            simp only[aJ,aQ,dD,dN] at U
            obtain ⟨rfl,h4,rfl,rfl,h5,h6,h7,h8⟩:=U
            obtain rfl:=aN h3
            have:=V7 (u:=u) (ty:=ty) S hu h4 hx ab h5 h6 h7 h8
            refine .val (qa Builtin.unsafeString_ rfl) ?_
            rw[e1,e2]
            simpa[hy.dU] using this
   case copy=>
    simp only at h
    cases ha:args.toList with
    | nil=>rw[ha] at h;cases h
    | cons x l=>
     cases l with
     | nil=>rw[ha] at h;cases h
     | cons y l2=>
      cases l2 with
      | cons _ _=>rw[ha] at h;cases h
      | nil=>
       cases cX:argTypes.toList with
       | nil=>rw[ha,cX] at h;cases h
       | cons t l3=>
        cases l3 with
        | nil=>rw[ha,cX] at h;cases h
        | cons u l4=>
         cases l4 with
         | cons _ _=>rw[ha,cX] at h;cases h
         | nil=>
          rw[ha,cX] at h
          simp only at h
          have e1:args= #[x,y]:=by rw[←Array.toArray_toList (xs:=args),ha]
          have e2:argTypes= #[t,u]:=by rw[←Array.toArray_toList (xs:=argTypes),cX]
          cases hu:P.underlying t with
          | none=>rw[hu] at h;cases h
          | some d=>
           rw[hu] at h
           cases d<;>(try (cases h;done))
           have:=Vl (u:=u) (ty:=ty) S hu (hs.ev hg t x) (hs.ev hg u y) h
           refine .val (qa Builtin.copy_ rfl) ?_
           rw[e1,e2]
           simpa using this
   case clear=>
    simp only at h
    cases ha:args.toList with
    | nil=>rw[ha] at h;cases h
    | cons x l=>
     cases l with
     | cons _ _=>rw[ha] at h;cases h
     | nil=>
      cases cX:argTypes.toList with
      | nil=>rw[ha,cX] at h;cases h
      | cons t l3=>
       cases l3 with
       | cons _ _=>rw[ha,cX] at h;cases h
       | nil=>
        rw[ha,cX] at h
        simp only at h
        have e1:args= #[x]:=by rw[←Array.toArray_toList (xs:=args),ha]
        have e2:argTypes= #[t]:=by rw[←Array.toArray_toList (xs:=argTypes),cX]
        cases hu:P.underlying t with
        | none=>rw[hu] at h;cases h
        | some d=>
         rw[hu] at h
         cases d<;>(try (cases h;done))
         have:=Vm (ty:=ty) S hu (hs.ev hg t x) h
         refine .val (qa Builtin.clear_ rfl) ?_
         rw[e1,e2]
         simpa using this
   case max=>
    simp only at h
    cases ha:args.toList with
    | nil=>rw[ha] at h;cases h
    | cons x l=>
     rw[ha] at h
     simp only at h
     have:=Gy S true (vs:=l.map a.eval) (xs:=l.map (aO P A.aE ty sl)) (hs.ev hg ty x) (by simp) (fun j u y hu hy=>by
      simp only[gl] at hu hy
      cases hl:l[j]? with
      | none=>rw[hl] at hu;cases hu
      | some z=>rw[hl] at hu hy;cases hu;cases hy;exact hs.ev hg ty z) h
     refine .val (qa Builtin.max_ rfl) ?_
     simpa[Builtin.max_,ha] using this
   case min=>
    simp only at h
    cases ha:args.toList with
    | nil=>rw[ha] at h;cases h
    | cons x l=>
     rw[ha] at h
     simp only at h
     have:=Gy S false (vs:=l.map a.eval) (xs:=l.map (aO P A.aE ty sl)) (hs.ev hg ty x) (by simp) (fun j u y hu hy=>by
      simp only[gl] at hu hy
      cases hl:l[j]? with
      | none=>rw[hl] at hu;cases hu
      | some z=>rw[hl] at hu hy;cases hu;cases hy;exact hs.ev hg ty z) h
     refine .val (qa Builtin.min_ rfl) ?_
     simpa[Builtin.min_,ha] using this
end
section
variable {P:Program} {A:cv} {w w':World} {I I' I2:Nat→Prop} {μ β av:Nat→Option Nat} {hp hp':Nat→Option an} {C:ag} {B:Nat} {M:Nat→Prop} {w0:Start}
theorem vk: ∀{l m:List Nat},dY.nw l m=true→l=m
 | [],[],_=>rfl
 | [],_::_,h=>by cases h
 | _::_,[],h=>by cases h
 | a::l,b::m,h=>by
  simp only[dY.nw,aJ,aQ] at h
  rw[h.1,vk h.2]
@[simp] theorem Mf (n:Nat):j7 (dO n)=n:=by simp[j7,dO,V.toInt]
theorem Cv: ∀(path:List (Nat × Nat)) (rest:List V),xJ (path.map (·.2)) ((path.map fun p=>dO p.1)++rest)=path
 | [],_=>rfl
 | p::l,rest=>by
  simp only[cH,List.cons_append,xJ,V.nth,Mf,j5,iI,Cv l rest]
theorem Cw {l:LS} {x:V} {ds:List V} (h:dY l x=some ds):ds.length=l.size∧(l= .pA∨∀rest,ia l (ds++rest)=x):=by
 cases l with
 | pA=>simp only[dY,dE] at h;subst h;exact ⟨rfl,.inl rfl⟩
 | int k=>
  cases x<;>simp only[dY] at h<;>first|(cases h;done)|skip
  rename_i k' n
  by_cases hk:k=k'
  ·subst hk
   simp only[qI,cond_true,dE] at h
   subst h
   exact ⟨rfl,.inr fun _=>rfl⟩
  ·simp[hk] at h
 | bool=>
  cases x<;>simp only[dY] at h<;>first|(cases h;done)|skip
  cases h
  exact ⟨rfl,.inr fun _=>rfl⟩
 | str=>
  cases x<;>simp only[dY] at h<;>first|(cases h;done)|skip
  cases h
  exact ⟨rfl,.inr fun _=>rfl⟩
 | list e=>
  cases x<;>simp only[dY] at h<;>first|(cases h;done)|skip
  rename_i e' es
  cases hb:Nat.beq e e' with
  | false=>rw[hb] at h;cases h
  | true=>
   rw[hb] at h
   rw[aQ] at hb
   subst hb
   cases h
   exact ⟨rfl,.inr fun _=>rfl⟩
 | whole e j=>
  cases x<;>simp only[dY] at h<;>first|(cases h;done)|skip
  rename_i e' id
  cases hb:(Nat.beq e e'&&Nat.beq j id) with
  | false=>rw[hb] at h;cases h
  | true=>
   rw[hb] at h
   simp only[aJ,aQ] at hb
   obtain ⟨rfl,rfl⟩:=hb
   cases h
   exact ⟨rfl,.inr fun _=>rfl⟩
 | sub e j=>
  cases x<;>simp only[dY] at h<;>first|(cases h;done)|skip
  rename_i e' id o n
  cases hb:(Nat.beq e e'&&Nat.beq j id) with
  | false=>rw[hb] at h;cases h
  | true=>
   rw[hb] at h
   simp only[aJ,aQ] at hb
   obtain ⟨rfl,rfl⟩:=hb
   cases h
   exact ⟨rfl,.inr fun _=>by simp[ia,V.nth]⟩
 | ptr j=>
  cases x<;>simp only[dY] at h<;>first|(cases h;done)|skip
  rename_i id i c
  cases hb:(Nat.beq j id) with
  | false=>rw[hb] at h;cases h
  | true=>
   rw[hb] at h
   rw[aQ] at hb
   subst hb
   cases h
   exact ⟨rfl,.inr fun _=>by simp[ia,V.nth]⟩
 | mw j i c=>
  cases x<;>simp only[dY] at h<;>first|(cases h;done)|skip
  rename_i id i' c'
  cases hb:(Nat.beq j id&&(Nat.beq i i'&&Nat.beq c c')) with
  | false=>rw[hb] at h;cases h
  | true=>
   rw[hb] at h
   simp only[aJ,aQ] at hb
   obtain ⟨rfl,rfl,rfl⟩:=hb
   cases h
   exact ⟨rfl,.inr fun _=>rfl⟩
 | nilS e=>
  cases x<;>simp only[dY] at h<;>first|(cases h;done)|skip
  rename_i e'
  cases hb:Nat.beq e e' with
  | false=>rw[hb] at h;cases h
  | true=>
   rw[hb] at h
   rw[aQ] at hb
   subst hb
   cases h
   exact ⟨rfl,.inr fun _=>rfl⟩
 | c7=>
  cases x<;>simp only[dY] at h<;>first|(cases h;done)|skip
  cases h
  exact ⟨rfl,.inr fun _=>rfl⟩
 | cf e j=>
  cases x<;>simp only[dY] at h<;>first|(cases h;done)|skip
  rename_i e' id
  cases hb:(Nat.beq e e'&&Nat.beq j id) with
  | false=>rw[hb] at h;cases h
  | true=>
   rw[hb] at h
   simp only[aJ,aQ] at hb
   obtain ⟨rfl,rfl⟩:=hb
   cases h
   exact ⟨rfl,.inr fun _=>rfl⟩
 | df e=>
  cases x<;>simp only[dY] at h<;>first|(cases h;done)|skip
  rename_i e'
  cases hb:Nat.beq e e' with
  | false=>rw[hb] at h;cases h
  | true=>
   rw[hb] at h
   rw[aQ] at hb
   subst hb
   cases h
   exact ⟨rfl,.inr fun _=>rfl⟩
 | Bm k n=>
  cases x<;>simp only[dY] at h<;>first|(cases h;done)|skip
  rename_i k' m
  cases hb:(decide (k=k')&&decide (m=n)) with
  | false=>rw[hb] at h;cases h
  | true=>
   rw[hb] at h
   simp only[aJ,dN] at hb
   obtain ⟨rfl,rfl⟩:=hb
   cases h
   exact ⟨rfl,.inr fun _=>rfl⟩
 | Bn b=>
  cases x<;>simp only[dY] at h<;>first|(cases h;done)|skip
  rename_i c
  cases hb:decide (b=c) with
  | false=>rw[hb] at h;cases h
  | true=>
   rw[hb] at h
   obtain rfl:=ly hb
   cases h
   exact ⟨rfl,.inr fun _=>rfl⟩
 | row e j cs=>
  cases x<;>simp only[dY] at h<;>first|(cases h;done)|skip
  rename_i e' id ver path
  cases hb:(Nat.beq e e'&&(Nat.beq j id&&(Nat.beq ver 0&&dY.nw cs (path.map (·.2))))) with
  | false=>rw[hb] at h;cases h
  | true=>
   rw[hb] at h
   simp only[aJ,aQ] at hb
   obtain ⟨rfl,rfl,rfl,nF⟩:=hb
   have:=vk nF
   subst this
   cases h
   exact ⟨by simp[LS.size],.inr fun rest=>by simp only[ia,Cv]⟩
 | cq j cs c=>
  cases x<;>simp only[dY] at h<;>first|(cases h;done)|skip
  rename_i id ver path i c'
  cases hb:(Nat.beq j id&&(Nat.beq ver 0&&(Nat.beq c c'&&dY.nw cs (path.map (·.2))))) with
  | false=>rw[hb] at h;cases h
  | true=>
   rw[hb] at h
   simp only[aJ,aQ] at hb
   obtain ⟨rfl,rfl,rfl,nF⟩:=hb
   have:=vk nF
   subst this
   cases h
   exact ⟨by simp[LS.size],.inr fun rest=>by simp only[ia,List.cons_append,V.nth,Mf,j5,iI,Cv]⟩
def LS.below (n:Nat) (x:V):Prop:= ∀id∈dZ x,id<n
def Mg:V→Prop
 | .agg _=>False
 | .aY _=>False
 | .fn .. =>False
 | .pref .. =>False
 | _=>True
theorem s0 {c:Bool} {a d:List V} (h:(bif c then some a else none)=some d):c=true:=by
 cases c with
 | true=>rfl
 | false=>cases h
theorem Wa {l:LS} {x:V} {ds:List V} {n:Nat} (h:dY l x=some ds) (hl:l≠ .pA) (au:l.ok n=true):Mg x∧LS.below n x:=by
 cases l<;>cases x<;>simp only[dY] at h<;>first|(cases h;done)|(exact absurd rfl hl)|skip
 all_goals refine ⟨trivial,fun id ab=> ?_⟩
 all_goals simp only[dZ,dX,List.not_mem_nil] at ab
 all_goals subst ab
 all_goals simp only[LS.ok,jx] at au
 all_goals
  have hb:=s0 h
  simp only[aJ,aQ] at hb
  omega
theorem ao.Wb {v:Value} {x:V} (h:ao P w I β hp v x) (hx:Mg x) (hs: ∀id∈dZ x,hp' id=hp id∧av id=β id):ao P w I av hp' v x:=by
 have one: ∀{id},id∈dZ x→hp' id=hp id∧av id=β id:=fun h=>hs _ h
 cases h with
 | undef=>exact .undef
 | int=>exact .int
 | bool=>exact .bool
 | str h=>exact .str h
 | list h=>exact .list h
 | nilS=>exact .nilS
 | agg=>exact hx.elim
 | aY=>exact hx.elim
 | c7=>exact .c7
 | fn=>exact hx.elim
 | pref=>exact hx.elim
 | dQ h=>exact .dQ ((one (by simp[dZ])).1.trans h)
 | fF h=>exact .fF ((one (by simp[dZ])).1.trans h)
 | jG h=>exact .jG ((one (by simp[dZ])).1.trans h)
 | dp h hb=>exact .dp ((one (by simp[dZ])).1.trans h) ((one (by simp[dZ])).2.trans hb)
 | whole h hb a b c=>exact .whole ((one (by simp[dZ])).1.trans h) ((one (by simp[dZ])).2.trans hb) a b c
 | eb h hb a b c=>exact .eb ((one (by simp[dZ])).1.trans h) ((one (by simp[dZ])).2.trans hb) a b c
 | fm h hb=>exact .fm ((one (by simp[dZ])).1.trans h) ((one (by simp[dZ])).2.trans hb)
 | sub h hb a b c=>exact .sub ((one (by simp[dZ])).1.trans h) ((one (by simp[dZ])).2.trans hb) a b c
 | ptr h hd hb=>exact .ptr ((one (by simp[dZ])).1.trans h) hd ((one (by simp[dZ])).2.trans hb)
 | jf h p6=>exact .jf ((one (by simp[dZ])).1.trans h) p6
 | jg h p6=>exact .jg ((one (by simp[dZ])).1.trans h) p6
 | row h hb a b c d=>exact .row ((one (by simp[dZ])).1.trans h) ((one (by simp[dZ])).2.trans hb) a b c d
 | cq h hb a b c d e=>exact .cq ((one (by simp[dZ])).1.trans h) ((one (by simp[dZ])).2.trans hb) a b c d e
 | df=>exact .df
 | gV h=>exact .gV ((one (by simp[dZ])).1.trans h)
 | cf h hb=>exact .cf ((one (by simp[dZ])).1.trans h) ((one (by simp[dZ])).2.trans hb)
theorem mP {a b:List V} {n:Nat} (h:a.length=n):(a++b).drop n=b:=by subst h;simp
def yB (n:Nat) (β:Nat→Option Nat) (hp:Nat→Option an) (av:Nat→Option Nat) (hp':Nat→Option an):Prop:= ∀id,id<n→hp' id=hp id∧av id=β id
theorem Mh {l:LS} {x:V} {ds:List V} {n:Nat} {v:Value} (h:dY l x=some ds) (au:l.ok n=true) (iy:yB n β hp av hp') (hv:ao P w I β hp v x) (rest:List V):
  ao P w I av hp' v (ia l (ds++rest)):=by
 rcases (Cw h).2 with e|e
 ·subst e;exact .undef
 ·rw[e rest]
  by_cases hu:l= .pA
  ·subst hu
   have:x= .undef:=(e rest).symm
   subst this
   exact .undef
  ·obtain ⟨h1,U⟩:=Wa h hu au
   exact hv.Wb h1 fun id ab=>iy id (U id ab)
theorem yC {n:Nat} (iy:yB n β hp av hp'): ∀{ls:List LS} {xs:List V} {ds:List V},oC ls xs=some ds→ls.all (LS.ok n)=true→
  ds.length=jD ls∧(∀rest,(gP ls (ds++rest)).length=xs.length)∧
  ∀(rest:List V) (j:Nat) (v:Value) (y:V),(∀x,xs[j]? =some x→ao P w I β hp v x)→(gP ls (ds++rest))[j]? =some y→ao P w I av hp' v y
 | [],[],ds,h,_=>by cases h;exact ⟨rfl,fun _=>rfl,fun rest j v y _ hy=>by simp[gP] at hy⟩
 | [],_::_,ds,h,_=>by cases h
 | _::_,[],ds,h,_=>by cases h
 | l::ls,x::xs,ds,h,au=>by
  simp only[oC] at h
  obtain ⟨a,h1,h⟩:=bind_some h
  obtain ⟨b,U,h⟩:=bind_some h
  cases h
  simp only[List.all_cons,aJ] at au
  obtain ⟨i1,i2,i3⟩:=yC iy U au.2
  have bX:=(Cw h1).1
  have hd: ∀rest,(a++b++rest).drop l.size=b++rest:=fun rest=>by rw[cd];exact mP bX
  refine ⟨by simp only[ca,jD];omega,fun rest=>by simp only[gP,List.length_cons,hd,i2],fun rest j v y hv hy=> ?_⟩
  simp only[gP,hd] at hy
  cases j with
  | zero=>
   simp at hy
   subst hy
   exact Mh h1 au.1 iy (hv x rfl) _
  | succ j=>exact i3 rest j v y (fun x hx=>hv x (by simpa using hx)) (by simpa using hy)
theorem GU: ∀{ls:List LS} {xs:List V} {ds:List V},oC ls xs=some ds→ls.all LS.plain=true→ds.length=jD ls∧∀rest,gP ls (ds++rest)=xs
 | [],[],ds,h,_=>by cases h;exact ⟨rfl,fun _=>rfl⟩
 | [],_::_,ds,h,_=>by cases h
 | _::_,[],ds,h,_=>by cases h
 | l::ls,x::xs,ds,h,au=>by
  simp only[oC] at h
  obtain ⟨a,h1,h⟩:=bind_some h
  obtain ⟨b,U,h⟩:=bind_some h
  cases h
  simp only[List.all_cons,aJ] at au
  obtain ⟨i1,i2⟩:=GU U au.2
  obtain ⟨bX,hm⟩:=Cw h1
  refine ⟨by simp only[ca,jD];omega,fun rest=> ?_⟩
  simp only[gP]
  rw[show (a++b++rest).drop l.size=b++rest by rw[cd];exact mP bX,i2,cd]
  rcases hm with e|e
  ·subst e;cases au.1
  ·rw[e]
theorem GV {n:Nat} (iy:yB n β hp av hp') {s:VS} {x:V} {ds:List V} (h:oD s x=some ds) (au:s.ok n=true):
  ds.length=s.size∧∀(rest:List V) (v:Value),ao P w I β hp v x→ao P w I av hp' v (j9 s (ds++rest)):=by
 cases s with
 | one l=>exact ⟨(Cw h).1,fun rest v hv=>Mh h au iy hv rest⟩
 | agg ls=>
  cases x<;>simp only[oD] at h<;>first|(cases h;done)|skip
  rename_i xs
  obtain ⟨i1,i2,i3⟩:=yC (P:=P) (w:=w) (I:=I) iy h au
  refine ⟨i1,fun rest v hv=> ?_⟩
  obtain ⟨cs,rfl,e1,e2⟩:=hv.kg
  exact .agg (by rw[i2];exact e1) fun j v y hj hy=>i3 rest j v y (fun x hx=>e2 j v x hj hx) hy
 | aY ls=>
  cases x<;>simp only[oD] at h<;>first|(cases h;done)|skip
  rename_i xs
  obtain ⟨i1,i2,i3⟩:=yC (P:=P) (w:=w) (I:=I) iy h au
  refine ⟨i1,fun rest v hv=> ?_⟩
  obtain ⟨cs,rfl,e1,e2⟩:=hv.sI
  exact .aY (by rw[i2];exact e1) fun j v y hj hy=>i3 rest j v y (fun x hx=>e2 j v x hj hx) hy
 | fn f a b=>
  cases x<;>simp only[oD] at h<;>first|(cases h;done)|skip
  rename_i f' xs ys
  cases hb:Nat.beq f f' with
  | false=>rw[hb] at h;cases h
  | true=>
   rw[hb] at h
   rw[aQ] at hb
   subst hb
   simp only[cond_true] at h
   obtain ⟨p,h1,h⟩:=bind_some h
   obtain ⟨q,U,h⟩:=bind_some h
   cases h
   simp only[VS.ok,aJ] at au
   obtain ⟨i1,i2,i3⟩:=yC (P:=P) (w:=w) (I:=I) iy h1 au.1
   obtain ⟨j1,j2,j3⟩:=yC (P:=P) (w:=w) (I:=I) iy U au.2
   refine ⟨by simp only[ca,VS.size];omega,fun rest v hv=> ?_⟩
   cases hv with
   | fn a1 a2 b1 b2=>
    simp only[j9]
    rw[show (p++q++rest).drop (jD a)=q++rest by rw[cd];exact mP i1,cd]
    exact .fn (by rw[i2];exact a1) (fun j v y hj hy=>i3 _ j v y (fun x hx=>a2 j v x hj hx) hy) (by rw[j2];exact b1) (fun j v y hj hy=>j3 _ j v y (fun x hx=>b2 j v x hj hx) hy)
 | pref ts ls=>
  cases x<;>simp only[oD] at h<;>first|(cases h;done)|skip
  rename_i uJ xs
  cases hb:dY.nw ts uJ with
  | false=>rw[hb] at h;cases h
  | true=>
   rw[hb] at h
   have:=vk hb
   subst this
   simp only[cond_true] at h
   refine ⟨?_,fun rest v hv=> ?_⟩
   ·exact (GU h au).1
   ·simp only[j9]
    rw[(GU h au).2]
    cases hv with
    | pref hl hI hc=>exact .pref hl hI hc
theorem yD {n:Nat} (iy:yB n β hp av hp'): ∀{ls:List VS} {xs:List V} {ds:List V},qF ls xs=some ds→ls.all (VS.ok n)=true→
  ds.length=qV ls∧(∀rest,(eZ ls (ds++rest)).length=xs.length)∧
  ∀(rest:List V) (j:Nat) (v:Value) (y:V),(∀x,xs[j]? =some x→ao P w I β hp v x)→(eZ ls (ds++rest))[j]? =some y→ao P w I av hp' v y
 | [],[],ds,h,_=>by cases h;exact ⟨rfl,fun _=>rfl,fun rest j v y _ hy=>by simp[eZ] at hy⟩
 | [],_::_,ds,h,_=>by cases h
 | _::_,[],ds,h,_=>by cases h
 | l::ls,x::xs,ds,h,au=>by
  simp only[qF] at h
  obtain ⟨a,h1,h⟩:=bind_some h
  obtain ⟨b,U,h⟩:=bind_some h
  cases h
  simp only[List.all_cons,aJ] at au
  obtain ⟨i1,i2,i3⟩:=yD iy U au.2
  obtain ⟨bX,vf⟩:=GV (P:=P) (w:=w) (I:=I) iy h1 au.1
  have hd: ∀rest,(a++b++rest).drop l.size=b++rest:=fun rest=>by rw[cd];exact mP bX
  refine ⟨by simp only[ca,qV];omega,fun rest=>by simp only[eZ,List.length_cons,hd,i2],fun rest j v y hv hy=> ?_⟩
  simp only[eZ,hd] at hy
  cases j with
  | zero=>
   simp at hy
   subst hy
   exact vf _ v (hv x rfl)
  | succ j=>exact i3 rest j v y (fun x hx=>hv x (by simpa using hx)) (by simpa using hy)
end
section
variable {P:Program} {A:cv} {w w':World} {I I' I2:Nat→Prop} {μ β av:Nat→Option Nat} {hp hp' hp0:Nat→Option an} {C:ag} {B:Nat} {M:Nat→Prop} {w0:Start}
theorem gC: ∀{l:List an} {j:Nat},jd l j=l[j]?
 | [],j=>by simp[jd]
 | b::l,0=>rfl
 | b::l,j+1=>by simp only[jd,gC,List.getElem?_cons_succ]
theorem GW {sl:Nat→V} {k:Nat} {y:V}: ∀{l:List (Nat × VS)} {ds:List V},xH sl l=some ds→(∀p∈l,∀d,oD p.2 (sl p.1)=some d→d.length=p.2.size)→
  ds.length=ny l∧∀rest,dm (eO l (ds++rest)) k=some y→∃s d fK,(k,s)∈l∧oD s (sl k)=some d∧y=j9 s (d++fK)
 | [],ds,h,_=>by cases h;exact ⟨rfl,fun rest h=>by cases h⟩
 | (q,s)::l,ds,h,hz=>by
  simp only[xH] at h
  obtain ⟨a,h1,h⟩:=bind_some h
  obtain ⟨b,U,h⟩:=bind_some h
  cases h
  obtain ⟨i1,i2⟩:=GW (k:=k) (y:=y) U fun p hp=>hz p (kK _ hp)
  have bX:=hz (q,s) (qM ..) a h1
  refine ⟨by simp only[ca,ny];simp only at bX;omega,fun rest hl=> ?_⟩
  simp only[eO,dm] at hl
  rw[show (a++b++rest).drop s.size=b++rest by rw[cd];exact mP bX] at hl
  cases hb:Nat.beq k q with
  | true=>
   rw[hb] at hl
   rw[aQ] at hb
   subst hb
   cases hl
   exact ⟨s,a,b++rest,qM ..,h1,by rw[cd]⟩
  | false=>
   rw[hb] at hl
   obtain ⟨s',d,fK,m1,m2,m3⟩:=i2 rest hl
   exact ⟨s',d,fK,kK _ m1,m2,m3⟩
theorem GX {α:Type} {c:Bool} {x:Option α} {a:α} (h:(bif c then x else none)=some a):c=true∧x=some a:=by
 cases c with
 | true=>exact ⟨rfl,h⟩
 | false=>cases h
theorem Wc {n:Nat} {b:BS} {o:Option an} {ds:List V} (h:j8 b o=some ds) (au:b.ok n=true):ds.length=b.size:=by
 cases b with
 | dead=>cases o<;>(cases h;rfl)
 | var T0 ls=>
  cases o with
  | none=>cases h
  | some blk=>
   cases blk<;>simp only[j8] at h<;>first|(cases h;done)|skip
   exact (yD (P:=default) (w:=default) (I:=fun _=>False) (β:=fun _=>none) (hp:=fun _=>none) (fun _ _=>⟨rfl,rfl⟩) (GX h).2 au).1
 | arr e fz=>
  cases o with
  | none=>cases h
  | some blk=>
   cases blk<;>simp only[j8] at h<;>first|(cases h;done)|skip
   rw[s0 h] at h
   cases h
   rfl
 | nest e=>
  cases o with
  | none=>cases h
  | some blk=>
   cases blk<;>simp only[j8] at h<;>first|(cases h;done)|skip
   rw[s0 h] at h
   cases h
   rfl
 | map t=>
  cases o with
  | none=>cases h
  | some blk=>
   cases blk<;>simp only[j8] at h<;>first|(cases h;done)|skip
   rw[s0 h] at h
   cases h
   rfl
theorem Mi {n:Nat}: ∀{l:List BS} {j:Nat} {ds:List V},xI hp j l=some ds→l.all (BS.ok n)=true→
  (∀rest,(ek l (ds++rest)).length=l.length)∧∀(rest:List V) (i:Nat) (blk:an),(ek l (ds++rest))[i]? =some blk→∃b d fK,l[i]? =some b∧b.ok n=true∧j8 b (hp (j+i))=some d∧blk=fj b (d++fK)
 | [],j,ds,h,_=>by cases h;exact ⟨fun _=>rfl,fun rest i blk hb=>by simp[ek] at hb⟩
 | b::l,j,ds,h,au=>by
  simp only[xI] at h
  obtain ⟨a,h1,h⟩:=bind_some h
  obtain ⟨c,U,h⟩:=bind_some h
  cases h
  simp only[List.all_cons,aJ] at au
  obtain ⟨i1,i2⟩:=Mi U au.2
  have bX:=Wc h1 au.1
  have hd: ∀rest,(a++c++rest).drop b.size=c++rest:=fun rest=>by rw[cd];exact mP bX
  refine ⟨fun rest=>by simp only[ek,List.length_cons,hd,i1],fun rest i blk hb=> ?_⟩
  simp only[ek,hd] at hb
  cases i with
  | zero=>
   simp at hb
   exact ⟨b,a,c++rest,rfl,au.1,h1,by rw[←hb]⟩
  | succ i=>
   obtain ⟨b',d,fK,m1,m2,m3,m4⟩:=i2 rest i blk (by simpa using hb)
   exact ⟨b',d,fK,by simpa using m1,m2,by rw[show j+(i+1)=j+1+i by omega];exact m3,m4⟩
theorem Wd {n:Nat} {b:BS} {blk:an} {ds rest:List V} (h:j8 b (some blk)=some ds) (au:b.ok n=true):
  blk.le (fj b (ds++rest))∧(fj b (ds++rest)= .dead∨fj b (ds++rest)=blk∨∃T ls cs,b= .var T ls∧blk= .var T cs∧qF ls cs=some ds∧fj b (ds++rest)= .var T (eZ ls (ds++rest))):=by
 cases b with
 | dead=>exact ⟨by cases blk<;>trivial,.inl rfl⟩
 | var T0 ls=>
  cases blk<;>simp only[j8] at h<;>first|(cases h;done)|skip
  obtain ⟨hT,h0⟩:=GX h
  clear h
  rw[aQ] at hT
  subst hT
  exact ⟨rfl,.inr (.inr ⟨_,_,_,rfl,rfl,h0,rfl⟩)⟩
 | arr e fz=>
  cases blk<;>simp only[j8] at h<;>first|(cases h;done)|skip
  rename_i e' es mB
  have hb:=s0 h
  simp only[aJ,aQ,beq_iff_eq] at hb
  obtain ⟨rfl,rfl⟩:=hb
  simp only[jb,beq_self_eq_true,Bool.and_self,cond_true,dE] at h
  subst h
  exact ⟨⟨rfl,rfl⟩,.inr (.inl rfl)⟩
 | nest e=>
  cases blk<;>simp only[j8] at h<;>first|(cases h;done)|skip
  rename_i e' es aq
  have hb:=s0 h
  simp only[aJ,aQ] at hb
  obtain ⟨rfl,hv⟩:=hb
  have:=vk hv
  subst this
  simp only[jb,mq] at h
  cases h
  exact ⟨⟨rfl,rfl,rfl,fun _=>b7 _⟩,.inr (.inl rfl)⟩
 | map t=>
  cases blk<;>simp only[j8] at h<;>first|(cases h;done)|skip
  rename_i t' es
  have hb:=s0 h
  rw[aQ] at hb
  subst hb
  simp only[jb,cond_true,dE] at h
  subst h
  exact ⟨rfl,.inr (.inl rfl)⟩
theorem Mj {m:Nat} {S:Shape} {st:St} {ds:List V} (h:je m S st=some ds):
  S.ok=true∧m≤S.a9.length∧∃a b,xH st.sl S.bJ=some a∧xI st.hp 0 S.a9=some b∧ds=a++b:=by
 unfold je at h
 cases hc:(S.ok&&Nat.ble m S.a9.length) with
 | false=>rw[hc] at h;cases h
 | true=>
  rw[hc] at h
  simp only[cond_true] at h
  simp only[aJ,dD] at hc
  obtain ⟨a,h1,h⟩:=bind_some h
  obtain ⟨b,U,h⟩:=bind_some h
  cases h
  exact ⟨hc.1,hc.2,a,b,h1,U,rfl⟩
theorem reshape {m:Nat} {S:Shape} {st:St} {ds:List V} (h:je m S st=some ds) (hS:aF P w I β st.hp B M w0):
  aF P w I β (bf S ds).hp B M w0∧(∀(k:Nat) (v:Value),ao P w I β st.hp v (st.sl k)→ao P w I β (bf S ds).hp v ((bf S ds).sl k))∧
  (∀(μ:Nat→Option Nat) (hp0:Nat→Option an),(∀id blk,hp0 id=some blk→id<m)→Le P w0.w w0.I μ hp0 w I β st.hp→Le P w0.w w0.I μ hp0 w I β (bf S ds).hp)∧
  ∀j blk',(bf S ds).hp j=some blk'→blk'≠ .dead→∃blk,st.hp j=some blk∧blk.le blk'∧∀o b,bp P w o blk' b→bp P w o blk b:=by
 obtain ⟨au,hm,a,b,h1,U,rfl⟩:=Mj h
 unfold Shape.ok at au
 rw[aJ] at au
 obtain ⟨Mk,GA⟩:=au
 have aS: ∀p∈S.bJ,∀d,oD p.2 (st.sl p.1)=some d→d.length=p.2.size:=fun p hp d hd=>
  (GV (P:=P) (w:=w) (I:=I) (β:=β) (hp:=st.hp) (fun _ _=>⟨rfl,rfl⟩) hd (eN.1 Mk p hp)).1
 have bX:a.length=ny S.bJ:=(GW (k:=0) (y:= .undef) h1 aS).1
 have Co:(bf S (a++b)).hp=jd (ek S.a9 (b++[])):=by
  simp only[bf,mk,dA]
  rw[mP bX]
 obtain ⟨bl,bg⟩:=Mi U GA
 have get: ∀j blk',(bf S (a++b)).hp j=some blk'→j<S.a9.length∧∃bs d fK,bs.ok S.a9.length=true∧j8 bs (st.hp j)=some d∧blk'=fj bs (d++fK):=by
  intro j blk' hj
  rw[Co,gC] at hj
  obtain ⟨bs,d,fK,m1,m2,m3,m4⟩:=bg [] j blk' hj
  rw[gj] at m3
  exact ⟨(bm.1 m1).1,bs,d,fK,m2,m3,m4⟩
 have have': ∀j,j<S.a9.length→∃blk',(bf S (a++b)).hp j=some blk':=by
  intro j hj
  rw[Co,gC]
  exact ⟨_,bG (by rw[bl];exact hj)⟩
 generalize gu:(bf S (a++b)).hp=s4 at*
 let bj:Nat→Option an:=fun id=>if id<S.a9.length then s4 id else st.hp id
 have back: ∀j blk',s4 j=some blk'→blk'≠ .dead→∃blk,st.hp j=some blk∧blk.le blk'∧(blk'=blk∨∃T ls cs d fK,ls.all (VS.ok S.a9.length)=true∧blk= .var T cs∧qF ls cs=some d∧blk'= .var T (eZ ls (d++fK))):=by
  intro j blk' hj hd
  obtain ⟨bW,bs,d,fK,m1,m2,m3⟩:=get j blk' hj
  cases bM:st.hp j with
  | none=>
   rw[bM] at m2
   cases bs<;>simp only[j8] at m2<;>first|(cases m2;done)|skip
   exact absurd m3 hd
  | some blk=>
   rw[bM] at m2
   obtain ⟨n1,n2⟩:=Wd (rest:=fK) m2 m1
   rw[←m3] at n1 n2
   refine ⟨blk,rfl,n1,?_⟩
   rcases n2 with e|e|⟨T,ls,cs,e1,e2,e3,e4⟩
   ·exact absurd e hd
   ·exact .inl e
   ·subst e1
    exact .inr ⟨T,ls,cs,d,fK,m1,e2,e3,e4⟩
 have We: ∀j blk,st.hp j=some blk→j<S.a9.length→∃blk',s4 j=some blk'∧blk.le blk':=by
  intro j blk hj bW
  obtain ⟨blk',aA⟩:=have' j bW
  refine ⟨blk',aA,?_⟩
  by_cases hd:blk'= .dead
  ·subst hd;cases blk<;>trivial
  ·obtain ⟨bP,e1,e2,_⟩:=back j blk' aA hd
   rw[hj] at e1;cases e1
   exact e2
 have Wf: ∀j e es aq e' aK vers',st.hp j=some (.nest e es aq)→s4 j=some (.nest e' aK vers')→e'=e∧aK=es∧vers'=aq:=by
  intro j e es aq e' aK vers' hj fT
  obtain ⟨blk,e1,_,e3⟩:=back j _ fT (by simp)
  rw[hj] at e1;cases e1
  rcases e3 with e3|⟨_,_,_,_,_,_,e3,_⟩
  ·cases e3;exact ⟨rfl,rfl,rfl⟩
  ·cases e3
 have hle:Le P w I β st.hp w I β bj:=by
  refine ⟨fun _ h=>h,fun _ _=>rfl,fun id blk ab=> ?_,fun _ _ _ _ _ _ _ _=>rfl,Le.rb (fun _ _ _ _ _ _=>rfl) fun id e es aq e' aK vers' ab bz=> ?_⟩
  ·by_cases hl:id<S.a9.length
   ·obtain ⟨blk',e1,e2⟩:=We id blk ab hl
    exact ⟨blk',by simp only[bj,aj hl];exact e1,e2,fun _=>rfl⟩
   ·exact ⟨blk,by simp only[bj,ai hl];exact ab,an.le_refl _,fun _=>rfl⟩
  ·by_cases hl:id<S.a9.length
   ·simp only[bj,aj hl] at bz
    exact Wf _ _ _ _ _ _ _ ab bz
   ·simp only[bj,ai hl] at bz
    rw[ab] at bz;cases bz
    exact ⟨rfl,rfl,rfl⟩
 have iy:yB S.a9.length β bj β s4:=fun id ab=>⟨by simp only[bj,aj ab],rfl⟩
 have u7: ∀j blk' blk o b,s4 j=some blk'→st.hp j=some blk→bp P w o blk' b→bp P w o blk b:=by
  intro j blk' blk o b fT hj ho
  obtain ⟨bP,e1,_,e3⟩:=back j blk' fT ho.alive
  rw[hj] at e1;cases e1
  rcases e3 with e3|⟨T,ls,cs,d,fK,_,e3,_,e5⟩
  ·subst e3;exact ho
  ·subst e3;subst e5
   exact .root (by simp) (ho.flat (by simp))
 refine ⟨⟨⟨fun j blk' hj=> ?_,fun j1 j2 b1 b2 b' e1 e2 o1 o2=> ?_,fun j blk b' hj ho=> ?_,hS.h.jh⟩,hS.bV,hS.size,hS.new,hS.io⟩,fun k v hv=> ?_,fun μ hp0 aP hE=> ?_,fun j blk' hj hd=> ?_⟩
 ·by_cases hd:blk'= .dead
  ·subst hd;exact .dead
  ·obtain ⟨blk,e1,_,e3⟩:=back j blk' hj hd
   have hr:=hS.h.rel j blk e1
   generalize β j=o at hr
   rcases e3 with e3|⟨T0,ls,cs,d,fK,q1,e3,e4,e5⟩
   ·subst e3
    cases hr with
    | @var xs b' Ca T hb hh hs cD hx fH=>
     obtain ⟨bW,bs,d,fK,m1,m2,m3⟩:=get j _ hj
     rw[e1] at m2
     cases bs<;>simp only[j8] at m2<;>first|(cases m2;done)|skip
     ·rename_i T0 ls
      simp only[fj] at m3
      obtain ⟨hT,m2⟩:=GX m2
      obtain ⟨i1,i2,i3⟩:=yD (P:=P) (w:=w) (I:=I) iy m2 m1
      injection m3 with m4 m3
      rw[m3]
      exact .var hb hh (by rw[i2];exact hs) cD (fun i v y hi hy=>i3 fK i v y (fun x ch=>(hx i v x hi ch).mono hle) hy) fH
     ·simp only[fj] at m3
      cases m3
    | dq hb=>exact .dq hb
    | arr a1 a2 a3 a4 a5 a6 a7=>exact .arr a1 a2 a3 a4 a5 a6 a7
    | dead=>exact absurd rfl hd
    | nest a1 a2 a3=>exact .nest a1 a2 a3
    | map a1 a2 a3 a4 a5 a6 a7=>exact .map a1 a2 a3 a4 a5 a6 a7
   ·subst e3
    subst e5
    cases hr with
    | @var xs b' Ca T hb hh hs cD hx fH=>
     obtain ⟨i1,i2,i3⟩:=yD (P:=P) (w:=w) (I:=I) iy e4 q1
     exact .var hb hh (by rw[i2];exact hs) cD (fun i v y hi hy=>i3 fK i v y (fun x ch=>(hx i v x hi ch).mono hle) hy) fH
 ·obtain ⟨c1,x1,_,_⟩:=back j1 b1 e1 o1.alive
  obtain ⟨c2,x2,_,_⟩:=back j2 b2 e2 o2.alive
  exact hS.h.inj j1 j2 c1 c2 b' x1 x2 (u7 _ _ _ _ _ e1 x1 o1) (u7 _ _ _ _ _ e2 x2 o2)
 ·obtain ⟨c1,x1,_,_⟩:=back j blk hj ho.alive
  exact hS.h.own j c1 b' x1 (u7 _ _ _ _ _ hj x1 ho)
 ·change ao P w I β s4 v (iL (eO S.bJ (a++b)) k)
  unfold iL
  cases GY:dm (eO S.bJ (a++b)) k with
  | none=>exact .undef
  | some y=>
   obtain ⟨s,d,fK,n1,n2,n3⟩:=(GW h1 aS).2 b GY
   simp only[Option.getD_some,n3]
   exact (GV (P:=P) (w:=w) (I:=I) iy n2 (eN.1 Mk _ n1)).2 fK v (hv.mono hle)
 ·have h3:=hE.trans hle
  refine ⟨h3.cW,h3.bV,fun id blk ab=> ?_,fun id blk blk' b' ab bz hd hb=> ?_,fun id e es aq e' aK vers' b2 q i c t v e1 l ab bz=> ?_⟩
  ·have hl:=aP id blk ab
   obtain ⟨blk',k1,k2,k3⟩:=h3.blk id blk ab
   simp only[bj,aj (show id<S.a9.length by omega)] at k1
   exact ⟨blk',k1,k2,k3⟩
  ·have hl:=aP id blk ab
   exact h3.size id blk blk' b' ab (by simp only[bj,aj (show id<S.a9.length by omega)];exact bz) hd hb
  ·have hl:=aP id _ ab
   exact h3.row id e es aq e' aK vers' b2 q i c t v e1 l ab (by simp only[bj,aj (show id<S.a9.length by omega)];exact bz)
 ·obtain ⟨blk,e1,e2,_⟩:=back j blk' hj hd
  exact ⟨blk,e1,e2,fun o b' ho=>u7 _ _ _ _ _ hj e1 ho⟩
end
section
variable {P:Program} {A:cv} {w w':World} {I I' I2:Nat→Prop} {μ β av:Nat→Option Nat} {hp hp' hp0:Nat→Option an} {C:ag} {B:Nat} {M:Nat→Prop} {w0:Start}
inductive dI (P:Program) (w:World) (β:Nat→Option Nat) (hp:Nat→Option an):Place→Option Nat→an→Prop
 | var {id:Nat} {T:TypeId} {cs GZ:List V}:hp id=some (.var T cs)→dI P w β hp (.blk id) (β id) (.var T GZ)
 | arr {id:Nat} {e:TypeId} {es:List V}:hp id=some (.arr e es false)→dI P w β hp (.blk id) (β id) (.arr e es false)
 | nest {id:Nat} {e:TypeId} {es:List V} {aq:List Nat}:hp id=some (.nest e es aq)→dI P w β hp (.blk id) (β id) (.nest e es [0,0,0])
 | row {id ver b b':Nat} {path:Path} {e0 e':TypeId} {es l:List V} {aq:List Nat}:hp id=some (.nest e0 es aq)→β id=some b→At P w b e0 es path b' e' l→xG P e'=true→
   0<path.length→path.length≤aq.length→bw aq (path.length-1)=ver→0<l.length→dI P w β hp (.row id ver path) (some b') (.arr e' l false)
 | map {id:Nat} {t:TypeId} {es:List V}:hp id=some (.map t es)→dI P w β hp (.blk id) (β id) (.map t es)
def yE (P:Program) (w:World) (β:Nat→Option Nat) (hp:Nat→Option an) (ρ:List Place) (μ:Nat→Option Nat) (hp0:Nat→Option an):Prop:=
 ∀j p,dP ρ j=some p→∃blk,hp0 j=some blk∧dI P w β hp p (μ j) blk
theorem nO: ∀{l m:List Place} {j:Nat} {p:Place},dP l j=some p→dP (l++m) j=some p
 | [],m,j,p,h=>by cases h
 | a::l,m,0,p,h=>h
 | a::l,m,j+1,p,h=>nO (l:=l) h
theorem la: ∀{l:List Place} {j:Nat},dP l j=l[j]?
 | [],j=>by simp[dP]
 | a::l,0=>rfl
 | a::l,j+1=>by simp only[dP,la,List.getElem?_cons_succ]
structure Ext (P:Program) (w:World) (I:Nat→Prop) (β:Nat→Option Nat) (hp:Nat→Option an) (h h':Hand) (d:List V) (u:List (Nat × an)):Prop where
 ds:h'.ds=h.ds++d
 upd:h'.upd=h.upd++u
 Cx: ∀q∈u,xZ hp q
 pl: ∃m,h'.pl=h.pl++m
 nodup:(h.pl.map Place.id).Nodup→(h'.pl.map Place.id).Nodup
theorem Ext.refl (h:Hand):Ext P w I β hp h h [] []:=⟨by simp,by simp,by simp,⟨[],by simp⟩,id⟩
theorem Ext.trans {h1 U h3:Hand} {d1 d2:List V} {u1 u2:List (Nat × an)} (a:Ext P w I β hp h1 U d1 u1) (b:Ext P w I β hp U h3 d2 u2):Ext P w I β hp h1 h3 (d1++d2) (u1++u2):=by
 obtain ⟨m1,e1⟩:=a.pl
 obtain ⟨m2,e2⟩:=b.pl
 exact ⟨by rw[b.ds,a.ds,cd],by rw[b.upd,a.upd,cd],fun q hq=>(ei.1 hq).elim (a.Cx q) (b.Cx q),⟨m1++m2,by rw[e2,e1,cd]⟩,fun h=>b.nodup (a.nodup h)⟩
theorem Ext.look {h h':Hand} {d:List V} {u:List (Nat × an)} (a:Ext P w I β hp h h' d u) {j:Nat} {p:Place} (hj:dP h.pl j=some p):dP h'.pl j=some p:=by
 obtain ⟨m,e⟩:=a.pl
 rw[e]
 exact nO hj
theorem Ext.leaf (h:Hand) (x:V):Ext P w I β hp h {h with ds:=h.ds++[x]} [x] []:=⟨rfl,by simp,by simp,⟨[],by simp⟩,id⟩
theorem Wg {α:Type} {ρ:List Place} {j:Nat} {p:Place} {k:List Place→Rd α} {r:α} {rd:List Nat} (h:(unify ρ j p k).run C hp=some (r,rd)) (hb: ∃id,p= .blk id∨∃ver path,p= .row id ver path):
  ∃jm,(k jm).run C hp=some (r,rd)∧(∃m,jm=ρ++m)∧dP jm j=some p∧((ρ.map Place.id).Nodup→(jm.map Place.id).Nodup):=by
 unfold unify at h
 cases hc:Nat.blt j ρ.length with
 | true=>
  rw[hc] at h
  obtain ⟨h1,U⟩:=aG h
  refine ⟨ρ,U,⟨[],by simp⟩,?_,id⟩
  unfold KO at h1
  split at h1
  ·rename_i a b he
   rw[aQ] at h1
   subst h1
   exact he
  ·cases h1
 | false=>
  rw[hc] at h
  obtain ⟨h1,U⟩:=aG h
  simp only[aJ,aQ,ml] at h1
  obtain ⟨rfl,h3⟩:=h1
  refine ⟨ρ++[p],U,⟨[p],rfl⟩,?_,fun hn=> ?_⟩
  ·rw[la];simp
  ·rw[fQ,Bg]
   refine ⟨hn,by simp,fun a ha b hb=> ?_⟩
   simp only[cH,gm,dX] at hb
   subst hb
   intro e
   subst e
   rw[u4 ha] at h3
   cases h3
theorem s5 {α:Type} {h:Hand} {j:Nat} {p:Place} {k:List Place→Rd α} {r:α} {rd:List Nat} (hr:(unify h.pl j p k).run C hp=some (r,rd)) (ds:List V):
  ∃jm,(k jm).run C hp=some (r,rd)∧dP jm j=some p∧Ext P w I β hp h {h with pl:=jm,ds:=h.ds++ds} ds []:=by
 obtain ⟨jm,a,b,c,d⟩:=Wg hr (by cases p with|blk id=>exact ⟨id,.inl rfl⟩|row id ver path=>exact ⟨id,.inr ⟨ver,path,rfl⟩⟩)
 exact ⟨jm,a,c,⟨rfl,by simp,by simp,b,d⟩⟩
theorem Wh {o:Option Nat} {blk:an} {e:TypeId} {id j:Nat} {v:Value} (hv:ao P w I β hp v (.whole e id)) (hl:dI P w β hp (.blk id) o blk) (hj:hp0 j=some blk) (jn:μ j=o):ao P w I' μ hp0 v (.whole e j):=by
 cases hl with
 | var h=>
  cases hv with
  | dQ U=>rw[h] at U;cases U
  | dp U=>rw[h] at U;cases U
  | whole U=>rw[h] at U;cases U
  | eb U=>rw[h] at U;cases U
 | arr h=>
  cases hv with
  | dQ U=>rw[h] at U;cases U
  | dp U hb=>rw[h] at U;cases U;exact .dp hj (jn.trans hb)
  | whole U hb a b c=>rw[h] at U;cases U;exact .whole hj (jn.trans hb) a b c
  | eb U=>rw[h] at U;cases U
 | nest h=>
  cases hv with
  | dQ U=>rw[h] at U;cases U
  | dp U=>rw[h] at U;cases U
  | whole U=>rw[h] at U;cases U
  | eb U hb a b c=>rw[h] at U;cases U;exact .eb hj (jn.trans hb) a b c
 | map h=>
  cases hv with
  | dQ U=>rw[h] at U;cases U
  | dp U=>rw[h] at U;cases U
  | whole U=>rw[h] at U;cases U
  | eb U=>rw[h] at U;cases U
theorem Wi {o:Option Nat} {blk:an} {t:TypeId} {id j:Nat} {v:Value} (hv:ao P w I β hp v (.cf t id)) (hl:dI P w β hp (.blk id) o blk) (hj:hp0 j=some blk) (jn:μ j=o):ao P w I' μ hp0 v (.cf t j):=by
 cases hv with
 | gV U=>cases hl<;>(rename_i h;rw[h] at U;cases U)
 | cf U hb=>
  cases hl<;>(rename_i h;rw[h] at U;cases U)
  exact .cf hj (jn.trans hb)
theorem Wj {o:Option Nat} {blk:an} {e:TypeId} {id off n j:Nat} {v:Value} (hv:ao P w I β hp v (.sub e id off n)) (hl:dI P w β hp (.blk id) o blk) (hj:hp0 j=some blk) (jn:μ j=o):ao P w I' μ hp0 v (.sub e j off n):=by
 cases hl with
 | var h=>
  cases hv with
  | fF U=>rw[h] at U;cases U
  | fm U=>rw[h] at U;cases U
  | sub U=>rw[h] at U;cases U
 | arr h=>
  cases hv with
  | fF U=>rw[h] at U;cases U
  | fm U hb=>rw[h] at U;cases U;exact .fm hj (jn.trans hb)
  | sub U hb a b c=>rw[h] at U;cases U;exact .sub hj (jn.trans hb) a b c
 | nest h=>
  cases hv with
  | fF U=>rw[h] at U;cases U
  | fm U=>rw[h] at U;cases U
  | sub U=>rw[h] at U;cases U
 | map h=>
  cases hv with
  | fF U=>rw[h] at U;cases U
  | fm U=>rw[h] at U;cases U
  | sub U=>rw[h] at U;cases U
theorem Ml {o:Option Nat} {blk:an} {id i c j:Nat} {v:Value} (hv:ao P w I β hp v (.ptr id i c)) (hl:dI P w β hp (.blk id) o blk) (hj:hp0 j=some blk) (jn:μ j=o):ao P w I' μ hp0 v (.ptr j i c):=by
 cases hl with
 | @var _ T0 cs GZ h=>
  obtain ⟨b,hb,rfl⟩:=hv.gx h (by simp)
  exact ao.ptr (blk:= .var T0 GZ) hj (by simp) (jn.trans hb)
 | @arr _ e es h=>
  obtain ⟨b,hb,rfl⟩:=hv.gx h (by simp)
  exact ao.ptr (blk:= .arr e es false) hj (by simp) (jn.trans hb)
 | @nest _ e es aq h=>
  obtain ⟨b,hb,rfl⟩:=hv.gx h (by simp)
  exact ao.ptr (blk:= .nest e es [0,0,0]) hj (by simp) (jn.trans hb)
 | @map _ t es h=>
  obtain ⟨b,hb,rfl⟩:=hv.gx h (by simp)
  exact ao.ptr (blk:= .map t es) hj (by simp) (jn.trans hb)
theorem Wk (cr: ∀id blk,hp id=some blk→dF P w I β hp (β id) blk) {id b i c:Nat} {e0 t:TypeId} {es l:List V} {aq:List Nat} {q:Path} {e:TypeId} {v:Value} (ab:hp id=some (.nest e0 es aq)) (hb:β id=some b)
  (ht:P.underlying t=some (.slice e)) (hc:lF P w b e0 es q i c t v (.list e l)) (hl:0<l.length): ∃b1 cap,v= .slice (some ⟨b1,0,none⟩) l.length cap∧cap*P.cellsOf e=bsize w b1∧l.length≤cap∧cap≤maxLen∧At P w b e0 es (q++[(i,c)]) b1 e l:=by
 obtain ⟨b2,e1,m,Ca,T,f,x,n1,n2,n3,n4,n5,n6⟩:=hc
 have hr:=cr _ _ ab
 cases hr with
 | nest aA hr hn=>
  rw[hb] at aA;cases aA
  have hR:=hr _ _ _ _ n1
  obtain ⟨yc,c1,c2,c3⟩:=hR.cells
  rw[n2] at c1
  cases c1
  have sH:c<P.cellsOf e1:=by rw[←e9 hR.ok];exact (bm.1 n4).1
  obtain ⟨v',d1,d2⟩:=c3 i c x t n3 n4 sH
  rw[n6] at d1
  cases d1
  rw[n5] at d2
  generalize hy:V.list e l=y at d2
  cases d2 with
  | fl a p=>unfold fi at a;rw[ht] at a;cases a
  | emp hu ha=>cases hy;simp at hl
  | row hu ji aS bS nD=>
   cases hy
   exact ⟨_,_,rfl,aS,bS,nD,n1.snoc n2 n3 n4 ht n5 ji n6⟩
theorem Wl (S:aF P w I β hp B M w0) {o:Option Nat} {blk:an} {e:TypeId} {id ver j:Nat} {path:Path} {v:Value} (hv:ao P w I β hp v (.row e id ver path)) (hl:dI P w β hp (.row id ver path) o blk) (hj:hp0 j=some blk) (jn:μ j=o):ao P w I' μ hp0 v (.whole e j):=by
 cases hl with
 | row h hb ha hf h1 U h3 h4=>
  obtain ⟨b2,q,i,c,t,l2,rfl,iq,ht,hc⟩:=hv.KW h h1 U h3
  rw[hb] at iq;cases iq
  obtain ⟨p1,p2⟩:=FV ha
  have ij:=hc
  obtain ⟨b3,e3,m3,Ca,T,f,x,n1,n2,n3,n4,n5,n6⟩:=ij
  obtain ⟨q1,q2⟩:=BN n1 n3 n4 ht n5
  rw[p1] at q1
  rw[p2] at q2
  cases q1
  cases q2
  obtain ⟨b1,cap,rfl,m1,m2,m4,m5⟩:=Wk S.h.rel h hb ht hc h4
  have:=Wm ha m5
  subst this
  exact .whole hj jn m1 m2 m4
where
 Wm {b b1 b2:Nat} {e e1 e2:TypeId} {es l l2:List V} {q:Path} (h:At P w b e es q b1 e1 l) (U:At P w b e es q b2 e2 l2):b2=b1:=(h.fun U).1
theorem Mm (S:aF P w I β hp B M w0) {α:Type} {l:LS} {x:V} {h:Hand} {k:Hand→Rd α} {r:α} {rd:List Nat} {v:Value} (hr:(BB P l x h k).run C hp=some (r,rd)) (hv:ao P w I β hp v x):
  ∃h' eB d u,(k h').run C hp=some (r,eB)∧Ext P w I β hp h h' d u∧d.length=l.size∧
   ∀(I':Nat→Prop) (μ:Nat→Option Nat) (hp0:Nat→Option an),(∀b,I b→I' b)→(∀q∈u,∀b,rf P w β hp q.1 b→I' b)→∀ρ m,ρ=h'.pl++m→yE P w β hp ρ μ hp0→∀rest,ao P w I' μ hp0 v (ia l (d++rest)):=by
 have plain: ∀{x':V} {iQ:List Nat},(k {h with ds:=h.ds++[x']}).run C hp=some (r,iQ)→l.size=1→(∀I' μ hp0 rest,ao P w I' μ hp0 v (ia l ([x']++rest)))→∃h' eB d u,(k h').run C hp=some (r,eB)∧Ext P w I β hp h h' d u∧d.length=l.size∧
   ∀(I':Nat→Prop) (μ:Nat→Option Nat) (hp0:Nat→Option an),(∀b,I b→I' b)→(∀q∈u,∀b,rf P w β hp q.1 b→I' b)→∀ρ m,ρ=h'.pl++m→yE P w β hp ρ μ hp0→∀rest,ao P w I' μ hp0 v (ia l (d++rest)):=
  fun hk hs hx=>⟨_,_,_,_,hk,Ext.leaf h _,hs.symm,fun I' μ hp0 _ _ _ _ _ _ rest=>hx I' μ hp0 rest⟩
 have mM: ∀{iQ:List Nat},(k h).run C hp=some (r,iQ)→l.size=0→(∀I' μ hp0 rest,ao P w I' μ hp0 v (ia l rest))→∃h' eB d u,(k h').run C hp=some (r,eB)∧Ext P w I β hp h h' d u∧d.length=l.size∧
   ∀(I':Nat→Prop) (μ:Nat→Option Nat) (hp0:Nat→Option an),(∀b,I b→I' b)→(∀q∈u,∀b,rf P w β hp q.1 b→I' b)→∀ρ m,ρ=h'.pl++m→yE P w β hp ρ μ hp0→∀rest,ao P w I' μ hp0 v (ia l (d++rest)):=
  fun hk hs hx=>⟨_,_,_,_,hk,Ext.refl h,by simp[hs],fun I' μ hp0 _ _ _ _ _ _ rest=>hx I' μ hp0 rest⟩
 unfold BB at hr
 cases l with
 | pA=>exact mM hr rfl fun _ _ _ _=> .undef
 | int kd=>
  cases x<;>simp only at hr<;>first|(cases hr;done)|skip
  obtain ⟨h1,U⟩:=aG hr
  simp only[dN] at h1
  subst h1
  obtain rfl:=hv.dU
  exact plain U rfl fun _ _ _ _=> .int
 | bool=>
  cases x<;>simp only at hr<;>first|(cases hr;done)|skip
  obtain rfl:=hv.jJ
  exact plain hr rfl fun _ _ _ _=> .bool
 | str=>
  cases x<;>simp only at hr<;>first|(cases hr;done)|skip
  obtain ⟨s,rfl,hl⟩:=hv.lH
  exact plain hr rfl fun _ _ _ _=> .str hl
 | nilS e=>
  cases x<;>simp only at hr<;>first|(cases hr;done)|skip
  obtain ⟨h1,U⟩:=aG hr
  cases hv with
  | nilS=>exact mM U rfl fun _ _ _ _=> .nilS
 | c7=>
  cases x<;>simp only at hr<;>first|(cases hr;done)|skip
  cases hv with
  | c7=>exact mM hr rfl fun _ _ _ _=> .c7
 | row e j cs=>
  cases x<;>simp only at hr<;>first|(cases hr;done)|skip
  rename_i e' id ver path
  obtain ⟨e0,es,aq,l0,ab,p1,p2,p3,hr⟩:=nC hr
  obtain ⟨h1,U⟩:=aG hr
  simp only[aJ,aQ,dD] at h1
  obtain ⟨rfl,nF,Wn⟩:=h1
  have:=vk nF
  subst this
  obtain ⟨jm,a,b,c⟩:=s5 (P:=P) (w:=w) (I:=I) (β:=β) U (path.map fun p=>dO p.1)
  refine ⟨_,_,path.map fun p=>dO p.1,[],a,c,by simp[LS.size],fun I' μ hp0 i1 i2 ρ m c8 cO rest=> ?_⟩
  obtain ⟨blk,k1,k2⟩:=cO j _ (by rw[c8];exact nO b)
  obtain ⟨bb,q,i,cc,t,l,rfl,hb,ht,hc⟩:=hv.KW ab p1 p2 p3
  have pR:blk= .nest e0 es [0,0,0]∧μ j=β id:=by
   generalize μ j=o at k2
   cases k2 with
   | var h=>rw[ab] at h;cases h
   | arr h=>rw[ab] at h;cases h
   | map h=>rw[ab] at h;cases h
   | nest h=>rw[ab] at h;cases h;exact ⟨rfl,rfl⟩
  obtain ⟨rfl,jn⟩:=pR
  simp only[ia,Cv]
  have hq:q.length<3:=by rw[ca,List.length_singleton] at Wn;omega
  refine .row k1 (jn.trans hb) (by simpa using hq) ?_ ht hc
  match q.length,hq with
  | 0,_=>rfl
  | 1,_=>rfl
  | 2,_=>rfl
 | cq j cs c=>cases hr
 | Bm k n=>cases hr
 | Bn b=>cases hr
 | df t=>
  cases x<;>simp only at hr<;>first|(cases hr;done)|skip
  obtain ⟨h1,U⟩:=aG hr
  cases hv with
  | df=>exact mM U rfl fun _ _ _ _=> .df
 | cf t j=>
  cases x<;>simp only at hr<;>first|(cases hr;done)|skip
  rename_i t' id
  obtain ⟨h1,U⟩:=aG hr
  rw[aQ] at h1
  subst h1
  obtain ⟨jm,a,b,c⟩:=s5 (P:=P) (w:=w) (I:=I) (β:=β) U []
  refine ⟨_,_,[],[],a,by simpa using c,rfl,fun I' μ hp0 i1 i2 ρ m c8 cO rest=> ?_⟩
  obtain ⟨blk,k1,k2⟩:=cO j _ (by rw[c8];exact nO b)
  exact Wi hv k2 k1 rfl
 | list e=>
  obtain ⟨⟨y,u⟩,l1,l2,h1,U⟩:=kf hr
  cases y<;>simp only at U<;>first|(cases U;done)|skip
  rename_i e' es
  obtain ⟨h3,h4⟩:=aG U
  rw[aQ] at h3
  subst h3
  obtain ⟨p1,p2⟩:=BO S.h.rel h1 hv
  exact ⟨_,_,[.list e es],u,h4,⟨rfl,rfl,p1,⟨[],by simp⟩,id⟩,rfl,fun I' μ hp0 i1 i2 _ _ _ _ rest=> .list (p2 I' i1 i2)⟩
 | whole e j=>
  cases x<;>simp only at hr<;>first|(cases hr;done)|skip
  ·rename_i e' id
   obtain ⟨h1,U⟩:=aG hr
   rw[aQ] at h1
   subst h1
   obtain ⟨jm,a,b,c⟩:=s5 (P:=P) (w:=w) (I:=I) (β:=β) U []
   refine ⟨_,_,[],[],a,by simpa using c,rfl,fun I' μ hp0 i1 i2 ρ m c8 cO rest=> ?_⟩
   obtain ⟨blk,k1,k2⟩:=cO j _ (by rw[c8];exact nO b)
   exact Wh hv k2 k1 rfl
  ·rename_i e' id ver path
   obtain ⟨h1,U⟩:=aG hr
   rw[aQ] at h1
   subst h1
   obtain ⟨jm,a,b,c⟩:=s5 (P:=P) (w:=w) (I:=I) (β:=β) U []
   refine ⟨_,_,[],[],a,by simpa using c,rfl,fun I' μ hp0 i1 i2 ρ m c8 cO rest=> ?_⟩
   obtain ⟨blk,k1,k2⟩:=cO j _ (by rw[c8];exact nO b)
   exact Wl S hv k2 k1 rfl
 | sub e j=>
  cases x<;>simp only at hr<;>first|(cases hr;done)|skip
  rename_i e' id o n
  obtain ⟨h1,U⟩:=aG hr
  rw[aQ] at h1
  subst h1
  obtain ⟨jm,a,b,c⟩:=s5 (P:=P) (w:=w) (I:=I) (β:=β) U [dO o,dO n]
  refine ⟨_,_,[dO o,dO n],[],a,c,rfl,fun I' μ hp0 i1 i2 ρ m c8 cO rest=> ?_⟩
  obtain ⟨blk,k1,k2⟩:=cO j _ (by rw[c8];exact nO b)
  simpa[ia,V.nth] using Wj (I':=I') hv k2 k1 rfl
 | ptr j=>
  cases x<;>simp only at hr<;>first|(cases hr;done)|skip
  rename_i id i c
  obtain ⟨jm,a,b,c'⟩:=s5 (P:=P) (w:=w) (I:=I) (β:=β) hr [dO i,dO c]
  refine ⟨_,_,[dO i,dO c],[],a,c',rfl,fun I' μ hp0 i1 i2 ρ m c8 cO rest=> ?_⟩
  obtain ⟨blk,k1,k2⟩:=cO j _ (by rw[c8];exact nO b)
  simpa[ia,V.nth] using Ml (I':=I') hv k2 k1 rfl
 | mw j i c=>
  cases x<;>simp only at hr<;>first|(cases hr;done)|skip
  rename_i id i' c'
  obtain ⟨h1,U⟩:=aG hr
  simp only[aJ,aQ] at h1
  obtain ⟨rfl,rfl⟩:=h1
  obtain ⟨jm,a,b,c'⟩:=s5 (P:=P) (w:=w) (I:=I) (β:=β) U []
  refine ⟨_,_,[],[],a,by simpa using c',rfl,fun I' μ hp0 i1 i2 ρ m c8 cO rest=> ?_⟩
  obtain ⟨blk,k1,k2⟩:=cO j _ (by rw[c8];exact nO b)
  exact Ml hv k2 k1 rfl
end
section
variable {P:Program} {A:cv} {w w':World} {I I' I2:Nat→Prop} {μ β av:Nat→Option Nat} {hp hp' hp0:Nat→Option an} {C:ag} {B:Nat} {M:Nat→Prop} {w0:Start}
def lP (P:Program) (w:World) (I:Nat→Prop) (β:Nat→Option Nat) (hp:Nat→Option an) (h':Hand) (u:List (Nat × an)) (K:(Nat→Prop)→(Nat→Option Nat)→(Nat→Option an)→Prop):Prop:=
 ∀(I':Nat→Prop) (μ:Nat→Option Nat) (hp0:Nat→Option an),(∀b,I b→I' b)→(∀q∈u,∀b,rf P w β hp q.1 b→I' b)→∀ρ m,ρ=h'.pl++m→yE P w β hp ρ μ hp0→K I' μ hp0
theorem lP.yF {h h':Hand} {d:List V} {u u':List (Nat × an)} {K:(Nat→Prop)→(Nat→Option Nat)→(Nat→Option an)→Prop} (t:lP P w I β hp h u K) (e:Ext P w I β hp h h' d u'):lP P w I β hp h' (u++u') K:=by
 obtain ⟨m1,e1⟩:=e.pl
 exact fun I' μ hp0 i1 i2 ρ m c8 cO=>t I' μ hp0 i1 (fun q hq=>i2 q (ei.2 (.inl hq))) ρ (m1++m) (by rw[c8,e1,cd]) cO
theorem lP.more {h:Hand} {u u':List (Nat × an)} {K:(Nat→Prop)→(Nat→Option Nat)→(Nat→Option an)→Prop} (t:lP P w I β hp h u K):lP P w I β hp h (u'++u) K:=
 fun I' μ hp0 i1 i2 ρ m c8 cO=>t I' μ hp0 i1 (fun q hq=>i2 q (ei.2 (.inr hq))) ρ m c8 cO
theorem Cy (S:aF P w I β hp B M w0) {α:Type}: ∀{ls:List LS} {xs:List V} {h:Hand} {k:Hand→Rd α} {r:α} {rd:List Nat} {vs:List Value},(uK P ls xs h k).run C hp=some (r,rd)→vs.length=xs.length→
  (∀(j:Nat) v x,vs[j]? =some v→xs[j]? =some x→ao P w I β hp v x)→
  ∃h' eB d u,(k h').run C hp=some (r,eB)∧Ext P w I β hp h h' d u∧d.length=jD ls∧ls.length=xs.length∧
   lP P w I β hp h' u fun I' μ hp0=> ∀rest,(gP ls (d++rest)).length=xs.length∧∀(j:Nat) v y,vs[j]? =some v→(gP ls (d++rest))[j]? =some y→ao P w I' μ hp0 v y
 | [],[],h,k,r,rd,vs,hr,hl,hv=>⟨h,rd,[],[],hr,Ext.refl h,rfl,rfl,fun I' μ hp0 _ _ _ _ _ _ rest=>⟨rfl,fun j v y _ hy=>by simp[gP] at hy⟩⟩
 | [],_::_,h,k,r,rd,vs,hr,hl,hv=>by cases hr
 | _::_,[],h,k,r,rd,vs,hr,hl,hv=>by cases hr
 | l::ls,x::xs,h,k,r,rd,vs,hr,hl,hv=>by
  cases vs with
  | nil=>simp at hl
  | cons v vs=>
   simp only[uK] at hr
   obtain ⟨h1,iQ,d1,u1,a1,a2,a3,a4⟩:=Mm S hr (hv 0 v x rfl rfl)
   obtain ⟨U,rr,d2,u2,b1,b2,b3,b5,b4⟩:=Cy S a1 (by simpa using hl) (vs:=vs) (fun j v x hj hx=>hv (j+1) v x (by simpa using hj) (by simpa using hx))
   have Wo:lP P w I β hp h1 u1 fun I' μ hp0=> ∀rest,ao P w I' μ hp0 v (ia l (d1++rest)):=a4
   refine ⟨U,rr,d1++d2,u1++u2,b1,a2.trans b2,by simp only[ca,jD];omega,by simp[b5],fun I' μ hp0 i1 i2 ρ m c8 cO rest=> ?_⟩
   have k1:=(Wo.yF b2) I' μ hp0 i1 i2 ρ m c8 cO (d2++rest)
   obtain ⟨k2,k3⟩:=b4.more I' μ hp0 i1 i2 ρ m c8 cO rest
   simp only[gP]
   rw[show (d1++d2++rest).drop l.size=d2++rest by rw[cd];exact mP a3,cd]
   refine ⟨by simp[k2],fun j v' y hj hy=> ?_⟩
   cases j with
   | zero=>simp at hj hy;subst hj;subst hy;exact k1
   | succ j=>exact k3 j v' y (by simpa using hj) (by simpa using hy)
theorem Wp (S:aF P w I β hp B M w0) {α:Type} {s:VS} {x:V} {h:Hand} {k:Hand→Rd α} {r:α} {rd:List Nat} {v:Value} (hr:(xK P s x h k).run C hp=some (r,rd)) (hv:ao P w I β hp v x):
  ∃h' eB d u,(k h').run C hp=some (r,eB)∧Ext P w I β hp h h' d u∧d.length=s.size∧
   lP P w I β hp h' u fun I' μ hp0=> ∀rest,ao P w I' μ hp0 v (j9 s (d++rest)):=by
 cases s with
 | one l=>
  simp only[xK] at hr
  obtain ⟨h1,iQ,d1,u1,a1,a2,a3,a4⟩:=Mm S hr hv
  exact ⟨h1,iQ,d1,u1,a1,a2,a3,a4⟩
 | agg ls=>
  cases x<;>simp only[xK] at hr<;>first|(cases hr;done)|skip
  rename_i xs
  obtain ⟨cs,rfl,e1,e2⟩:=hv.kg
  obtain ⟨h1,iQ,d1,u1,a1,a2,a3,a5,a4⟩:=Cy S hr (vs:=cs.toList) (by simpa using e1) (fun j v x hj hx=>e2 j v x (by simpa using hj) hx)
  refine ⟨h1,iQ,d1,u1,a1,a2,a3,fun I' μ hp0 i1 i2 ρ m c8 cO rest=> ?_⟩
  obtain ⟨k1,k2⟩:=a4 I' μ hp0 i1 i2 ρ m c8 cO rest
  exact .agg (by rw[k1];exact e1) fun j v y hj hy=>k2 j v y (by simpa using hj) hy
 | aY ls=>cases x<;>cases hr
 | pref ts ls=>cases x<;>cases hr
 | fn f a b=>
  cases x<;>simp only[xK] at hr<;>first|(cases hr;done)|skip
  rename_i f' xs ys
  obtain ⟨hc,s6⟩:=aG hr
  clear hr
  rw[aQ] at hc
  subst hc
  cases hv with
  | @fn _ fs cs _ _ q1 q2 q3 q4=>
   obtain ⟨h1,iQ,d1,u1,a1,a2,a3,a5,a4⟩:=Cy S s6 (vs:=fs.toList) (by simpa using q1) (fun j v x hj hx=>q2 j v x (by simpa using hj) hx)
   obtain ⟨U,rr,d2,u2,b1,b2,b3,b5,b4⟩:=Cy S a1 (vs:=cs.toList) (by simpa using q3) (fun j v x hj hx=>q4 j v x (by simpa using hj) hx)
   refine ⟨U,rr,d1++d2,u1++u2,b1,a2.trans b2,by simp only[ca,VS.size];omega,fun I' μ hp0 i1 i2 ρ m c8 cO rest=> ?_⟩
   obtain ⟨k1,k2⟩:=(a4.yF b2) I' μ hp0 i1 i2 ρ m c8 cO (d2++rest)
   obtain ⟨k3,k4⟩:=b4.more I' μ hp0 i1 i2 ρ m c8 cO rest
   simp only[j9]
   rw[show (d1++d2++rest).drop (jD a)=d2++rest by rw[cd];exact mP a3,cd]
   exact .fn (by rw[k1];exact q1) (fun j v y hj hy=>k2 j v y (by simpa using hj) hy) (by rw[k3];exact q3) (fun j v y hj hy=>k4 j v y (by simpa using hj) hy)
theorem G0 (S:aF P w I β hp B M w0) {α:Type}: ∀{ls:List VS} {xs:List V} {h:Hand} {k:Hand→Rd α} {r:α} {rd:List Nat} {vs:List Value},(xL P ls xs h k).run C hp=some (r,rd)→vs.length=xs.length→
  (∀(j:Nat) v x,vs[j]? =some v→xs[j]? =some x→ao P w I β hp v x)→
  ∃h' eB d u,(k h').run C hp=some (r,eB)∧Ext P w I β hp h h' d u∧d.length=qV ls∧ls.length=xs.length∧
   lP P w I β hp h' u fun I' μ hp0=> ∀rest,(eZ ls (d++rest)).length=xs.length∧∀(j:Nat) v y,vs[j]? =some v→(eZ ls (d++rest))[j]? =some y→ao P w I' μ hp0 v y
 | [],[],h,k,r,rd,vs,hr,hl,hv=>⟨h,rd,[],[],hr,Ext.refl h,rfl,rfl,fun I' μ hp0 _ _ _ _ _ _ rest=>⟨rfl,fun j v y _ hy=>by simp[eZ] at hy⟩⟩
 | [],_::_,h,k,r,rd,vs,hr,hl,hv=>by cases hr
 | _::_,[],h,k,r,rd,vs,hr,hl,hv=>by cases hr
 | l::ls,x::xs,h,k,r,rd,vs,hr,hl,hv=>by
  cases vs with
  | nil=>simp at hl
  | cons v vs=>
   simp only[xL] at hr
   obtain ⟨h1,iQ,d1,u1,a1,a2,a3,a4⟩:=Wp S hr (hv 0 v x rfl rfl)
   obtain ⟨U,rr,d2,u2,b1,b2,b3,b5,b4⟩:=G0 S a1 (by simpa using hl) (vs:=vs) (fun j v x hj hx=>hv (j+1) v x (by simpa using hj) (by simpa using hx))
   refine ⟨U,rr,d1++d2,u1++u2,b1,a2.trans b2,by simp only[ca,qV];omega,by simp[b5],fun I' μ hp0 i1 i2 ρ m c8 cO rest=> ?_⟩
   have k1:=(a4.yF b2) I' μ hp0 i1 i2 ρ m c8 cO (d2++rest)
   obtain ⟨k2,k3⟩:=b4.more I' μ hp0 i1 i2 ρ m c8 cO rest
   simp only[eZ]
   rw[show (d1++d2++rest).drop l.size=d2++rest by rw[cd];exact mP a3,cd]
   refine ⟨by simp[k2],fun j v' y hj hy=> ?_⟩
   cases j with
   | zero=>simp at hj hy;subst hj;subst hy;exact k1
   | succ j=>exact k3 j v' y (by simpa using hj) (by simpa using hy)
def Cz:List BS→Nat
 | []=>0
 | b::l=>b.size+Cz l
theorem Mn: ∀{b:Nat} {e e':TypeId} {es:List V} {v:V},(∀q b' e' m,At P w b e es q b' e' m→iM P w I b' e' m)→∀(path:Path),jB P e path=some e'→lB P e es path=some v→0<v.toList.length→
  ∃b1,At P w b e es path b1 e' v.toList
 | b,e,e',es,v,ct,[],ht,hv,hl=>by
  simp only[jB,dE] at ht
  simp only[lB,dE] at hv
  subst ht;subst hv
  exact ⟨b,.here⟩
 | b,e,e',es,v,ct,(i,c)::q,ht,hv,hl=>by
  simp only[jB] at ht
  simp only[lB] at hv
  obtain ⟨x,hx,hv⟩:=bind_some hv
  cases G1:(jB.xB P e)[c]? with
  | none=>rw[G1] at ht;cases ht
  | some t=>
   rw[G1] at ht
   simp only at ht
   have CA:(aR P e)[c]? =some t:=G1
   cases hu:P.underlying t with
   | none=>rw[hu] at ht;cases ht
   | some d=>
    rw[hu] at ht
    cases d<;>simp only at ht<;>first|(cases ht;done)|skip
    rename_i e1
    rw[mG CA] at hv
    have hR:=ct _ _ _ _ .here
    obtain ⟨Ca,c1,c2,c3⟩:=hR.cells
    have sH:c<P.cellsOf e:=by rw[←e9 hR.ok];exact (bm.1 CA).1
    obtain ⟨u,d1,d2⟩:=c3 i c x t hx CA sH
    rw[d2.ri] at hv
    generalize hy:bC P e x c=y at d2 hv
    cases d2 with
    | fl a p=>unfold fi at a;rw[hu] at a;cases a
    | @emp e2 a cap lN ha=>
     rw[hu] at lN;cases lN
     simp only at hv
     cases q with
     | nil=>simp only[lB,dE] at hv;subst hv;simp[V.toList] at hl
     | cons a q=>simp[lB] at hv
    | @row e2 bR b2 cap lN ji aS bS nD=>
     rw[hu] at lN;cases lN
     simp only at hv
     have dG: ∀{q b' e' aK},At P w b2 e1 bR q b' e' aK→At P w b e es ((i,c)::q) b' e' aK:=fun h=> .step c1 hx CA hu hy ji d1 h
     obtain ⟨b1,kZ⟩:=Mn (fun q b' e' m h=>ct _ _ _ _ (dG h)) q ht hv hl
     exact ⟨b1,dG kZ⟩
theorem Mo (S:aF P w I β hp B M w0) {α:Type}: ∀{bs:List BS} {j:Nat} {h:Hand} {k:Hand→Rd α} {r:α} {rd:List Nat},(pC P bs j h k).run C hp=some (r,rd)→
  ∃h' eB d u,(k h').run C hp=some (r,eB)∧Ext P w I β hp h h' d u∧d.length=Cz bs∧
   ∀rest,(ek bs (d++rest)).length=bs.length∧∃o:Nat→Option Nat,
    (∀(i:Nat) blk,(ek bs (d++rest))[i]? =some blk→∃p,dP h'.pl (j+i)=some p∧dI P w β hp p (o i) blk)∧
    lP P w I β hp h' u fun I' μ hp0=> ∀(i:Nat) blk,(ek bs (d++rest))[i]? =some blk→(∀b,bp P w (o i) blk b→¬I' b)→dF P w I' μ hp0 (o i) blk
 | [],j,h,k,r,rd,hr=>⟨h,rd,[],[],hr,Ext.refl h,rfl,fun rest=>⟨rfl,fun _=>none,fun i blk hb=>by simp[ek] at hb,fun I' μ hp0 _ _ _ _ _ _ i blk hb=>by simp[ek] at hb⟩⟩
 | b::bs,j,h,k,r,rd,hr=>by
  simp only[pC] at hr
  have fin: ∀{h1:Hand} {iQ:List Nat} {d1:List V} {u1:List (Nat × an)} {o1:Option Nat} {p:Place},(pC P bs (j+1) h1 k).run C hp=some (r,iQ)→Ext P w I β hp h h1 d1 u1→d1.length=b.size→dP h.pl j=some p→
    (∀rest,dI P w β hp p o1 (fj b (d1++rest)))→(∀rest,lP P w I β hp h1 u1 fun I' μ hp0=>(∀bb,bp P w o1 (fj b (d1++rest)) bb→¬I' bb)→dF P w I' μ hp0 o1 (fj b (d1++rest)))→
    ∃h' eB d u,(k h').run C hp=some (r,eB)∧Ext P w I β hp h h' d u∧d.length=Cz (b::bs)∧
     ∀rest,(ek (b::bs) (d++rest)).length=(b::bs).length∧∃o:Nat→Option Nat,
      (∀(i:Nat) blk,(ek (b::bs) (d++rest))[i]? =some blk→∃p,dP h'.pl (j+i)=some p∧dI P w β hp p (o i) blk)∧
      lP P w I β hp h' u fun I' μ hp0=> ∀(i:Nat) blk,(ek (b::bs) (d++rest))[i]? =some blk→(∀b,bp P w (o i) blk b→¬I' b)→dF P w I' μ hp0 (o i) blk:=by
   intro h1 iQ d1 u1 o1 p hk he hd bj hl ht
   obtain ⟨U,rr,d2,u2,b1,b2,b3,b4⟩:=Mo S hk
   refine ⟨U,rr,d1++d2,u1++u2,b1,he.trans b2,by simp only[ca,Cz];omega,fun rest=> ?_⟩
   obtain ⟨c1,o,c2,c3⟩:=b4 rest
   simp only[ek]
   rw[show (d1++d2++rest).drop b.size=d2++rest by rw[cd];exact mP hd,cd]
   refine ⟨by simp[c1],fun i=>match i with|0=>o1|i+1=>o i,fun i blk hb=> ?_,fun I' μ hp0 i1 i2 ρ m c8 cO i blk hb cD=> ?_⟩
   ·cases i with
    | zero=>
     simp at hb
     subst hb
     exact ⟨p,b2.look (he.look bj),hl _⟩
    | succ i=>
     obtain ⟨q,e1,e2⟩:=c2 i blk (by simpa using hb)
     exact ⟨q,by rw[show j+(i+1)=j+1+i by omega];exact e1,e2⟩
   ·cases i with
    | zero=>
     simp at hb
     subst hb
     exact ((ht _).yF b2) I' μ hp0 i1 i2 ρ m c8 cO cD
    | succ i=>exact c3.more I' μ hp0 i1 i2 ρ m c8 cO i blk (by simpa using hb) cD
  cases bj:dP h.pl j with
  | none=>rw[bj] at hr;cases hr
  | some p=>
   rw[bj] at hr
   cases p with
   | blk id=>
    obtain ⟨l1,hr⟩:=run_get hr
    cases ab:hp id with
    | none=>rw[ab] at hr;cases hr
    | some blk=>
     rw[ab] at hr
     cases blk with
     | dead=>cases hr
     | var T0 cs=>
      cases b<;>simp only at hr<;>first|(cases hr;done)|skip
      rename_i T1 ss
      obtain ⟨hT,Wq⟩:=aG hr
      clear hr
      rw[aQ] at hT
      subst hT
      have cr:=S.h.rel id _ ab
      generalize ho:β id=o at cr
      cases cr with
      | @var _ bb Ca T hb hh hs hI hx fH=>
       obtain ⟨h1,iQ,d1,u1,a1,a2,a3,a5,a4⟩:=G0 S Wq (vs:=Ca.toList) (by simpa using hs) (fun j v x hj ch=>hx j v x (by simpa using hj) ch)
       refine fin (o1:=β id) a1 a2 a3 bj (fun rest=> .var ab) fun rest I' μ hp0 i1 i2 ρ m c8 cO cD=> ?_
       obtain ⟨k1,k2⟩:=a4 I' μ hp0 i1 i2 ρ m c8 cO rest
       exact .var (ho.trans hb) hh (by rw[k1];exact hs) (cD _ (.root (by simp[fj]) (ho.trans hb))) (fun i v y hi hy=>k2 i v y (by simpa using hi) hy) fH
     | arr e' es fz=>
      cases fz with
      | true=>cases hr
      | false=>
       cases b with
       | arr e fz=>
        cases fz with
        | true=>cases hr
        | false=>
         obtain ⟨hc,s6⟩:=aG hr
         clear hr
         rw[aQ] at hc
         subst hc
         refine fin (d1:=[.list e es]) (o1:=β id) s6 (Ext.leaf h _) rfl bj (fun rest=>dI.arr ab) fun rest I' μ hp0 i1 i2 ρ m c8 cO cD=> ?_
         change dF P w I' μ hp0 (β id) (.arr e es false)
         have cr:=S.h.rel id _ ab
         generalize ho:β id=o at cr cD⊢
         cases cr with
         | dq hb=>exact .dq hb
         | arr a1 a2 a3 a4 a5 a6 a7=>
          refine .arr a1 a2 a3 a4 (fun h=>by cases h) (fun _=>cD _ (.root (by simp[fj]) a2)) fun i j x t' y1 y2 y3=> ?_
          obtain ⟨v,z1,z2⟩:=a7 i j x t' y1 y2 y3
          exact ⟨v,z1,z2.mono i1 fun _ _=>rfl⟩
       | _=>cases hr
     | nest e' es aq=>
      cases b with
      | nest e=>
       obtain ⟨hc,s6⟩:=aG hr
       clear hr
       rw[aQ] at hc
       subst hc
       refine fin (d1:=[.list e es]) (o1:=β id) s6 (Ext.leaf h _) rfl bj (fun rest=>dI.nest ab) fun rest I' μ hp0 i1 i2 ρ m c8 cO cD=> ?_
       have Mp: ∀bb,bp P w (β id) (.nest e es [0,0,0]) bb→¬I' bb:=cD
       change dF P w I' μ hp0 (β id) (.nest e es [0,0,0])
       have cr:=S.h.rel id _ ab
       generalize ho:β id=o at cr Mp⊢
       cases cr with
       | nest hb ct nG=>
        refine .nest hb (fun q b' e1 m1 hq=> ?_) nG
        obtain ⟨ok,⟨Ca,c1,c2,c3⟩,nI⟩:=ct q b' e1 m1 hq
        refine ⟨ok,⟨Ca,c1,c2,fun i j x t' y1 y2 y3=> ?_⟩,Mp _ (.row hb hq)⟩
        obtain ⟨v,z1,z2⟩:=c3 i j x t' y1 y2 y3
        exact ⟨v,z1,z2.mono i1 (fun _ _=>rfl) fun _ _ _ _ _=>rfl⟩
      | _=>cases hr
     | map t' es=>
      cases b with
      | map t=>
       obtain ⟨hc,s6⟩:=aG hr
       clear hr
       rw[aQ] at hc
       subst hc
       refine fin (d1:=[.list t es]) (o1:=β id) s6 (Ext.leaf h _) rfl bj (fun rest=>dI.map ab) fun rest I' μ hp0 i1 i2 ρ m c8 cO cD=> ?_
       change dF P w I' μ hp0 (β id) (.map t es)
       have cr:=S.h.rel id _ ab
       generalize ho:β id=o at cr cD⊢
       cases cr with
       | map a1 a2 a3 a4 a5 a6 a7=>exact .map a1 a2 a3 a4 (cD _ (.root (by simp[fj]) a2)) a6 a7
      | _=>cases hr
   | row id ver path=>
    obtain ⟨e0,es,aq,l1,k1,k2,k3,k4,k5⟩:=nC hr
    obtain ⟨e',vv,m1,m2,m3⟩:=uT k5
    cases b with
    | arr e fz=>
     cases fz with
     | true=>cases m3
     | false=>
      obtain ⟨hc,m4⟩:=aG m3
      clear m3
      simp only[aJ,aQ,jx] at hc
      obtain ⟨rfl,yG,ji⟩:=hc
      have cr:=S.h.rel id _ k1
      cases hb:β id with
      | none=>
       rw[hb] at cr
       cases cr with
       | nest aA _ _=>cases aA
      | some b0=>
       rw[hb] at cr
       cases cr with
       | nest aA ct nG=>
        cases aA
        obtain ⟨b1,cX⟩:=Mn ct path m1 m2 ji
        refine fin (d1:=[.list e vv.toList]) (o1:=some b1) m4 (Ext.leaf h _) rfl bj (fun rest=>dI.row k1 hb cX yG k2 k3 k4 ji) fun rest I' μ hp0 i1 i2 ρ m c8 cO cD=> ?_
        change dF P w I' μ hp0 (some b1) (.arr e vv.toList false)
        obtain ⟨ok,⟨Ca,c1,c2,c3⟩,nI⟩:=ct _ _ _ _ cX
        refine .arr ok rfl c1 c2 (fun h=>by cases h) (fun _=>cD _ (.root (by simp[fj]) rfl)) fun i j x t' y1 y2 y3=> ?_
        obtain ⟨v,z1,z2⟩:=c3 i j x t' y1 y2 y3
        refine ⟨v,z1,?_⟩
        generalize bC P e x j=y at z2⊢
        cases z2 with
        | fl _ p=>exact p.mono i1 fun _ _=>rfl
        | emp hu _=>exact absurd hu (Mq yG y2 _)
        | row hu _ _ _ _=>exact absurd hu (Mq yG y2 _)
    | _=>cases m3
where
 Mq {e t:TypeId} {j:Nat} (h:xG P e=true) (ht:(aR P e)[j]? =some t) (e':TypeId):P.underlying t≠some (.slice e'):=by
  intro hu
  have U:=eN.1 h t (jc ht)
  rw[hu] at U
  cases U
end
end Go.AM
