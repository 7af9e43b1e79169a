/-
  Functions of the program, lifted to plain data.
-/
import Derived.Great.BuildSlice
import Derived.Maps.Keyed
import Derived.WideKeyArr
import Derived.MapKept
import Derived.ChangeMaps4
import Derived.Carry
import Derived.Lib.AppendStr
import Derived.Laws.BytesString
import Derived.Lib.Builder
import Derived.Lib.UnsafeStr
import Derived.Test.YtppefogdkedaiaaGreatDoorP1
set_option linter.unusedVariables false
set_option linter.unusedSimpArgs false
namespace Go.AM
section
variable {P:Program} {w w':World} {I I':Nat→Prop} {β β':Nat→Option Nat} {hp hp':Nat→Option an} {C:ae} {B:Nat} {M:Nat→Prop} {w0:Start}
theorem aaW (S:aI P w I β hp B M w0) {t:TypeId} {a v:Value} {xa x:V} {r:R} {rd:List Nat} (ha:ao P w I β hp a xa) (hv:ao P w I β hp v x)
  (h:(Jv P t xa x).run C hp=some (r,rd)):pT P ((Instr.storeAt t a v).run P w) w I β hp B M w0 r:=by
 unfold Jv at h
 obtain ⟨h0,h⟩:=aK h
 simp only[aN,a8] at h0
 obtain ⟨ht,hn⟩:=h0
 cases xa with
 | ptr id i c=>
  obtain ⟨l,h⟩:=run_get h
  cases ab:hp id with
  | none=>rw[ab] at h;cases h
  | some blk=>
   rw[ab] at h
   cases blk with
   | dead=>cases h
   | var T0 cs=>
    obtain ⟨Ql,h⟩:=aK h
    have mH:pK P T0=true→0<c:=fun bG=>by
     rw[bG] at Ql
     simpa using Ql
    obtain ⟨b,hb,rfl⟩:=ha.gY ab (by simp)
    simp only[an.sz,Nat.mul_zero,gQ]
    cases pS:(Ap P t cs&&eJ P t x) with
    | true=>
     dsimp only at h
     rw[pS] at h
     simp only[cond_true] at h
     obtain ⟨hc,h⟩:=aK h
     obtain rfl:=aU h
     simp only[aN,jH] at hc pS
     obtain ⟨o1,o2⟩:=Qe hv pS.2
     have lV:=aaG pS.2
     refine Qd S ab hb ht hn (by rw[o2,lV];rfl) mH (fun j u y hu hy=> ?_) (by rw[o2];simp[o1]) (by rw[lV];simp;omega) (Qc _ _ _ _) (fun j y hy hj u hu=> ?_) (fun j y hy hj u hu=> ?_)
     ·rw[o2] at hu
      rw[lV] at hy
      cases j with
      | zero=>simp at hu hy;subst hu;subst hy;exact hv
      | succ j=>simp at hy
     ·rw[J7] at hy
      cases xN:cs[j]? with
      | none=>rw[xN] at hy;cases hy
      | some y0=>
       rw[xN] at hy
       simp only[Option.map_some,ec] at hy
       rw[lV] at hj
       simp only[List.length_singleton] at hj
       have bD:Nat.beq c (0+j)=false:=by
        cases hq:Nat.beq c (0+j) with
        | false=>rfl
        | true=>rw[a8] at hq;omega
       rw[bD] at hy
       have:=P0 (c:=false) hv (hu y0 xN)
       rw[←hy]
       simpa using this
     ·rw[lV] at hj hu
      have hj0:j=0:=by simpa using hj
      subst hj0
      rw[J7] at hy
      cases xN:cs[c+0]? with
      | none=>rw[xN] at hy;cases hy
      | some y0=>
       rw[xN] at hy
       simp only[Option.map_some,ec] at hy
       have heq:Nat.beq c (0+(c+0))=true:=by rw[a8];omega
       rw[heq] at hy
       have U:ao P w I β hp u x:=hu x rfl
       have:sM true x y0=x:=aaH x y0
       rw[←hy,this]
       exact U
    | false=>
     dsimp only at h
     rw[pS] at h
     simp only[cond_false] at h
     obtain ⟨hc,h⟩:=aK h
     simp only[aN,eb] at hc
     obtain ⟨e1,e2⟩:=J5 hv h
     obtain ⟨h1,l2,h⟩:=FE h (vs:=v.cells.toList) (by simpa using e1) (fun j u y a b=>e2 j u y (by simpa using a) b)
     obtain rfl:=aU h
     refine Qd S ab hb ht hn e1 mH e2 h1 hc.2 (AZ _ _ _ hc.2) (fun j y hy hj u hu=> ?_) (fun j y hy hj u hu=> ?_)
     ·unfold fT at hy
      rw[nL _ _ _ _ hc.2] at hy
      rcases hj with hj|hj
      ·rw[ah hj] at hy;exact hu y hy
      ·rw[ai (by omega),ai (by omega)] at hy;exact hu y hy
     ·unfold fT at hy
      rw[nL _ _ _ _ hc.2,ai (by omega),ah (by omega)] at hy
      rw[show c+j-c=j by omega] at hy
      exact hu y hy
   | arr e es fz=>
    cases fz with
    | true=>cases h
    | false=>
    obtain ⟨b,hb,rfl⟩:=ha.gY ab (by simp)
    obtain ⟨ay,h⟩:=aK h
    obtain ⟨⟨ys,fr⟩,l1,l2,bx,h⟩:=lg h
    obtain ⟨hc,h⟩:=aK h
    obtain ⟨x0,rE,h⟩:=lT h
    obtain rfl:=aU h
    simp only[aN,lM,eb] at hc
    obtain ⟨dR,hc3,iY⟩:=hc
    have pU:v.cells.size=x.cells.length∧∀(j:Nat) u y,v.cells.toList[j]? =some u→x.cells[j]? =some y→ao P w I β hp u y:=by
     cases x with
     | agg xs=>
      obtain ⟨cs,rfl,h1,U⟩:=hv.lh
      exact ⟨h1,fun j u y a b=>U j u y (by simpa[Value.cells] using a) b⟩
     | _=>
      simp only[V.cells] at bx iY⊢
      simp only[sL] at bx
      obtain ⟨⟨y1,u1⟩,l3,l4,hq,bx⟩:=lg bx
      obtain ⟨q1,q2⟩:=Fs S.h.rel hq hv
      obtain ⟨⟨y2,u2⟩,l5,l6,A8,bx⟩:=lg bx
      cases A8
      have:=aU bx
      cases this
      obtain ⟨tl,tg⟩:=uR iY
      have fL:=tg 0 _ y1 (bN (by rw[tl];exact Nat.one_pos)) rfl
      have cb:=q2 (ja P w I β hp u1) (fun _ h=> .inl h) (fun p hp b h=> .inr ⟨p,hp,h⟩)
      have ho:=cb.pure fL
      have Kl:v.cells= #[v]:=by cases ho<;>rfl
      rw[Kl]
      refine ⟨rfl,fun j u y hu hy=> ?_⟩
      cases j with
      | zero=>simp at hu hy;subst hu;subst hy;exact hv
      | succ j=>simp at hy
    obtain ⟨k1,k2,k3⟩:=JY S.h.rel bx (vs:=v.cells.toList) (by simpa using pU.1) pU.2
    obtain ⟨rC,S1⟩:=AT S k2
    have A7:bO hp fr id=some (.arr e es false):=by
     rcases uL (hp:=hp) (l:=fr) (id:=id) with h|⟨b',hm,_⟩
     ·exact h.trans ab
     ·exfalso
      have aaX:ki (fr.map (·.1)) id=true:=xH (eB.2 ⟨_,hm,rfl⟩)
      rw[aaX] at dR;cases dR
    have Qm:=k3 (ja P w I β hp fr) (fun _ h=> .inl h) (fun p hp b h=> .inr ⟨p,hp,h⟩)
    obtain ⟨tl,tg⟩:=uR iY
    have s4:=(kz ay).1
    have uU:ys.length=v.cells.size:=by rw[k1,pU.1]
    have hcn:c+v.cells.size≤P.cellsOf e:=by rw[pU.1];exact hc3
    have hr:=S1.h.rel id _ A7
    cases hr with
    | dQ aB=>simp at rE
    | @arr _ _ _ b' Ca J4 aB hh hs hf ep hx=>
     rw[hb] at aB
     cases aB
     have lW:i<es.length:=(bu.1 rE).1
     have hbound:i*P.cellsOf e+P.cellsOf e≤Ca.size:=by
      have:(i+1)*P.cellsOf e≤es.length*P.cellsOf e:=dM _ lW
      rw[dy] at this
      omega
     simp only[an.sz]
     have s7:i*P.cellsOf e+c+v.cells.size≤Ca.size:=by omega
     have cV: ¬ja P w I β hp fr b:=ep rfl
     have h1: ∀u∈v.cells.toList,u.oneCell'=true:=by
      intro u hu
      obtain ⟨j,hj⟩:=sF hu
      have cp:j<ys.length:=by rw[uU];simpa using (bu.1 hj).1
      have mJ:j<(((flat P e).drop c).take x.cells.length).length:=by rw[tl];exact cp
      exact (Qm j u ys[j] hj (bN cp)).one (tg j _ ys[j] (bN mJ) (bN cp))
     have c8:=J6 (t:=t) (o:=i*P.cellsOf e+c) (v:=v) ht (by rw[pU.1];exact hn.symm) hh s7 h1
     have hlen:(Ca.toList.take (i*P.cellsOf e+c)++(v.cells.toList++Ca.toList.drop (i*P.cellsOf e+c+v.cells.toList.length))).length=Ca.size:=by
      rw[AZ _ _ _ (by simpa using s7)];simp
     have cb:(parts P e x0).length=P.cellsOf e:=by rw[xE];exact fK ay
     have A0:=FF S1 (blk':= .arr e (es.set i (cA P e (fT (parts P e x0) c ys))) false)
      (Cb:=(Ca.toList.take (i*P.cellsOf e+c)++(v.cells.toList++Ca.toList.drop (i*P.cellsOf e+c+v.cells.toList.length))).toArray) A7 (by simp) ⟨rfl,by simp⟩ hb cV (by simp) hh (by simpa using hlen)
      (fun hle e7=> .arr ay rfl e7 (by simp only[qP,nq];omega) (fun h=>by cases h) (fun _=>cV) fun i' j z t' hz mJ hj=>by
       simp only[np]
       rw[nL _ _ _ _ (by simpa using s7)]
       simp only[Array.length_toList]
       rw[Ab] at hz
       by_cases je:i=i'
       ·subst je
        rw[ah rfl,ah lW] at hz
        cases hz
        have FP:j<(parts P e x0).length:=by omega
        have uW:(fT (parts P e x0) c ys)[j]? =if j<c then (parts P e x0)[j]? else if j<c+ys.length then ys[j-c]? else (parts P e x0)[j]? :=by
         unfold fT;exact nL _ _ _ _ (by omega)
        by_cases rv:j<c
        ·rw[ah (by omega)]
         rw[ah rv] at uW
         obtain ⟨u,t2,a1,a2,a3⟩:=FB hx ay rE (bN FP)
         rw[mJ] at a1;cases a1
         refine ⟨u,by simpa using a2,?_⟩
         rw[ry (uW.trans (bN FP)) mJ]
         exact a3.mono hle.dq hle.cm
        ·rw[ai rv] at uW
         by_cases gu:j<c+ys.length
         ·rw[ah gu] at uW
          rw[ai (by omega),ah (by omega)]
          have pV:j-c<ys.length:=by omega
          have Qn:j-c<v.cells.toList.length:=by simp;omega
          have anQ:j-c<v.cells.size:=by omega
          refine ⟨v.cells.toList[j-c],?_,?_⟩
          ·rw[show i*P.cellsOf e+j-(i*P.cellsOf e+c)=j-c by omega]
           exact bN Qn
          ·rw[ry (uW.trans (bN pV)) mJ]
           have hft:(((flat P e).drop c).take x.cells.length)[j-c]? =some t':=by
            rw[fe (by omega),il,show c+(j-c)=j by omega,←s0]
            exact mJ
           exact ((Qm (j-c) _ ys[j-c] (bN Qn) (bN pV)).pure (tg (j-c) t' ys[j-c] hft (bN pV))).mono hle.dq hle.cm
         ·rw[ai gu] at uW
          rw[ai (by omega),ai (by omega)]
          obtain ⟨u,t2,a1,a2,a3⟩:=FB hx ay rE (bN FP)
          rw[mJ] at a1;cases a1
          refine ⟨u,by simpa using a2,?_⟩
          rw[ry (uW.trans (bN FP)) mJ]
          exact a3.mono hle.dq hle.cm
       ·rw[ai je] at hz
        obtain ⟨u,a2,a3⟩:=hx i' j z t' hz mJ hj
        have bD:i'*P.cellsOf e+j<i*P.cellsOf e+c∨i*P.cellsOf e+c+v.cells.size≤i'*P.cellsOf e+j:=by
         rcases pF i' i with aT|pW
         ·left
          have:(i'+1)*P.cellsOf e≤i*P.cellsOf e:=dM _ aT
          rw[dy] at this
          omega
         ·right
          have:(i+1)*P.cellsOf e≤i'*P.cellsOf e:=dM _ (by omega)
          rw[dy] at this
          omega
        refine ⟨u,?_,a3.mono hle.dq hle.cm⟩
        rcases bD with bD|bD
        ·rw[ah bD];simpa using a2
        ·rw[ai (by omega),ai (by omega)];simpa using a2)
     exact ⟨_,_,_,c8,rC.trans A0.1,A0.2,rfl⟩
   | map _ _=>cases h
   | nest e es aq=>
    obtain ⟨b,hb,rfl⟩:=ha.gY ab (by simp)
    exact Qk S ht hn hv ab hb .here h
 | cK id ver path i c=>
  obtain ⟨e0,es,aq,l,ab,h1,U,h3,h⟩:=oQ h
  obtain ⟨b,b1,e1,l1,hb,dr,rfl⟩:=ha.PX ab h1 U h3
  exact Qk S ht hn hv ab hb dr h
 | _=>cases h
end
section
variable {P:Program} {w w':World} {I I':Nat→Prop} {β β':Nat→Option Nat} {hp hp':Nat→Option an} {C:ae} {B:Nat} {M:Nat→Prop} {w0:Start}
theorem Km: ∀{ts:List TypeId} {vs:List Value} {j:Nat} {y:V},(ju P ts vs)[j]? =some y→∃t v,ts[j]? =some t∧vs[j]? =some v∧y=pJ P t v
 | [],vs,j,y,h=>by simp[ju] at h
 | _::_,[],j,y,h=>by simp[ju] at h
 | t::ts,v::vs,0,y,h=>by simp[ju] at h;exact ⟨t,v,rfl,rfl,h.symm⟩
 | t::ts,v::vs,j+1,y,h=>by
  simp only[ju,List.getElem?_cons_succ] at h
  obtain ⟨t',v',a,b,c⟩:=Km h
  exact ⟨t',v',by simpa using a,by simpa using b,c⟩
theorem Qo: ∀{ts:List TypeId} {vs:List Value},ts.length=vs.length→(ju P ts vs).length=vs.length
 | [],[],_=>rfl
 | [],_::_,h=>by simp at h
 | _::_,[],h=>by simp at h
 | t::ts,v::vs,h=>by simp[ju,Qo (ts:=ts) (vs:=vs) (by simpa using h)]
theorem kD {e:TypeId} (h:cW P e=true): ∃i z,P.info? e=some i∧i.zero=some z∧i.size=P.cellsOf e∧z.cells.size=P.cellsOf e∧zeroCells P e=ju P (flat P e) z.cells.toList:=by
 unfold cW at h
 simp only[aN,a8,jH] at h
 obtain ⟨h1,U,_,h3⟩:=h
 cases hi:P.info? e with
 | none=>rw[hi] at h3;cases h3
 | some i=>
  rw[hi] at h3
  simp only[Option.bind_some] at h3
  cases hz:i.zero with
  | none=>rw[hz] at h3;cases h3
  | some z=>
   rw[hz] at h3
   simp only[a8] at h3
   exact ⟨i,z,rfl,hz,by simp[Program.cellsOf,hi],h3,by simp[zeroCells,hi,hz]⟩
theorem Qp {e:TypeId} (h:cW P e=true): ∃i z,P.info? e=some i∧i.zero=some z∧z.cells.size=(zeroCells P e).length∧z.cells.size=P.cellsOf e∧
  ∀(j:Nat) v x,z.cells[j]? =some v→(zeroCells P e)[j]? =some x→ao P w I β hp v x:=by
 obtain ⟨i,z,h1,U,h3,h4,h5⟩:=kD h
 have hl:(flat P e).length=z.cells.toList.length:=by rw[(kz h).1];simpa using h4.symm
 refine ⟨i,z,h1,U,?_,h4,fun j v x hv hx=> ?_⟩
 ·rw[h5,Qo hl];simp
 ·rw[h5] at hx
  obtain ⟨t,v',_,xF,rfl⟩:=Km hx
  have:v'=v:=by
   have e1:z.cells[j]? =some v':=by simpa using xF
   rw[hv] at e1;exact (cT e1).symm
  subst this
  exact ao.const t v'
theorem nO {nb:Nat} {b:an} {v:V} {upd:List (Nat × an)} {r:R} {rd:List Nat} (h:(jv nb b v upd).run C hp=some (r,rd)):hp nb=none∧r=⟨v,(nb,b)::upd⟩:=by
 obtain ⟨l,h⟩:=run_get h
 cases hn:hp nb with
 | none=>rw[hn] at h;exact ⟨rfl,(aU h).symm⟩
 | some x=>rw[hn] at h;cases h
theorem Qq (S:aI P w I β hp B M w0) {nb:Nat} {xs:List V} {C0:Array Value} {T:TypeId} (hn:hp nb=none) (hs:C0.size=xs.length)
  (hx: ∀(j:Nat) v x,C0[j]? =some v→xs[j]? =some x→ao P w I β hp v x) (gr:PS P w.heap.size T C0):
  Le P w I β hp (w.alloc (.cells C0 T)) I (aM β nb (some w.heap.size)) (aM hp nb (some (.var T xs)))∧aI P (w.alloc (.cells C0 T)) I (aM β nb (some w.heap.size)) (aM hp nb (some (.var T xs))) B M w0∧
  ao P (w.alloc (.cells C0 T)) I (aM β nb (some w.heap.size)) (aM hp nb (some (.var T xs))) (.pointer (some ⟨w.heap.size,0,none⟩)) (.ptr nb 0 0):=by
 obtain ⟨h1,U⟩:=J0 S (blk:= .var T xs) (c:=C0) (T:=T) hn (fun b' h=>(cT (h.flat (by simp))).symm) (fun hle e7 cV=> .var rfl e7 hs cV (fun j v x a b=>(hx j v x a b).mono hle) gr)
 refine ⟨h1,U,?_⟩
 have:=ao.ptr (P:=P) (w:=w.alloc (.cells C0 T)) (I:=I) (β:=aM β nb (some w.heap.size)) (hp:=aM hp nb (some (.var T xs))) (i:=0) (c:=0) (blk:= .var T xs) (c7 _ _ _) (by simp) (c7 _ _ _)
 simpa using this
theorem aaY (S:aI P w I β hp B M w0) {e:TypeId} {nb:Nat} {r:R} {rd:List Nat}
  (h:(Rd.aE (cW P e&&(!(pK P e)||PL (zeroCells P e))) (jv nb (.var e (zeroCells P e)) (.ptr nb 0 0) [])).run C hp=some (r,rd)):da P ((Instr.alloc e true (.tuple #[])).run P w) w I β hp B M w0 r:=by
 obtain ⟨ay,h⟩:=aK h
 rw[aN] at ay
 obtain ⟨ay,mH⟩:=ay
 obtain ⟨hn,rfl⟩:=nO h
 obtain ⟨i,z,h1,U,h3,h4,h5⟩:=Qp (w:=w) (I:=I) (β:=β) (hp:=hp) ay
 obtain ⟨a,b,c⟩:=Qq S (T:=e) hn h3 h5 fun bG=>by
  rw[bG,qQ,Bool.false_or] at mH
  cases hz:zeroCells P e with
  | nil=>rw[hz] at mH;cases mH
  | cons y l=>
   rw[hz] at mH h3 h5
   cases y<;>first|(cases mH;done)|skip
   have aT:0<z.cells.size:=by rw[h3];simp
   have:=h5 0 z.cells[0] .dA (kX aT) rfl
   left
   rw[kX aT]
   generalize z.cells[0]=u at this
   cases this;rfl
 exact ⟨_,_,_,_,by simp[Instr.alloc,zeroValue,typeInfo,h1,U,newVar,newRow],a,b,c⟩
theorem aaZ (S:aI P w I β hp B M w0) {e:TypeId} {nb:Nat} {x:V} {v:Value} {r:R} {rd:List Nat} (hv:ao P w I β hp v x)
  (h:(Rd.aE (!(pK P e)) <| lO x.cells (jv nb (.var e x.cells) (.ptr nb 0 0) [])).run C hp=some (r,rd)):da P ((Instr.box e v).run P w) w I β hp B M w0 r:=by
 obtain ⟨mH,h⟩:=aK h
 obtain ⟨e1,e2⟩:=J5 hv h
 obtain ⟨_,l,h⟩:=FE h (vs:=v.cells.toList) (by simpa using e1) (fun j u y a b=>e2 j u y (by simpa using a) b)
 obtain ⟨hn,rfl⟩:=nO h
 obtain ⟨a,b,c⟩:=Qq S (T:=e) hn e1 e2 fun bG=>by rw[bG] at mH;cases mH
 exact ⟨_,_,_,_,by simp[Instr.box,newVar,newRow],a,b,c⟩
theorem foldl_set (off:Nat): ∀(vs:List Value) (k:Nat) (cs:Array Value) (i:Nat),off+k+vs.length≤cs.size→
  ((vs.zipIdx k).foldl (fun cs p=>cs.setIfInBounds (off+p.2) p.1) cs)[i]? =if i<off+k then cs[i]? else if i<off+k+vs.length then vs[i-(off+k)]? else cs[i]?
 | [],k,cs,i,h=>by simp;intro h1 U;omega
 | v::vs,k,cs,i,h=>by
  simp only[List.zipIdx_cons,List.foldl_cons]
  simp only[List.length_cons] at h⊢
  rw[foldl_set off vs (k+1) _ i (by simp;omega)]
  by_cases h1:i<off+k
  ·rw[ah (by omega),ah h1]
   rw[EG (by omega)]
  ·rw[ai h1]
   by_cases U:i=off+k
   ·subst U
    rw[ah (by omega),ah (by omega)]
    rw[Js (by omega)]
    simp
   ·rw[ai (by omega)]
    by_cases h3:i<off+k+(vs.length+1)
    ·rw[ah (by omega),ah h3,show i-(off+k)=(i-(off+(k+1)))+1 by omega]
     simp
    ·rw[ai (by omega),ai h3,EG (by omega)]
theorem Qr (off:Nat): ∀(vs:List Value) (k:Nat) (cs:Array Value),((vs.zipIdx k).foldl (fun cs p=>cs.setIfInBounds (off+p.2) p.1) cs).size=cs.size
 | [],k,cs=>rfl
 | v::vs,k,cs=>by
  simp only[List.zipIdx_cons,List.foldl_cons]
  rw[Qr off vs (k+1)]
  simp
theorem Qs {cells:Array Value} {off:Nat} {v:Value} (h:off+v.cells.size≤cells.size) (i:Nat):
  (v.cells.zipIdx.foldl (fun cs (p:Value × Nat)=>cs.setIfInBounds (off+p.2) p.1) cells)[i]? =if i<off then cells[i]? else if i<off+v.cells.size then v.cells[i-off]? else cells[i]? :=by
 have:=foldl_set off v.cells.toList 0 cells i (by simpa using h)
 rw[←EH]
 simpa[Array.toList_zipIdx] using this
theorem Qt {cells:Array Value} {off:Nat} {v:Value}:(v.cells.zipIdx.foldl (fun cs (p:Value × Nat)=>cs.setIfInBounds (off+p.2) p.1) cells).size=cells.size:=by
 have:=Qr off v.cells.toList 0 cells
 rw[←EH]
 simpa[Array.toList_zipIdx] using this
inductive xO (P:Program) (w:World) (I:Nat→Prop) (β:Nat→Option Nat) (hp:Nat→Option an):List (Nat × Value)→List (Nat × V)→Prop
 | nil:xO P w I β hp [] []
 | cons {i:Nat} {v:Value} {x:V} {vs:List (Nat × Value)} {xs:List (Nat × V)}:v.cells.size=x.cells.length→(∀(j:Nat) u y,v.cells[j]? =some u→x.cells[j]? =some y→ao P w I β hp u y)→
   xO P w I β hp vs xs→xO P w I β hp ((i,v)::vs) ((i,x)::xs)
theorem Qu (place:Nat→Option (Nat × Nat)): ∀{vs:List (Nat × Value)} {px:List (Nat × V)} {cells:Array Value} {xs ys:List V},xO P w I β hp vs px→cells.size=xs.length→
  (∀(j:Nat) v x,cells[j]? =some v→xs[j]? =some x→ao P w I β hp v x)→uz place xs px=some ys→
  ∃pX:Array Value,Instr.fill place cells vs=some pX∧pX.size=ys.length∧∀(j:Nat) v x,pX[j]? =some v→ys[j]? =some x→ao P w I β hp v x
 | _,_,cells,xs,ys,.nil,hs,hx,h=>by
  simp only[uz,ec] at h
  subst h
  exact ⟨cells,by simp[Instr.fill],hs,hx⟩
 | _,_,cells,xs,ys,@xO.cons _ _ _ _ _ i v x vs px h1 U h3,hs,hx,h=>by
  simp only[uz] at h
  cases cb:place i with
  | none=>rw[cb] at h;cases h
  | some os=>
   obtain ⟨off,size⟩:=os
   rw[cb] at h
   simp only at h
   cases hc:(Nat.beq x.cells.length size&&Nat.ble (off+size) xs.length) with
   | false=>rw[hc] at h;cases h
   | true=>
    rw[hc] at h
    simp only[cond_true] at h
    simp only[aN,a8,eb] at hc
    have hv:off+v.cells.size≤cells.size:=by omega
    have hb:off+x.cells.length≤xs.length:=by omega
    have hl:(fT xs off x.cells).length=xs.length:=AZ _ _ _ hb
    obtain ⟨pX,f1,f2,f3⟩:=Qu place (cells:=v.cells.zipIdx.foldl (fun cs (p:Value × Nat)=>cs.setIfInBounds (off+p.2) p.1) cells) (xs:=fT xs off x.cells) h3 (by rw[Qt,hl,hs])
     (fun j u y hu hy=>by
      rw[Qs hv] at hu
      unfold fT at hy
      rw[nL _ _ _ _ hb] at hy
      by_cases j1:j<off
      ·rw[ah j1] at hu hy;exact hx j u y hu hy
      ·rw[ai j1] at hu hy
       by_cases j2:j<off+x.cells.length
       ·rw[ah (by omega)] at hu
        rw[ah j2] at hy
        exact U (j-off) u y hu hy
       ·rw[ai (by omega)] at hu
        rw[ai j2] at hy
        exact hx j u y hu hy) h
    refine ⟨pX,?_,f2,f3⟩
    simp only[Instr.fill,cb]
    rw[ai (by simp;omega)]
    exact f1
theorem aa0 {t:TypeId} {parts:Array (Nat × Value)} {cells:Array Value} {z:Value} {i:TypeInfo} (hi:P.info? t=some i) (hz:i.zero=some z) (h:Instr.fill (placeOf P t) z.cells parts.toList=some cells) (ha:bL P t=true)
  (cb: ∀fs,P.underlying t=some (.struct fs)→(fs.toList.mapM fun f=>(P.info? f.type).map fun i=>(f.offset,i.size)).isSome=true) (rF: ∀n e,P.underlying t=some (.array n e)→(P.info? e).isSome=true):
  (Instr.build t parts).run P w= .ok (.agg cells) w:=by
 refine run_build w t parts cells ?_
 unfold Program.built
 unfold bL at ha
 rw[hi]
 split at ha
 ·rename_i fs hu
  have:=cb fs hu
  cases hm:fs.toList.mapM fun f=>(P.info? f.type).map fun i=>(f.offset,i.size) with
  | none=>rw[hm] at this;cases this
  | some places=>
   simp only[hu,hz,hm]
   have hq:placeOf P t=fun i=>places[i]? :=by simp[placeOf,hu,hm]
   rw[hq] at h
   simpa using h
 ·rename_i n e hu
  have:=rF n e hu
  cases jT:P.info? e with
  | none=>rw[jT] at this;cases this
  | some ie=>
   simp only[hu,hz,jT]
   have hq:placeOf P t=fun i=>some (i*ie.size,ie.size):=by simp[placeOf,hu,jT]
   rw[hq] at h
   exact h
 ·cases ha
theorem Qv {α:Type}: ∀(xs ys:List V) (k:Rd α),lO (xs++ys) k=lO xs (lO ys k)
 | [],_,_=>rfl
 | x::xs,ys,k=>by simp only[List.cons_append,lO,Qv xs ys k]
theorem Qw {a:Act} {sl:Nat→V} (hs:lf P w I β hp a sl) {G:Nat→V} (hg:gV P G w I) (t:TypeId) {α:Type}: ∀{l:List (Nat × Operand)} {k:Rd α} {r:α} {rd:List Nat},
  (lO ((l.map fun p=>(aW P G t sl p.2).cells).flatten) k).run C hp=some (r,rd)→
  xO P w I β hp (l.map fun p=>(p.1,a.eval p.2)) (l.map fun p=>(p.1,aW P G t sl p.2))∧∃e8,k.run C hp=some (r,e8)
 | [],k,r,rd,h=>⟨.nil,rd,h⟩
 | (i,x)::l,k,r,rd,h=>by
  simp only[cr,List.flatten_cons,Qv] at h
  obtain ⟨e1,e2⟩:=J5 (hs.ev hg t x) h
  obtain ⟨_,l1,h⟩:=FE h (vs:=(a.eval x).cells.toList) (by simpa using e1) (fun j u y a b=>e2 j u y (by simpa using a) b)
  obtain ⟨h1,U⟩:=Qw hs hg t h
  exact ⟨.cons e1 e2 h1,U⟩
theorem aa1 (S:aI P w I β hp B M w0) {a:Act} {sl:Nat→V} (hs:lf P w I β hp a sl) {G:Nat→V} (hg:gV P G w I) {t ty:TypeId} {ps:Array (Nat × Operand)} {r:R} {rd:List Nat}
  (h:(Rd.aE (cW P t&&(bL P t&&Fb P t)) (lO ((ps.toList.map fun p=>(aW P G ty sl p.2).cells).flatten)
   (xl (uz (placeOf P t) (zeroCells P t) (ps.toList.map fun p=>(p.1,aW P G ty sl p.2))) fun cs=> .ret ⟨.agg cs,[]⟩))).run C hp=some (r,rd)):
  da P ((Instr.build t (ps.map fun (i,x)=>(i,a.eval x))).run P w) w I β hp B M w0 r:=by
 obtain ⟨ay,h⟩:=aK h
 simp only[aN] at ay
 obtain ⟨h1,l,h⟩:=Qw hs hg ty h
 cases hf:uz (placeOf P t) (zeroCells P t) (ps.toList.map fun p=>(p.1,aW P G ty sl p.2)) with
 | none=>rw[hf] at h;cases h
 | some cs=>
  rw[hf] at h
  obtain rfl:=aU h
  obtain ⟨i,z,hi,hz,h3,h4,h5⟩:=Qp (w:=w) (I:=I) (β:=β) (hp:=hp) ay.1
  obtain ⟨cells,f1,f2,f3⟩:=Qu (placeOf P t) h1 h3 h5 hf
  have Qx:=ay.2.2
  refine .same S (v:= .agg cells) (aa0 hi hz (by simpa using f1) ay.2.1 (fun fs hu=> ?_) (fun n e hu=> ?_)) (.agg f2 f3)
  ·simpa[Fb,hu] using Qx
  ·simpa[Fb,hu] using Qx
theorem aa2 (cL: ∀id blk,hp id=some blk→ed P w I β hp (β id) blk) {x:V} {v:Value} {ys:List V} {fr:List (Nat × an)} {rd:List Nat} {ts:List TypeId} (hv:ao P w I β hp v x)
  (h:(sL P x.cells).run C hp=some ((ys,fr),rd)) (ht:qU P ts ys=true):
  v.cells.size=x.cells.length∧∀(j:Nat) u y,v.cells.toList[j]? =some u→x.cells[j]? =some y→ao P w I β hp u y:=by
 cases x with
 | agg xs=>
  obtain ⟨cs,rfl,h1,U⟩:=hv.lh
  exact ⟨h1,fun j u y a b=>U j u y (by simpa[Value.cells] using a) b⟩
 | _=>
  simp only[V.cells] at h⊢
  simp only[sL] at h
  obtain ⟨⟨y1,u1⟩,l3,l4,hq,h⟩:=lg h
  obtain ⟨q1,q2⟩:=Fs cL hq hv
  obtain ⟨⟨y2,u2⟩,l5,l6,A8,h⟩:=lg h
  cases A8
  have:=aU h
  cases this
  obtain ⟨tl,tg⟩:=uR ht
  have fL:=tg 0 _ y1 (bN (by rw[tl];exact Nat.one_pos)) rfl
  have cb:=q2 (ja P w I β hp u1) (fun _ h=> .inl h) (fun p hp b h=> .inr ⟨p,hp,h⟩)
  have ho:=cb.pure fL
  have Kl:v.cells= #[v]:=by cases ho<;>rfl
  rw[Kl]
  refine ⟨rfl,fun j u y hu hy=> ?_⟩
  cases j with
  | zero=>simp at hu hy;subst hu;subst hy;exact hv
  | succ j=>simp at hy
def xP (P:Program) (w:World) (I:Nat→Prop) (e:TypeId) (cells:Array Value) (es:List V):Prop:=
 cells.size=es.length*P.cellsOf e∧∀(i j:Nat) (x:V) (t':TypeId),es[i]? =some x→(ba P e)[j]? =some t'→j<P.cellsOf e→∃v,cells[i*P.cellsOf e+j]? =some v∧Pure P w I t' v (bQ P e x j)
theorem xP.set {e:TypeId} {cells:Array Value} {es ys:List V} {i:Nat} {v:Value} (h:xP P w I e cells es) (hi:i<es.length) (hv:v.cells.size=P.cellsOf e) (hy:ys.length=P.cellsOf e)
  (hr: ∀(j:Nat) (t':TypeId) (u:Value) (y:V),(ba P e)[j]? =some t'→v.cells[j]? =some u→ys[j]? =some y→Pure P w I t' u y):
  xP P w I e (v.cells.zipIdx.foldl (fun cs (p:Value × Nat)=>cs.setIfInBounds (i*P.cellsOf e+p.2) p.1) cells) (es.set i (cA P e ys)):=by
 obtain ⟨h1,U⟩:=h
 have hb:i*P.cellsOf e+v.cells.size≤cells.size:=by
  have:(i+1)*P.cellsOf e≤es.length*P.cellsOf e:=dM _ hi
  rw[dy] at this
  omega
 refine ⟨by rw[Qt,nq,h1],fun i' j x t' hx ht hj=> ?_⟩
 rw[Qs hb]
 rw[Ab] at hx
 by_cases je:i=i'
 ·subst je
  rw[ah rfl,ah hi] at hx
  cases hx
  rw[ai (by omega),ah (by omega),show i*P.cellsOf e+j-i*P.cellsOf e=j by omega]
  have h3:j<v.cells.size:=by omega
  have h4:j<ys.length:=by omega
  refine ⟨v.cells[j],kX h3,?_⟩
  rw[ry (bN h4) ht]
  exact hr j t' _ _ ht (kX h3) (bN h4)
 ·rw[ai je] at hx
  have bD:i'*P.cellsOf e+j<i*P.cellsOf e∨i*P.cellsOf e+v.cells.size≤i'*P.cellsOf e+j:=by
   rcases pF i' i with aT|pW
   ·left
    have:(i'+1)*P.cellsOf e≤i*P.cellsOf e:=dM _ aT
    rw[dy] at this
    omega
   ·right
    have:(i+1)*P.cellsOf e≤i'*P.cellsOf e:=dM _ (by omega)
    rw[dy] at this
    omega
  rcases bD with bD|bD
  ·rw[ah bD];exact U i' j x t' hx ht hj
  ·rw[ai (by omega),ai (by omega)];exact U i' j x t' hx ht hj
theorem aa3 {t':TypeId} {v:Value} (fL:eJ P t' (xf (pJ P t' v))=true):Pure P w I t' v (xf (pJ P t' v)):=by
 have hc:=ao.const (P:=P) (w:=w) (I:=I) (β:=fun _=>none) (hp:=fun _=>none) t' v
 cases uX:pJ P t' v<;>rw[uX] at fL hc<;>simp only[xf] at fL⊢
 case int k n=>rw[hc.et];exact Plain.pure (v:= .int k n) (y:= .int k n) rfl fL
 case bool b=>rw[hc.kA];exact Plain.pure (v:= .bool b) (y:= .bool b) rfl fL
 case str l=>obtain ⟨s,e1,e2⟩:=hc.mG;rw[e1];exact Plain.pure (v:= .string s) (y:= .str l) ⟨s,rfl,e2⟩ fL
 case nilS e'=>
  cases hc
  exact Plain.pure (y:= .list e' []) (iX.any fun _=>rfl) fL
 case list e' es=>
  cases hc with
  | list hp=>exact Plain.pure (y:= .list e' es) hp fL
 all_goals (unfold eJ at fL;split at fL<;>simp_all)
theorem A9 {e:TypeId} (h:mA P e=true): ∃i z,P.info? e=some i∧i.zero=some z∧i.size=P.cellsOf e∧z.cells.size=P.cellsOf e∧
  ∀(j:Nat) (t':TypeId),(ba P e)[j]? =some t'→j<P.cellsOf e→∃v,z.cells[j]? =some v∧Pure P w I t' v (bQ P e (cA P e (eN P e)) j):=by
 unfold mA at h
 simp only[aN] at h
 obtain ⟨i,z,h1,U,h3,h4,h5⟩:=kD h.1
 refine ⟨i,z,h1,U,h3,h4,fun j t' ht hj=> ?_⟩
 obtain ⟨tl,tg⟩:=uR h.2
 have cp:j<(eN P e).length:=by rw[←tl,(kz h.1).1];exact hj
 have hz:=bN cp
 have fL:=tg j t' _ (by rw[←s0];exact ht) hz
 refine ⟨z.cells[j],kX (by omega),?_⟩
 rw[ry hz ht]
 have uY:(eN P e)[j]=xf (pJ P t' z.cells[j]):=by
  have:(eN P e)[j]? =((zeroCells P e)[j]?).map xf:=by simp[eN]
  rw[hz] at this
  cases hc:(zeroCells P e)[j]? with
  | none=>rw[hc] at this;cases this
  | some y=>
   rw[hc] at this
   simp only[Option.map_some,ec] at this
   rw[h5] at hc
   obtain ⟨t2,v2,a1,a2,rfl⟩:=Km hc
   have ht2:t2=t':=by
    rw[←s0,ht] at a1;exact (cT a1).symm
   have rm:v2=z.cells[j]:=by
    have hjz:j<z.cells.size:=by omega
    have:z.cells.toList[j]? =some z.cells[j]:=by simp[hjz]
    rw[this] at a2;exact (cT a2).symm
   rw[this,ht2,rm]
 rw[uY] at fL⊢
 exact aa3 fL
end
section
variable {P:Program} {w w':World} {I I':Nat→Prop} {β β':Nat→Option Nat} {hp hp':Nat→Option an} {C:ae} {B:Nat} {M:Nat→Prop} {w0:Start}
theorem xQ (S:aI P w I β hp B M w0) {nb cap:Nat} {e:TypeId} {es:List V} {C0:Array Value} (ay:cW P e=true) (hn:hp nb=none) (hs:C0.size=cap*P.cellsOf e) (hl:es.length≤cap) (hm:cap≤maxLen)
  (hx: ∀(i j:Nat) (x:V) (t':TypeId),es[i]? =some x→(ba P e)[j]? =some t'→j<P.cellsOf e→∃v,C0[i*P.cellsOf e+j]? =some v∧Pure P w I t' v (bQ P e x j)):
  Le P w I β hp (w.alloc (.cells C0 e)) I (aM β nb (some w.heap.size)) (aM hp nb (some (.arr e es false)))∧aI P (w.alloc (.cells C0 e)) I (aM β nb (some w.heap.size)) (aM hp nb (some (.arr e es false))) B M w0∧
  ao P (w.alloc (.cells C0 e)) I (aM β nb (some w.heap.size)) (aM hp nb (some (.arr e es false))) (.slice (some ⟨w.heap.size,0,none⟩) es.length cap) (.whole e nb):=by
 obtain ⟨h1,U⟩:=J0 S (blk:= .arr e es false) (c:=C0) (T:=e) hn (fun b' h=>(cT (h.flat (by simp))).symm) (fun hle e7 cV=> .arr ay rfl e7 (by rw[hs];exact dM _ hl) (fun h=>by cases h) (fun _=>cV) fun i j x t' a b c=>by
  obtain ⟨v,hv,hp⟩:=hx i j x t' a b c
  exact ⟨v,hv,hp.mono hle.dq hle.cm⟩)
 refine ⟨h1,U,.whole (c7 _ _ _) (c7 _ _ _) ?_ hl hm⟩
 rw[nF (heap_alloc_new w (.cells C0 e)),hs]
theorem At.only {b b':Nat} {e e':TypeId} {es aP:List V} {q:Path} (hz: ∀(i j:Nat) x t' e1 l,es[i]? =some x→(ba P e)[j]? =some t'→bQ P e x j= .list e1 l→l=[])
  (h:At P w b e es q b' e' aP):q=[]∧b'=b∧e'=e∧aP=es:=by
 cases h with
 | here=>exact ⟨rfl,rfl,rfl,rfl⟩
 | step h1 U h3 h4 h5 h6=>have:=hz _ _ _ _ _ _ U h3 h5;subst this;simp at h6
theorem mF.ri {t:TypeId} {v:Value} {x:V} (h:Pure P w I t v x) (hz: ∀e1 l,x= .list e1 l→l=[]):mF P w I t v x:=by
 cases h with
 | int h=>exact .fX (by unfold fU;rw[h]) (.int h)
 | bool h=>exact .fX (by unfold fU;rw[h]) (.bool h)
 | str h hl=>exact .fX (by unfold fU;rw[h]) (.str h hl)
 | nil h=>exact .emp h fun _=>rfl
 | emp h=>exact .emp h fun h=>by cases h
 | list g hu hl _ _ _ _=>
  have:=hz _ _ rfl
  subst this
  simp at hl
  subst hl
  exact .emp hu fun h=>by cases h
theorem aa4 (S:aI P w I β hp B M w0) {nb cap:Nat} {e:TypeId} {es:List V} {C0:Array Value} (ay:cW P e=true) (hn:hp nb=none) (hs:C0.size=cap*P.cellsOf e) (hl:es.length≤cap) (hm:cap≤maxLen)
  (hx: ∀(i j:Nat) (x:V) (t':TypeId),es[i]? =some x→(ba P e)[j]? =some t'→j<P.cellsOf e→∃v,C0[i*P.cellsOf e+j]? =some v∧Pure P w I t' v (bQ P e x j))
  (hz: ∀(i j:Nat) x t' e1 l,es[i]? =some x→(ba P e)[j]? =some t'→bQ P e x j= .list e1 l→l=[]):
  Le P w I β hp (w.alloc (.cells C0 e)) I (aM β nb (some w.heap.size)) (aM hp nb (some (.nest e es [0,0,0])))∧aI P (w.alloc (.cells C0 e)) I (aM β nb (some w.heap.size)) (aM hp nb (some (.nest e es [0,0,0]))) B M w0∧
  ao P (w.alloc (.cells C0 e)) I (aM β nb (some w.heap.size)) (aM hp nb (some (.nest e es [0,0,0]))) (.slice (some ⟨w.heap.size,0,none⟩) es.length cap) (.whole e nb):=by
 obtain ⟨h1,U⟩:=J0 S (blk:= .nest e es [0,0,0]) (c:=C0) (T:=e) hn (fun b' h=>by
   cases h with
   | root _ h=>exact (cT h).symm
   | row h ha=>cases h;exact (At.only hz ha).2.1)
  (fun hle e7 cV=> .nest rfl (fun q b' e' aP ha=>by
   obtain ⟨rfl,rfl,rfl,rfl⟩:=At.only hz ha
   refine ⟨ay,⟨C0,e7,by rw[hs];exact dM _ hl,fun i j x t' a b c=> ?_⟩,cV⟩
   obtain ⟨v,hv,hp⟩:=hx i j x t' a b c
   exact ⟨v,hv,.ri (hp.mono hle.dq hle.cm) fun e1 l h=>hz i j x t' e1 l a b h⟩)
   fun q1 q2 b' e1 cw e2 cf a1 a2=>(At.only hz a1).1.trans (At.only hz a2).1.symm)
 refine ⟨h1,U,.eF (c7 _ _ _) (c7 _ _ _) ?_ hl hm⟩
 rw[nF (heap_alloc_new w (.cells C0 e)),hs]
theorem Qy (cL: ∀id blk,hp id=some blk→ed P w I β hp (β id) blk) {a:Act} {sl:Nat→V} (hs:lf P w I β hp a sl) {G:Nat→V} (hg:gV P G w I) {e:TypeId} {len:Nat}: ∀{l:List (Nat × Operand)} {ps:List (Nat × V)} {upd:List (Nat × an)} {rd:List Nat},
  (As P e len (l.map fun p=>(p.1,aW P G e sl p.2))).run C hp=some ((ps,upd),rd)→cW P e=true→(∀p∈upd,AP hp p)∧∀I':Nat→Prop,(∀b,I b→I' b)→(∀p∈upd,∀b,sZ P w β hp p.1 b→I' b)→
   ∀(cells:Array Value) (es:List V),es.length=len→xP P w I' e cells es→∃pX,Instr.fill (fun i=>some (i*P.cellsOf e,P.cellsOf e)) cells (l.map fun p=>(p.1,a.eval p.2))=some pX∧xP P w I' e pX (Ar es ps)∧(Ar es ps).length=len
 | [],ps,upd,rd,h,_=>by
  cases h
  exact ⟨by simp,fun I' _ _ cells es hl he=>⟨cells,by simp[Instr.fill],he,hl⟩⟩
 | (i,x)::l,ps,upd,rd,h,ay=>by
  simp only[cr,As] at h
  obtain ⟨⟨ys,u1⟩,l1,l2,h1,h⟩:=lg h
  obtain ⟨hc,h⟩:=aK h
  obtain ⟨⟨ps',u2⟩,l3,l4,U,h⟩:=lg h
  have:=aU h
  cases this
  simp only[aN,jH] at hc
  obtain ⟨hi,fL⟩:=hc
  obtain ⟨tl,tg⟩:=uR fL
  have xG:=hs.ev hg e x
  obtain ⟨v1,v2⟩:=aa2 cL xG h1 fL
  obtain ⟨k1,k2,k3⟩:=JY cL h1 (vs:=(a.eval x).cells.toList) (by simpa using v1) v2
  obtain ⟨m1,m2⟩:=Qy cL hs hg U ay
  refine ⟨fun p hp=> ?_,fun I' i1 i2 cells es hl he=> ?_⟩
  ·rcases eM.1 hp with h|h
   ·exact k2 p h
   ·exact m1 p h
  ·have cb:=k3 I' i1 (fun p hp=>i2 p (eM.2 (.inl hp)))
   have bd:=(kz ay).1
   have uU:ys.length=P.cellsOf e:=by rw[←tl,bd]
   have FG:(a.eval x).cells.size=P.cellsOf e:=by rw[v1,←k1,uU]
   have gZ:=he.set (i:=i) (ys:=ys) (by omega) FG uU (fun j t' u y ht hu hy=>by
    exact (cb j u y (by simpa using hu) hy).pure (tg j t' y (by rw[←s0];exact ht) hy))
   obtain ⟨pX,f1,f2,f3⟩:=m2 I' i1 (fun p hp=>i2 p (eM.2 (.inr hp))) _ (es.set i (cA P e ys)) (by simpa using hl) gZ
   refine ⟨pX,?_,f2,f3⟩
   have hb:i*P.cellsOf e+P.cellsOf e≤cells.size:=by
    rw[he.1,hl]
    have:(i+1)*P.cellsOf e≤len*P.cellsOf e:=dM _ hi
    rw[dy] at this
    omega
   simp only[cr,Instr.fill]
   rw[ai (by simp;omega)]
   exact f1
theorem Qz {z:Array Value} {n k:Nat} (hk:k<n) (hz:0<z.size):((Array.range n).map (z[· %z.size]!))[k]? =z[k %z.size]? :=by
 have hm:k %z.size<z.size:=xb _ hz
 simp[hk,hm]
theorem FQ {e:TypeId} (h:mA P e=true) {i:TypeInfo} {z:Value} (hi:P.info? e=some i) (hz:i.zero=some z) (n m:Nat) (jK:n≤m):
  ∀(k j:Nat) (x:V) (t':TypeId),(List.replicate n (cA P e (eN P e)))[k]? =some x→(ba P e)[j]? =some t'→j<P.cellsOf e→
   ∃v,((Array.range (m*P.cellsOf e)).map (z.cells[· %z.cells.size]!))[k*P.cellsOf e+j]? =some v∧Pure P w I t' v (bQ P e x j):=by
 intro k j x t' hx ht hj
 obtain ⟨i2,z2,h1,U,h3,h4,h5⟩:=A9 (w:=w) (I:=I) h
 rw[hi] at h1;cases h1
 rw[hz] at U;cases U
 rw[EI] at hx
 split at hx
 ·rename_i hk
  cases hx
  obtain ⟨v,hv,hp⟩:=h5 j t' ht hj
  refine ⟨v,?_,hp⟩
  have hb:k*P.cellsOf e+j<m*P.cellsOf e:=by
   have:(k+1)*P.cellsOf e≤m*P.cellsOf e:=dM _ (by omega)
   rw[dy] at this
   omega
  rw[Qz hb (by omega),h4,show (k*P.cellsOf e+j) %P.cellsOf e=j by rw[kY,Nat.mul_add_mod];exact Nat.mod_eq_of_lt hj]
  exact hv
 ·cases hx
theorem aa5 {P:Program} (w:World) (t e:TypeId) (len:Nat) (parts:Array (Nat × Value)) (cells:Array Value) (ie:TypeInfo) (z:Value)
  (hu:P.underlying t=some (.slice e)) (jT:P.info? e=some ie) (hz:ie.zero=some z) (aa6: ¬len*ie.size>2^24)
  (h:Instr.fill (fun i=>some (i*ie.size,ie.size)) ((Array.range (len*ie.size)).map (z.cells[· %z.cells.size]!)) parts.toList=some cells):
  (Instr.buildSlice t len parts).run P w= .ok (.slice (some ⟨w.heap.size,0,none⟩) len len) (w.alloc (.cells cells e)):=by
 by_cases jK:len*ie.size=0
 ·have h0: ∀g:Nat→Value,(Array.range (len*ie.size)).map g= #[]:=by intro g;exact Array.eq_empty_of_size_eq_zero (by simp[jK])
  have hp: ∀(u:Array Value),(Pure.pure u:Sem (Array Value)).run P w= .ok u w:=fun _=>rfl
  rw[h0] at h
  simp only[Instr.buildSlice,Sem.run_bind,run_underlying hu,Result.andThen_ok,sizeOf,typeInfo,jT]
  have h1:(Array.range (len*ie.size)).map (fun _:Nat=>(default:Value))= #[]:=h0 _
  have hs: ¬16777216<len*ie.size:=by omega
  simp[jT,hs,jK]
  simp only[jK] at h1
  simp[h1,h,newRow]
 ·exact run_buildSlice w t e len parts cells ie z hu jT hz aa6 jK h
theorem aa7 (S:aI P w I β hp B M w0) {a:Act} {sl:Nat→V} (hs:lf P w I β hp a sl) {G:Nat→V} (hg:gV P G w I) {t e:TypeId} {len nb:Nat} {ps:Array (Nat × Operand)} {r:R} {rd:List Nat} (hu:P.underlying t=some (.slice e))
  (h:(Rd.aE (mA P e&&Nat.ble (len*P.cellsOf e) (2^24)) ((As P e len (ps.toList.map fun p=>(p.1,aW P G e sl p.2))).bind fun r=>
    jv nb (.arr e (Ar (List.replicate len (cA P e (eN P e))) r.1) false) (.whole e nb) r.2)).run C hp=some (r,rd)):
  da P ((Instr.buildSlice t len (ps.map fun (i,x)=>(i,a.eval x))).run P w) w I β hp B M w0 r:=by
 obtain ⟨hc,h⟩:=aK h
 simp only[aN,eb] at hc
 obtain ⟨cX,xw⟩:=hc
 have ay:cW P e=true:=by
  unfold mA at cX;simp only[aN] at cX;exact cX.1
 obtain ⟨⟨pv,upd⟩,l1,l2,h1,h⟩:=lg h
 obtain ⟨hn,rfl⟩:=nO h
 obtain ⟨m1,m2⟩:=Qy S.h.rel hs hg h1 ay
 obtain ⟨rC,S1⟩:=AT S m1
 obtain ⟨i,z,hi,hz,h3,h4,_⟩:=A9 (w:=w) (I:=I) cX
 have jQ:=(kz ay).2
 have h0:xP P w (ja P w I β hp upd) e ((Array.range (len*P.cellsOf e)).map (z.cells[· %z.cells.size]!)) (List.replicate len (cA P e (eN P e))):=
  ⟨by simp,FQ cX hi hz len len (bU _)⟩
 obtain ⟨cells,f1,f2,f3⟩:=m2 (ja P w I β hp upd) (fun _ h=> .inl h) (fun p hp b h=> .inr ⟨p,hp,h⟩) _ _ (by simp) h0
 have kE:bO hp upd nb=none:=by
  rcases uL (hp:=hp) (l:=upd) (id:=nb) with h|⟨b',hm,_⟩
  ·exact h.trans hn
  ·obtain ⟨e1,cw,_,h5⟩:=m1 _ hm
   simp only[hn] at h5
   rcases h5 with ⟨_,h5⟩|⟨_,h5⟩<;>cases h5
 have nJ:len≤maxLen:=by
  have:len*1≤len*P.cellsOf e:=uk _ jQ
  simp only[maxLen]
  omega
 obtain ⟨n1,n2,n3⟩:=xQ S1 (cap:=len) ay kE (by rw[f2.1,f3]) (by rw[f3];exact bU _) nJ f2.2
 have c8:=aa5 w t e len (ps.map fun (i,x)=>(i,a.eval x)) cells i z hu hi hz (by rw[h3];omega) (by rw[h3];simpa using f1)
 refine ⟨_,_,_,_,c8,rC.trans n1,n2,?_⟩
 rw[f3] at n3
 exact n3
theorem QA (S:aI P w I β hp B M w0) {t e:TypeId} {nb:Nat} {kl kc:IntKind} {n m:Int} {r:R} {rd:List Nat} (hu:P.underlying t=some (.slice e))
  (h:(Rd.aE (mA P e&&(decide (0≤n)&&(decide (n≤m)&&Nat.ble (m.toNat*P.bytesOf e) cJ)))
    (jv nb (.arr e (List.replicate n.toNat (cA P e (eN P e))) false) (.whole e nb) [])).run C hp=some (r,rd)):
  da P ((Instr.makeSlice t (.int kl n) (.int kc m)).run P w) w I β hp B M w0 r:=by
 obtain ⟨hc,h⟩:=aK h
 simp only[aN,eb,dW] at hc
 obtain ⟨cX,h0,jK,dX⟩:=hc
 have ay:cW P e=true:=by
  unfold mA at cX;simp only[aN] at cX;exact cX.1
 obtain ⟨hn,rfl⟩:=nO h
 obtain ⟨i,z,hi,hz,h3,h4,_⟩:=A9 (w:=w) (I:=I) cX
 have ll:P.bytesOf e=i.bytes:=by simp[Program.bytesOf,hi]
 have Kn:m≤9223372036854775807:=by
  have h1:m.toNat*1≤m.toNat*P.bytesOf e:=uk _ (xy ay)
  simp only[cJ] at dX
  omega
 have c8:=run_make (P:=P) w t e i z hu hi hz kl kc n m h0 jK (by
  rw[ll] at dX
  simp only[cJ] at dX
  have:(i.bytes:Int)*m=((m.toNat*i.bytes:Nat):Int):=by
   rw[Int.natCast_mul,Int.toNat_of_nonneg (by omega),Int.mul_comm]
  rw[this]
  omega) Kn
 have hlen:(List.replicate n.toNat (cA P e (eN P e))).length=n.toNat:=by simp
 obtain ⟨n1,n2,n3⟩:=xQ S (cap:=m.toNat) (es:=List.replicate n.toNat (cA P e (eN P e))) (C0:=madeCells z.cells (m.toNat*i.size)) ay hn (by rw[size_madeCells,h3]) (by rw[hlen];omega) (by simp only[maxLen];omega)
  (by rw[h3];exact FQ cX hi hz n.toNat m.toNat (by omega))
 refine ⟨_,_,_,_,c8,n1,n2,?_⟩
 rw[hlen] at n3
 exact n3
theorem Ko: ∀{l:List V} {j:Nat} {e1:TypeId} {k:List V},AD l=true→V.nth l j= .list e1 k→k=[]
 | [],j,e1,k,_,h=>by cases j<;>cases h
 | x::l,0,e1,k,hn,h=>by
  simp only[V.nth] at h
  subst h
  cases k with
  | nil=>rfl
  | cons _ _=>cases hn
 | x::l,j+1,e1,k,hn,h=>by
  refine Ko (l:=l) (j:=j) ?_ h
  cases x with
  | list e2 k2=>
   cases k2 with
   | nil=>exact hn
   | cons _ _=>cases hn
  | _=>exact hn
theorem aa8 {e:TypeId} {n:Nat} (ay:cW P e=true) (h:AD (eN P e)=true):
  ∀(i j:Nat) x t' e1 l,(List.replicate n (cA P e (eN P e)))[i]? =some x→(ba P e)[j]? =some t'→bQ P e x j= .list e1 l→l=[]:=by
 intro i j x t' e1 l hx ht hl
 have:=List.eq_of_mem_replicate (jJ hx)
 subst this
 unfold bQ cA at hl
 cases ha:bL P e with
 | true=>rw[ha] at hl;exact Ko h hl
 | false=>rw[ha] at hl;exact Ko h hl
theorem aa9 (S:aI P w I β hp B M w0) {t e:TypeId} {nb:Nat} {kl kc:IntKind} {n m:Int} {r:R} {rd:List Nat} (hu:P.underlying t=some (.slice e))
  (h:(Rd.aE (mA P e&&(decide (0≤n)&&(decide (n≤m)&&Nat.ble (m.toNat*P.bytesOf e) cJ)))
    (Rd.aE (AD (eN P e)) (jv nb (.nest e (List.replicate n.toNat (cA P e (eN P e))) [0,0,0]) (.whole e nb) []))).run C hp=some (r,rd)):
  da P ((Instr.makeSlice t (.int kl n) (.int kc m)).run P w) w I β hp B M w0 r:=by
 obtain ⟨hc,h⟩:=aK h
 simp only[aN,eb,dW] at hc
 obtain ⟨cX,h0,jK,dX⟩:=hc
 have ay:cW P e=true:=by
  unfold mA at cX;simp only[aN] at cX;exact cX.1
 obtain ⟨hnr,h⟩:=aK h
 obtain ⟨hn,rfl⟩:=nO h
 obtain ⟨i,z,hi,hz,h3,h4,_⟩:=A9 (w:=w) (I:=I) cX
 have ll:P.bytesOf e=i.bytes:=by simp[Program.bytesOf,hi]
 have Kn:m≤9223372036854775807:=by
  have h1:m.toNat*1≤m.toNat*P.bytesOf e:=uk _ (xy ay)
  simp only[cJ] at dX
  omega
 have c8:=run_make (P:=P) w t e i z hu hi hz kl kc n m h0 jK (by
  rw[ll] at dX
  simp only[cJ] at dX
  have:(i.bytes:Int)*m=((m.toNat*i.bytes:Nat):Int):=by
   rw[Int.natCast_mul,Int.toNat_of_nonneg (by omega),Int.mul_comm]
  rw[this]
  omega) Kn
 have hlen:(List.replicate n.toNat (cA P e (eN P e))).length=n.toNat:=by simp
 obtain ⟨n1,n2,n3⟩:=aa4 S (cap:=m.toNat) (es:=List.replicate n.toNat (cA P e (eN P e))) (C0:=madeCells z.cells (m.toNat*i.size)) ay hn (by rw[size_madeCells,h3]) (by rw[hlen];omega) (by simp only[maxLen];omega)
  (by rw[h3];exact FQ cX hi hz n.toNat m.toNat (by omega))
  (aa8 ay hnr)
 refine ⟨_,_,_,_,c8,n1,n2,?_⟩
 rw[hlen] at n3
 exact n3
theorem Pure.one {t:TypeId} {v:Value} {x:V} (h:Pure P w I t v x):v.oneCell'=true:=by cases h<;>rfl
structure Row (P:Program) (w:World) (I:Nat→Prop) (e:TypeId) (v:Value) (xs:List V) (a:Addr) (c:Nat) (news:List Value):Prop where
 val:v= .slice (some a) xs.length c
 len:news.length=xs.length*P.cellsOf e
 cell: ∀(j:Nat) u,news[j]? =some u→w.cell? (a.add j)=some u
 el: ∀(i j:Nat) (x:V) (t':TypeId),xs[i]? =some x→(ba P e)[j]? =some t'→j<P.cellsOf e→∃u,news[i*P.cellsOf e+j]? =some u∧Pure P w I t' u (bQ P e x j)
theorem Row.one {e:TypeId} {v:Value} {xs:List V} {a:Addr} {c:Nat} {news:List Value} (h:Row P w I e v xs a c news) (ay:cW P e=true): ∀u∈news,u.oneCell'=true:=by
 intro u hu
 obtain ⟨k,hk⟩:=sF hu
 have iG:=(bu.1 hk).1
 have jQ:=(kz ay).2
 rw[h.len] at iG
 have hi:k/P.cellsOf e<xs.length:=Nat.div_lt_of_lt_mul (by rw[kY];exact iG)
 have hj:k %P.cellsOf e<P.cellsOf e:=xb _ jQ
 have fZ:k %P.cellsOf e<(ba P e).length:=by rw[fK ay];exact hj
 obtain ⟨u',ft,hp⟩:=h.el (k/P.cellsOf e) (k %P.cellsOf e) _ _ (bN hi) (bN fZ) hj
 rw[Nat.div_add_mod'] at ft
 rw[hk] at ft
 cases ft
 exact hp.one
theorem QB {e:TypeId} {es:List V} {b:Nat} {Ca:Array Value} {off len cap o:Nat} (hh:w.heap[b]? =some (.cells Ca e (0,0))) (hs:es.length*P.cellsOf e≤Ca.size)
  (hx: ∀(i j:Nat) (x:V) (t':TypeId),es[i]? =some x→(ba P e)[j]? =some t'→j<P.cellsOf e→∃v,Ca[i*P.cellsOf e+j]? =some v∧Pure P w I t' v (bQ P e x j))
  (ld:off+len≤es.length) (ho:0<len→o=off*P.cellsOf e):
  Row P w I e (.slice (some ⟨b,o,none⟩) len cap) ((es.drop off).take len) ⟨b,o,none⟩ cap ((Ca.toList.drop (off*P.cellsOf e)).take (len*P.cellsOf e)):=by
 have hlen:((es.drop off).take len).length=len:=by simp;omega
 have hb:(off+len)*P.cellsOf e≤Ca.size:=kW (dM _ ld) hs
 rw[dy] at hb
 refine ⟨by rw[hlen],by rw[hlen];simp;omega,fun j u hj=> ?_,fun i j x t' gE ht hj=> ?_⟩
 ·have cp:=(bu.1 hj).1
  have Kp:j<len*P.cellsOf e:=by
   rw[fS] at cp;omega
  have jR:0<len:=by
   rcases Nat.eq_zero_or_pos len with h|h
   ·rw[h] at Kp;simp at Kp
   ·exact h
  rw[fe Kp,il] at hj
  rw[nK,cell?_cells hh,ho jR]
  simpa using hj
 ·have hi:i<len:=by rw[←hlen];exact (bu.1 gE).1
  rw[fe hi,il] at gE
  obtain ⟨u,hu,hp⟩:=hx (off+i) j x t' gE ht hj
  refine ⟨u,?_,hp⟩
  have:i*P.cellsOf e+j<len*P.cellsOf e:=by
   have:(i+1)*P.cellsOf e≤len*P.cellsOf e:=dM _ hi
   rw[dy] at this
   omega
  rw[fe this,il]
  rw[dy] at hu
  rw[←oH]
  simpa using hu
theorem FR (cL: ∀id blk,hp id=some blk→ed P w I β hp (β id) blk) {e:TypeId} {v:Value} {x:V} {k:List V→Rd R} {r:R} {rd:List Nat} (ay:cW P e=true) (hv:ao P w I β hp v x)
  (h:(sO e x k).run C hp=some (r,rd)): ∃xs,(((∃a,v= .slice a 0 0)∧xs=[])∨∃a c news,Row P w I e v xs a c news)∧∃l,(k xs).run C hp=some (r,l):=by
 cases hv with
 | list hp'=>
  obtain ⟨hc,U⟩:=aK h
  clear h
  rw[a8] at hc
  subst hc
  cases hp' with
  | nil=>exact ⟨[],.inl ⟨⟨_,rfl⟩,rfl⟩,rd,U⟩
  | @emp a cap=>exact ⟨[],.inr ⟨a,cap,[],⟨rfl,by simp,fun j u hj=>by simp at hj,fun i j x t' hx _ _=>by simp at hx⟩⟩,rd,U⟩
  | @list b o len cap es g hl cg hI gq hx=>
   refine ⟨_,.inr ⟨⟨b,o,none⟩,cap,(List.range (len*P.cellsOf e)).map fun k=>g (k/P.cellsOf e) (k %P.cellsOf e),⟨by rw[hl],by rw[hl];simp,fun j u hj=> ?_,fun i j x t' gE ht hj=> ?_⟩⟩,rd,U⟩
   ·obtain ⟨cp,iE⟩:=bu.1 hj
    simp at cp iE
    have jQ:=(kz ay).2
    have hi:j/P.cellsOf e<len:=Nat.div_lt_of_lt_mul (by rw[kY];exact cp)
    have gu:j %P.cellsOf e<P.cellsOf e:=xb _ jQ
    rw[nK,←iE]
    have:=gq (j/P.cellsOf e) (j %P.cellsOf e) hi gu
    rwa [Nat.div_add_mod'] at this
   ·have hi:i<len:=by rw[←hl];exact (bu.1 gE).1
    have hb:i*P.cellsOf e+j<len*P.cellsOf e:=by
     have:(i+1)*P.cellsOf e≤len*P.cellsOf e:=dM _ hi
     rw[dy] at this
     omega
    refine ⟨g i j,?_,hx i j x t' gE ht⟩
    have e1:(i*P.cellsOf e+j)/P.cellsOf e=i:=by
     rw[kY,Nat.mul_add_div (kz ay).2,Nat.div_eq_of_lt hj,Nat.add_zero]
    have e2:(i*P.cellsOf e+j) %P.cellsOf e=j:=by
     rw[kY,Nat.mul_add_mod];exact Nat.mod_eq_of_lt hj
    simp[hb,e1,e2]
 | nilS=>
  obtain ⟨hc,h⟩:=aK h
  exact ⟨[],.inl ⟨⟨_,rfl⟩,rfl⟩,rd,h⟩
 | dP ab hb=>
  obtain ⟨l,h⟩:=run_get h
  simp only[ab] at h
  obtain ⟨hc,h⟩:=aK h
  exact ⟨[],.inl ⟨⟨_,rfl⟩,rfl⟩,l,h⟩
 | @whole e' id es fz b cap ab hb bd cg hm=>
  obtain ⟨l,h⟩:=run_get h
  simp only[ab] at h
  obtain ⟨hc,U⟩:=aK h
  clear h
  simp only[aN,a8] at hc
  obtain ⟨rfl,_⟩:=hc
  have hr:=cL _ _ ab
  cases hr with
  | dQ aB=>rw[aB] at hb;cases hb
  | arr J4 aB hh hs hf ep hx=>
   rw[hb] at aB;cases aB
   have:=QB (cap:=cap) (off:=0) (len:=es.length) (o:=0) hh hs hx (by omega) (fun _=>by simp)
   exact ⟨es,.inr ⟨_,_,_,by simpa using this⟩,l,U⟩
 | fY ab hb=>
  obtain ⟨l,h⟩:=run_get h
  simp only[ab] at h
  obtain ⟨hc,h⟩:=aK h
  exact ⟨[],.inl ⟨⟨_,rfl⟩,rfl⟩,l,by simpa using h⟩
 | @sub e' id off len es fz b o cap ab hb ld cg ho=>
  obtain ⟨l,h⟩:=run_get h
  simp only[ab] at h
  obtain ⟨hc,U⟩:=aK h
  clear h
  simp only[aN,a8] at hc
  obtain ⟨rfl,_⟩:=hc
  have hr:=cL _ _ ab
  cases hr with
  | dQ aB=>rw[aB] at hb;cases hb
  | arr J4 aB hh hs hf ep hx=>
   rw[hb] at aB;cases aB
   exact ⟨_,.inr ⟨_,_,_,QB (cap:=cap) hh hs hx ld ho⟩,l,U⟩
 | eo ab=>
  obtain ⟨l,h⟩:=run_get h
  simp only[ab] at h
  cases h
 | gp ab=>
  obtain ⟨l,h⟩:=run_get h
  simp only[ab] at h
  cases h
 | undef=>cases h
 | int=>cases h
 | bool=>cases h
 | str=>cases h
 | agg=>cases h
 | bm=>cases h
 | dA=>cases h
 | fn=>cases h
 | pref=>cases h
 | ku=>cases h
 | ptr=>cases h
 | jN=>cases h
 | jO=>cases h
 | row=>cases h
 | cK=>cases h
 | dE=>cases h
 | iD=>cases h
 | cD=>cases h
 | eF ab=>
  obtain ⟨l,h⟩:=run_get h
  simp only[ab] at h
  cases h
theorem QC {t ty e:TypeId} {i:TypeInfo} (ht:P.underlying t=some (.slice e)) (hi:P.info? e=some i) (a:Option Addr) (n cap:Nat) (x:Value) (hx: ∃a c,x= .slice a 0 c) (hn:n≤cap):
  (Builtin.append_ #[t,t] ty #[.slice a n cap,x]).run P w= .ok (.slice a n cap) w:=by
 obtain ⟨a',c,rfl⟩:=hx
 cases a' with
 | none=>cases a<;>simp[Builtin.append_,run_underlying ht,sizeOf,typeInfo,hi,Builtin.lenOf,Builtin.firstCells,hn,storeCells]
 | some a'=>cases a<;>simp[Builtin.append_,run_underlying ht,sizeOf,typeInfo,hi,Builtin.lenOf,Builtin.firstCells,hn,storeCells,loadCells,loadCellsFrom]
theorem FT {e:TypeId} {es xs:List V} {n:Nat} {c:List Value} {news:List Value} (hn:es.length=n)
  (h1: ∀(i j:Nat) (x:V) (t':TypeId),es[i]? =some x→(ba P e)[j]? =some t'→j<P.cellsOf e→∃v,c[i*P.cellsOf e+j]? =some v∧Pure P w I t' v (bQ P e x j))
  (U: ∀(i j:Nat) (x:V) (t':TypeId),xs[i]? =some x→(ba P e)[j]? =some t'→j<P.cellsOf e→∃v,news[i*P.cellsOf e+j]? =some v∧Pure P w I t' v (bQ P e x j))
  (hb:n*P.cellsOf e≤c.length) (rest:List Value):
  ∀(i j:Nat) (x:V) (t':TypeId),(es++xs)[i]? =some x→(ba P e)[j]? =some t'→j<P.cellsOf e→∃v,(c.take (n*P.cellsOf e)++news++rest)[i*P.cellsOf e+j]? =some v∧Pure P w I t' v (bQ P e x j):=by
 intro i j x t' hx ht hj
 have hl:(c.take (n*P.cellsOf e)).length=n*P.cellsOf e:=by simp;omega
 by_cases hi:i<n
 ·rw[iR (by omega)] at hx
  obtain ⟨v,hv,hp⟩:=h1 i j x t' hx ht hj
  have:i*P.cellsOf e+j<n*P.cellsOf e:=by
   have:(i+1)*P.cellsOf e≤n*P.cellsOf e:=dM _ hi
   rw[dy] at this
   omega
  exact ⟨v,by rw[cv,iR (by omega),fe this];exact hv,hp⟩
 ·rw[iq (by omega),hn] at hx
  obtain ⟨v,hv,hp⟩:=U (i-n) j x t' hx ht hj
  have g9:i-n<xs.length:=(bu.1 hx).1
  have e1:i*P.cellsOf e+j-n*P.cellsOf e=(i-n)*P.cellsOf e+j:=by
   rw[Nat.sub_mul]
   have:n*P.cellsOf e≤i*P.cellsOf e:=dM _ (by omega)
   omega
  have h3:(i-n)*P.cellsOf e+j<news.length:=(bu.1 hv).1
  refine ⟨v,?_,hp⟩
  have h4:n*P.cellsOf e≤i*P.cellsOf e+j:=by
   have:n*P.cellsOf e≤i*P.cellsOf e:=dM _ (by omega)
   omega
  rw[cv,iq (by omega),hl,e1,iR h3]
  exact hv
theorem Pure.drew {t:TypeId} {v:Value} {x:V} (h:Pure P w I t v x):Pure P w.drew I t v x:=Pure.mono (w:=w) (w':=w.drew) (fun _ h=>h) (fun _ _=>rfl) h
theorem aba (w:World) (t ty e:TypeId) (i:TypeInfo) (z:Value) (ht:P.underlying t=some (.slice e)) (hi:P.info? e=some i) (hz:i.zero=some z)
  (a0:Option Addr) (a:Addr) (n c:Nat) (news:List Value) (hl:news.length=n*i.size) (FU: ∀j v,news[j]? =some v→w.cell? (a.add j)=some v)
  (h0:0<n) (FV:(n:Int)≤9223372036854775807) (FW:n*i.bytes≤281474976710656):
  (Builtin.append_ #[t,t] ty #[.slice a0 0 0,.slice (some a) n c]).run P w=
   .ok (.slice (some ⟨w.heap.size,0,none⟩) n (grownCap w n 0 e)) (w.drew.alloc (.cells (news.toArray++Builtin.zeroCells z.cells (grownCap w n 0 e-n)) e)):=by
 cases a0 with
 | none=>exact run_append_nil w t ty e i z ht hi hz a n c news hl FU h0 FV FW
 | some b=>
  have:=run_append_grow (P:=P) w t ty e i z ht hi hz b 0 0 [] (by simp) (by simp) a n c news hl FU (by omega) (by omega) (by rw[gQ,nextslicecap_zero h0];omega)
  simpa using this
theorem Kq (S:aI P w I β hp B M w0) {t ty e:TypeId} {nb:Nat} {x:Value} {xs:List V} (hu:P.underlying t=some (.slice e)) (ay:cW P e=true) (hn:hp nb=none)
  (dX:xs.length*P.bytesOf e≤cJ) {a0:Option Addr} (hx:((∃a,x= .slice a 0 0)∧xs=[])∨∃a c news,Row P w I e x xs a c news):
  ∃v w' β',(Builtin.append_ #[t,t] ty #[.slice a0 0 0,x]).run P w= .ok v w'∧Le P w I β hp w' I β' (aM hp nb (some (.arr e xs false)))∧aI P w' I β' (aM hp nb (some (.arr e xs false))) B M w0∧
   ao P w' I β' (aM hp nb (some (.arr e xs false))) v (.whole e nb):=by
 obtain ⟨i,z,hi,hz,h3,h4,_⟩:=kD ay
 have uZ:=xy ay
 have ll:P.bytesOf e=i.bytes:=by simp[Program.bytesOf,hi]
 have hlen:xs.length≤2^45:=by
  have:xs.length*1≤xs.length*P.bytesOf e:=uk _ uZ
  simp only[cJ] at dX
  omega
 have empty:xs=[]→(∃a c,x= .slice a 0 c)→∃v w' β',(Builtin.append_ #[t,t] ty #[.slice a0 0 0,x]).run P w= .ok v w'∧Le P w I β hp w' I β' (aM hp nb (some (.arr e xs false)))∧aI P w' I β' (aM hp nb (some (.arr e xs false))) B M w0∧
   ao P w' I β' (aM hp nb (some (.arr e xs false))) v (.whole e nb):=by
  intro gG Kr
  subst gG
  obtain ⟨a1,a2⟩:=Fu S e hn
  exact ⟨_,_,_,QC hu hi a0 0 0 x Kr (bU _),a1,a2,.dP (c7 _ _ _) (c7 _ _ _)⟩
 rcases hx with ⟨⟨_,rfl⟩,rfl⟩|⟨a,c,news,hr⟩
 ·exact empty rfl ⟨_,_,rfl⟩
 ·by_cases h0:xs.length=0
  ·have gG:xs=[]:=lK h0
   refine empty gG ⟨some a,c,?_⟩
   rw[hr.val,h0]
  ·have c8:=aba (P:=P) w t ty e i z hu hi hz a0 a xs.length c news (by rw[hr.len,h3]) hr.cell (by omega) (by omega) (by rw[←ll];simp only[cJ] at dX;omega)
   have pW:=grownCap_ge w xs.length 0 e
   have u0:grownCap w xs.length 0 e≤maxLen:=grownCap_le_maxLen w xs.length 0 e (by simp only[maxLen];omega)
   obtain ⟨n1,n2,n3⟩:=xQ S.drew (nb:=nb) (cap:=grownCap w xs.length 0 e) (es:=xs) (C0:=news.toArray++Builtin.zeroCells z.cells (grownCap w xs.length 0 e-xs.length)) ay hn
    (by simp only[EJ,qP,size_zeroCells,h4,hr.len,←dy];congr 1;omega) pW u0
    (fun i' j y t' hy ht hj=>by
     obtain ⟨u,ft,hp⟩:=hr.el i' j y t' hy ht hj
     have aT:=(bu.1 ft).1
     refine ⟨u,?_,Pure.drew hp⟩
     rw[Array.getElem?_append_left (by simpa using aT)]
     simpa using ft)
   rw[hr.val]
   exact ⟨_,_,_,c8,(Le.drew w I β hp).trans n1,n2,n3⟩
theorem abb (S:aI P w I β hp B M w0) {t ty e:TypeId} {nb:Nat} {s x:Value} {sv xv:V} {r:R} {rd:List Nat} (hu:P.underlying t=some (.slice e)) (hs:ao P w I β hp s sv) (hx:ao P w I β hp x xv)
  (h:(xk P nb e sv xv).run C hp=some (r,rd)):da P ((Builtin.append_ #[t,t] ty #[s,x]).run P w) w I β hp B M w0 r:=by
 unfold xk at h
 obtain ⟨ay,h⟩:=aK h
 obtain ⟨xs,l7,l0,h⟩:=FR S.h.rel ay hx h
 cases sv with
 | nilS e'=>
  obtain ⟨hc,h⟩:=aK h
  simp only[aN,a8,eb] at hc
  obtain ⟨hn,rfl⟩:=nO h
  obtain ⟨a0,rfl⟩: ∃a0,s= .slice a0 0 0:=by cases hs;exact ⟨_,rfl⟩
  obtain ⟨v,w',β',a1,a2,a3,a4⟩:=Kq (ty:=ty) S hu ay hn hc.2 l7
  exact ⟨v,w',I,β',a1,a2,a3,a4⟩
 | whole e' id=>
  obtain ⟨l,h⟩:=run_get h
  cases ab:hp id with
  | none=>rw[ab] at h;cases h
  | some blk=>
   rw[ab] at h
   cases blk with
   | dead=>cases h
   | var _=>cases h
   | nest _ _ _=>cases h
   | map _ _=>cases h
   | arr dN es fz=>
    cases fz with
    | true=>cases h
    | false=>
     obtain ⟨hc,h⟩:=aK h
     obtain ⟨hn,rfl⟩:=nO h
     simp only[aN,a8,eb] at hc
     obtain ⟨Ks,Kt,dX⟩:=hc
     subst Ks
     subst Kt
     have bD:nb≠id:=fun e=>by rw[e,ab] at hn;cases hn
     obtain ⟨k1,k2⟩:=Fv S ab
     have kE:aM hp id (some an.dead) nb=none:=by rw[er _ _ bD];exact hn
     cases hs with
     | eo hd=>rw[ab] at hd;cases hd
     | eF hd=>rw[ab] at hd;cases hd
     | dP hd hb=>
      rw[ab] at hd
      cases hd
      simp only[List.length_nil,gQ] at dX
      have abc:((∃a,x= .slice a 0 0)∧xs=[])∨∃a c news,Row P w I e x xs a c news:=l7
      obtain ⟨v,w',β',a1,a2,a3,a4⟩:=Kq (ty:=ty) k2 hu ay kE dX abc
      exact ⟨v,w',I,β',a1,k1.trans a2,a3,a4⟩
     | @whole _ _ aP nB b cap hd hb bd cg hm=>
      rw[ab] at hd
      cases hd
      have hr:=S.h.rel id _ ab
      cases hr with
      | dQ aB=>rw[aB] at hb;cases hb
      | @arr _ _ _ b' Ca _ aB hh pY hf ep mK=>
       rw[hb] at aB
       cases aB
       obtain ⟨i,z,hi,hz,h3,h4,_⟩:=kD ay
       have uZ:=xy ay
       have ll:P.bytesOf e=i.bytes:=by simp[Program.bytesOf,hi]
       have hlen:es.length+xs.length≤2^45:=by
        have:(es.length+xs.length)*1≤(es.length+xs.length)*P.bytesOf e:=uk _ uZ
        simp only[cJ] at dX
        omega
       rw[nF hh] at bd
       have rq: ∀aG blk',aM hp id (some an.dead) aG=some blk'→¬bC P w (β aG) blk' b:=by
        intro aG blk' h1 U
        by_cases je:aG=id
        ·subst je;rw[c7] at h1;cases h1;exact U.alive rfl
        ·rw[er _ _ je] at h1
         exact je (S.h.inj aG id blk' _ b h1 ab U (.root (by simp) hb))
       have Ku:=S.h.sX id _ b ab (by simp) hb
       have room: ∀(C':Array Value) (w':World) (ys:List V),w'.heap[b]? =some (.cells C' e (0,0))→C'.size=Ca.size→(∀b',b'≠b→w'.heap[b']? =w.heap[b']?)→w.heap.size≤w'.heap.size→(w'.os=w.os∧w'.output=w.output)→ys.length≤cap→
         (∀(i j:Nat) (y:V) (t':TypeId),ys[i]? =some y→(ba P e)[j]? =some t'→j<P.cellsOf e→∃v,C'[i*P.cellsOf e+j]? =some v∧Pure P w I t' v (bQ P e y j))→
         Le P w I β hp w' I (aM β nb (some b)) (aM (aM hp id (some .dead)) nb (some (.arr e ys false)))∧aI P w' I (aM β nb (some b)) (aM (aM hp id (some .dead)) nb (some (.arr e ys false))) B M w0∧
         ao P w' I (aM β nb (some b)) (aM (aM hp id (some .dead)) nb (some (.arr e ys false))) (.slice (some ⟨b,0,none⟩) ys.length cap) (.whole e nb):=by
        intro C' w' ys hC oU hw' hwz abd uU hy
        obtain ⟨a1,a2⟩:=AU k2 (blk:= .arr e ys false) (w':=w') kE rq (ep rfl) (fun b' h _=>hw' b' h) hwz abd Ku
         (fun b' h=>(cT (h.flat (by simp))).symm) (fun hle=> .arr ay rfl hC (by rw[oU,←bd];exact dM _ uU) (fun h=>by cases h) (fun _=>ep rfl) fun i j y t' a b c=>by
          obtain ⟨v,hv,hp⟩:=hy i j y t' a b c
          exact ⟨v,hv,hp.mono hle.dq hle.cm⟩)
        refine ⟨k1.trans a1,a2,.whole (c7 _ _ _) (c7 _ _ _) ?_ uU hm⟩
        rw[nF hC,oU,bd]
       have same:xs=[]→(∃a c,x= .slice a 0 c)→da P ((Builtin.append_ #[t,t] ty #[.slice (some ⟨b,0,none⟩) es.length cap,x]).run P w) w I β hp B M w0 ⟨.whole e nb,[(nb,.arr e (es++xs) false),(id,.dead)]⟩:=by
        intro gG Kr
        subst gG
        rw[dz]
        obtain ⟨a1,a2,a3⟩:=room Ca w es hh rfl (fun _ _=>rfl) (bU _) ⟨rfl,rfl⟩ cg mK
        exact ⟨_,_,_,_,QC hu hi _ _ _ x Kr cg,a1,a2,a3⟩
       rcases l7 with ⟨⟨_,rfl⟩,rfl⟩|⟨a,c,news,cM⟩
       ·exact same rfl ⟨_,_,rfl⟩
       ·have h1:=cM.one ay
        have lZ:es.length*P.cellsOf e≤Ca.toList.length:=by simpa using pY
        by_cases ta:es.length+xs.length≤cap
        ·have Ba:es.length*P.cellsOf e+news.length≤Ca.size:=by rw[cM.len,←dy,←bd];exact dM _ ta
         have c8:=run_append_room (P:=P) w t ty e i hu hi b es.length cap Ca hh a xs.length c news (by rw[cM.len,h3]) cM.cell h1 ta (by rw[h3];exact Ba)
         rw[h3] at c8
         have cX:=FT (P:=P) (w:=w) (I:=I) (n:=es.length) (c:=Ca.toList) rfl (fun i j y t' a b c=>by
          obtain ⟨v,hv,hp⟩:=mK i j y t' a b c
          exact ⟨v,by simpa using hv,hp⟩) cM.el lZ (Ca.toList.drop (es.length*P.cellsOf e+news.length))
         obtain ⟨a1,a2,a3⟩:=room (Ca.toList.take (es.length*P.cellsOf e)++news++Ca.toList.drop (es.length*P.cellsOf e+news.length)).toArray (w.setRow b _) (es++xs)
          (setRow_heap w b Ca _ e _ hh) (by simp;omega) (fun b' aB=>setRow_other w b b' _ aB) (by simp) ⟨rfl,rfl⟩ (by simpa using ta)
          (fun i j y t' a b c=>by
           obtain ⟨v,hv,hp⟩:=cX i j y t' a b c
           exact ⟨v,by simpa using hv,hp⟩)
         rw[cM.val]
         rw[cz] at a3
         exact ⟨_,_,_,_,c8,a1,a2,a3⟩
        ·have hold: ∀(j:Nat) v,(Ca.toList.take (es.length*P.cellsOf e))[j]? =some v→w.cell? ((⟨b,0,none⟩:Addr).add j)=some v:=by
          intro j v hj
          have cp:=(bu.1 hj).1
          have gu:j<es.length*P.cellsOf e:=by rw[fS] at cp;omega
          rw[fe gu] at hj
          rw[nK,cell?_cells hh,gQ]
          simpa using hj
         have c8:=run_append_grow (P:=P) w t ty e i z hu hi hz ⟨b,0,none⟩ es.length cap (Ca.toList.take (es.length*P.cellsOf e)) (by rw[h3];simp;omega) hold a xs.length c news (by rw[cM.len,h3]) cM.cell (by omega) (by omega)
          (growslice_fits (by omega) (by rw[←ll];simp only[cJ] at dX;omega))
         have pW:=grownCap_ge w (es.length+xs.length) cap e
         have u0:grownCap w (es.length+xs.length) cap e≤maxLen:=grownCap_le_maxLen w _ cap e (by simp only[maxLen];omega)
         have cX:=FT (P:=P) (w:=w) (I:=I) (n:=es.length) (c:=Ca.toList) rfl (fun i j y t' a b c=>by
          obtain ⟨v,hv,hp⟩:=mK i j y t' a b c
          exact ⟨v,by simpa using hv,hp⟩) cM.el lZ (Builtin.zeroCells z.cells (grownCap w (es.length+xs.length) cap e-(es.length+xs.length))).toList
         obtain ⟨n1,n2,n3⟩:=xQ k2.drew (nb:=nb) (cap:=grownCap w (es.length+xs.length) cap e) (es:=es++xs)
          (C0:=(Ca.toList.take (es.length*P.cellsOf e)).toArray++news.toArray++Builtin.zeroCells z.cells (grownCap w (es.length+xs.length) cap e-(es.length+xs.length))) ay kE
          (by
           have e1:(Ca.toList.take (es.length*P.cellsOf e)).length=es.length*P.cellsOf e:=by simp;omega
           simp only[EJ,qP,size_zeroCells,h4,cM.len,e1,←dy];congr 1;omega) (by simpa using pW) u0
          (fun i j y t' a b c=>by
           obtain ⟨v,hv,hp⟩:=cX i j y t' a b c
           refine ⟨v,?_,Pure.drew hp⟩
           rw[←sG]
           simpa using hv)
         rw[cM.val]
         rw[cz] at n3
         exact ⟨_,_,_,_,c8,(k1.trans (Le.drew w I β _)).trans n1,n2,n3⟩
 | _=>cases h
end
section
variable {P:Program} {w w':World} {I I':Nat→Prop} {β β':Nat→Option Nat} {hp hp':Nat→Option an} {C:ae} {B:Nat} {M:Nat→Prop} {w0:Start}
theorem run_copy_none (w:World) {dT sT ty elem:TypeId} {i:TypeInfo} (a0:Option Addr) (QD abe:Nat) (a1:Option Addr) (QE abf:Nat) (hu:P.underlying dT=some (.slice elem)) (hi:P.info? elem=some i) (h0:Nat.min QE QD=0):
  (Builtin.copy_ #[dT,sT] ty #[.slice a0 QD abe,.slice a1 QE abf]).run P w= .ok (goInt 0) w:=by
 cases a0<;>cases a1<;>simp[Builtin.copy_,run_underlying hu,Builtin.lenOf,Builtin.firstCells,sizeOf,typeInfo,hi,h0,storeCells,loadCells,loadCellsFrom]
theorem abg (S:aI P w I β hp B M w0) {t u ty e:TypeId} {s x:Value} {sv xv:V} {r:R} {rd:List Nat} (hu:P.underlying t=some (.slice e)) (hs:ao P w I β hp s sv) (hx:ao P w I β hp x xv)
  (h:(JC P e sv xv).run C hp=some (r,rd)):da P ((Builtin.copy_ #[t,u] ty #[s,x]).run P w) w I β hp B M w0 r:=by
 unfold JC at h
 obtain ⟨ay,h'⟩:=aK h
 clear h
 simp only[aN,a8] at ay
 obtain ⟨ay,h1⟩:=ay
 obtain ⟨xs,l7,l0,h⟩:=FR S.h.rel ay hx h'
 obtain ⟨i,z,hi,hz,bd,_⟩:=kD ay
 cases sv<;>simp only at h<;>first|(cases h;done)|skip
 rename_i e' id
 obtain ⟨l,U⟩:=run_get h
 clear h
 cases ab:hp id with
 | none=>rw[ab] at U;cases U
 | some blk=>
  rw[ab] at U
  cases blk<;>simp only at U<;>first|(cases U;done)|skip
  rename_i e2 es fz
  cases fz with
  | true=>cases U
  | false=>
  obtain ⟨hc,h3⟩:=aK U
  simp only[aN,a8] at hc
  obtain ⟨rfl,rfl⟩:=hc
  obtain rfl:=aU h3
  have nP:min xs.length es.length=0→(Builtin.copy_ #[t,u] ty #[s,x]).run P w= .ok (goInt 0) w→da P ((Builtin.copy_ #[t,u] ty #[s,x]).run P w) w I β hp B M w0 ⟨.int .i64 (min xs.length es.length:Nat),[(id,.arr e (xs.take es.length++es.drop xs.length) false)]⟩:=by
   intro h0 hr
   have he:xs.take es.length++es.drop xs.length=es:=by
    rcases Nat.le_total xs.length es.length with hl|hl
    ·have:xs=[]:=lK (by omega)
     simp[this]
    ·have:es=[]:=lK (by omega)
     simp[this]
   have gr:bO hp [(id,.arr e (xs.take es.length++es.drop xs.length) false)]=hp:=by
    rw[he];exact JL hp id _ ab
   refine ⟨goInt 0,w,I,β,hr,?_⟩
   simp only[gr,h0]
   exact ⟨Le.refl w I β hp,S,.int⟩
  cases hs with
  | eo hd=>rw[ab] at hd;cases hd
  | eF hd=>rw[ab] at hd;cases hd
  | @dP _ _ fz a hd hb=>
   rw[ab] at hd
   cases hd
   refine nP (by simp) ?_
   rcases l7 with ⟨⟨a',rfl⟩,rfl⟩|⟨a',c,news,cM⟩
   ·exact run_copy_none w _ _ _ _ _ _ hu hi (by simp)
   ·rw[cM.val];exact run_copy_none w _ _ _ _ _ _ hu hi (by simp)
  | @whole _ _ aP nB b cap hd hb Bb cg hm=>
   have eP:=hd
   rw[ab] at hd
   cases hd
   rcases l7 with ⟨⟨a',rfl⟩,rfl⟩|⟨a',c,news,cM⟩
   ·exact nP (by simp) (run_copy_none w _ _ _ _ _ _ hu hi (by simp))
   have hr:=S.h.rel id _ ab
   cases hr with
   | dQ aB=>rw[aB] at hb;cases hb
   | @arr _ _ _ b' Ca _ aB hh pY hf ep mK=>
    rw[hb] at aB
    cases aB
    have lX:news.length=xs.length:=by rw[cM.len,h1,nr]
    rw[h1,nr] at pY
    have ln:(news.take es.length).length=Nat.min xs.length es.length:=by
     rw[fS,lX,Nat.min_comm]
    have FX:Nat.min xs.length es.length=min xs.length es.length:=rfl
    have c8:=run_copy_row (P:=P) w t u ty e b 0 es.length cap a' xs.length c Ca e (news.take es.length) hu (by rw[hi];simp[bd,h1]) hh ln
     (fun j v hj=>cM.cell j v (by
      have:=(bu.1 hj).1
      rw[fS] at this
      rwa [fe (by omega)] at hj)) (by rw[ln,FX];omega) (fun v hv=>cM.one ay v (List.mem_of_mem_take hv))
    rw[cM.val]
    have hq:(goInt (news.take es.length).length)= .int .i64 ((min xs.length es.length:Nat):Int):=by rw[ln];rfl
    have jA:(xs.take es.length++es.drop xs.length).length=es.length:=by simp;omega
    have oU:(Ca.toList.take 0++news.take es.length++Ca.toList.drop (0+(news.take es.length).length)).toArray.size=Ca.size:=by
     simp only[qP,cz,um,fS,ln,FX]
     simp
     omega
    obtain ⟨a1,a2⟩:=FF S (blk':= .arr e (xs.take es.length++es.drop xs.length) false) (Cb:=(Ca.toList.take 0++news.take es.length++Ca.toList.drop (0+(news.take es.length).length)).toArray) ab (by simp) ⟨rfl,jA.symm⟩ hb (ep rfl) (by simp) hh oU
     (fun hle e7=> .arr ay rfl e7 (by rw[oU,jA,h1,nr];exact pY) (fun h=>by cases h) (fun _=>ep rfl) fun i j y t' hy ht hj=>by
      rw[h1] at hj⊢
      obtain rfl:j=0:=by omega
      rw[nr,Nat.add_zero]
      have rG:=(bu.1 hy).1
      rw[jA] at rG
      by_cases cC:i<xs.length
      ·rw[iR (by rw[fS];omega),fe rG] at hy
       obtain ⟨u',k1,k2⟩:=cM.el i 0 y t' hy ht (by omega)
       rw[h1,nr,Nat.add_zero] at k1
       refine ⟨u',?_,k2.mono hle.dq hle.cm⟩
       simp only[List.take_zero,List.nil_append,np]
       rw[iR (by rw[fS];omega),fe rG]
       exact k1
      ·have e1:(xs.take es.length).length=xs.length:=by rw[fS];omega
       rw[iq (by omega),e1,il,show xs.length+(i-xs.length)=i by omega] at hy
       obtain ⟨u',k1,k2⟩:=mK i 0 y t' hy ht (by omega)
       rw[h1,nr,Nat.add_zero] at k1
       refine ⟨u',?_,k2.mono hle.dq hle.cm⟩
       simp only[List.take_zero,List.nil_append,np,gQ]
       have e2:(news.take es.length).length=xs.length:=by rw[fS];omega
       rw[iq (by omega),e2,il,show xs.length+(i-xs.length)=i by omega]
       simpa using k1)
    exact ⟨_,_,_,_,c8,a1,a2,by rw[hq];exact .int⟩
theorem abh (S:aI P w I β hp B M w0) {t ty e:TypeId} {x:Value} {xv:V} {r:R} {rd:List Nat} (hu:P.underlying t=some (.slice e)) (hx:ao P w I β hp x xv)
  (h:(JB P e xv).run C hp=some (r,rd)):da P ((Builtin.clear_ #[t] ty #[x]).run P w) w I β hp B M w0 r:=by
 unfold JB at h
 obtain ⟨cX,h'⟩:=aK h
 clear h
 have ay:cW P e=true:=by
  unfold mA at cX;simp only[aN] at cX;exact cX.1
 obtain ⟨i,z,hi,hz,bd,Bc,hzp⟩:=A9 (w:=w) (I:=I) cX
 have jQ:=(kz ay).2
 cases xv<;>simp only at h'<;>first|(cases h';done)|skip
 rename_i e' id off len
 obtain ⟨l,U⟩:=run_get h'
 clear h'
 cases ab:hp id with
 | none=>rw[ab] at U;cases U
 | some blk=>
  rw[ab] at U
  cases blk<;>simp only at U<;>first|(cases U;done)|skip
  rename_i e2 es fz
  cases fz with
  | true=>cases U
  | false=>
  obtain ⟨hc,h3⟩:=aK U
  simp only[aN,a8] at hc
  obtain ⟨rfl,rfl⟩:=hc
  obtain rfl:=aU h3
  have nP:len=0→(Builtin.clear_ #[t] ty #[x]).run P w= .ok (.tuple #[]) w→da P ((Builtin.clear_ #[t] ty #[x]).run P w) w I β hp B M w0 ⟨.bm [],[(id,.arr e (es.take off++(List.replicate len (cA P e (eN P e))++es.drop (off+len))) false)]⟩:=by
   intro h0 hr
   subst h0
   have gr:bO hp [(id,.arr e (es.take off++(List.replicate 0 (cA P e (eN P e))++es.drop (off+0))) false)]=hp:=by
    simp only[List.replicate_zero,List.nil_append,Nat.add_zero,EK]
    exact JL hp id _ ab
   refine ⟨.tuple #[],w,I,β,hr,?_⟩
   simp only[gr]
   exact ⟨Le.refl w I β hp,S,.bm rfl fun j v x hj hx=>by simp at hx⟩
  cases hx with
  | gp hd=>rw[ab] at hd;cases hd
  | @fY _ _ _ a0 hd hb=>exact nP rfl (by cases a0<;>simp[Builtin.clear_,run_underlying hu])
  | @sub _ _ _ _ aP nB b o cap hd hb ld cg ho=>
   by_cases hlen:len=0
   ·refine nP hlen ?_
    subst hlen
    simp[Builtin.clear_,run_underlying hu]
   have abi:0<len:=by omega
   have eP:=hd
   rw[ab] at hd
   cases hd
   have hr:=S.h.rel id _ ab
   cases hr with
   | dQ aB=>rw[aB] at hb;cases hb
   | @arr _ _ _ b' Ca _ aB hh pY hf ep mK=>
    rw[hb] at aB
    cases aB
    have ho:=ho abi
    subst ho
    have uY:(Builtin.zeroCells z.cells len).toList.length=len*P.cellsOf e:=by rw[Array.length_toList,size_zeroCells,Bc]
    have hmul:off*P.cellsOf e+len*P.cellsOf e≤es.length*P.cellsOf e:=by rw[←dy];exact dM _ ld
    have rD: ∀v∈(Builtin.zeroCells z.cells len).toList,v.oneCell'=true:=by
     intro v hv
     obtain ⟨k,hk⟩:=sF hv
     have iG:=(bu.1 hk).1
     rw[uY] at iG
     have hzg:(Builtin.zeroCells z.cells len)[k]? =z.cells[k %z.cells.size]? :=Qz (z:=z.cells) (n:=len*z.cells.size) (by rw[Bc];exact iG) (by rw[Bc];exact jQ)
     rw[sG,hzg] at hk
     have hm:k %z.cells.size<P.cellsOf e:=by rw[Bc];exact xb _ jQ
     have htl:k %z.cells.size<(ba P e).length:=by rw[fK ay];exact hm
     obtain ⟨v',xF,hp'⟩:=hzp (k %z.cells.size) _ (bN htl) hm
     rw[hk] at xF
     cases xF
     generalize bQ P e (cA P e (eN P e)) (k %z.cells.size)=y at hp'
     cases hp'<;>rfl
    have bG:=run_storeCells_at P b (off*P.cellsOf e) e (Builtin.zeroCells z.cells len).toList 0 Ca w hh (by rw[uY];omega) rD
    simp only[Nat.add_zero] at bG
    have c8:(Builtin.clear_ #[t] ty #[.slice (some ⟨b,off*P.cellsOf e,none⟩) len cap]).run P w= .ok (.tuple #[]) (w.setRow b (Ca.toList.take (off*P.cellsOf e)++(Builtin.zeroCells z.cells len).toList++Ca.toList.drop (off*P.cellsOf e+(Builtin.zeroCells z.cells len).toList.length)).toArray):=by
     obtain ⟨n,rfl⟩: ∃n,len=n+1:=⟨len-1,by omega⟩
     simp[Builtin.clear_,run_underlying hu,zeroValue,typeInfo,hi,hz,bG]
    have jA:(es.take off++(List.replicate len (cA P e (eN P e))++es.drop (off+len))).length=es.length:=by simp;omega
    have oU:(Ca.toList.take (off*P.cellsOf e)++(Builtin.zeroCells z.cells len).toList++Ca.toList.drop (off*P.cellsOf e+(Builtin.zeroCells z.cells len).toList.length)).toArray.size=Ca.size:=by
     simp only[qP,cz,um,fS,uY,Array.length_toList]
     omega
    obtain ⟨a1,a2⟩:=FF S (blk':= .arr e (es.take off++(List.replicate len (cA P e (eN P e))++es.drop (off+len))) false) ab (by simp) ⟨rfl,jA.symm⟩ hb (ep rfl) (by simp) hh oU
     (fun hle e7=> .arr ay rfl e7 (by rw[oU,jA];exact pY) (fun h=>by cases h) (fun _=>ep rfl) fun i' j y t' hy ht hj=>by
      have hU:=nL es (List.replicate len (cA P e (eN P e))) off i' (by simp;omega)
      rw[uo] at hU
      rw[hU] at hy
      have hC:(Ca.toList.take (off*P.cellsOf e)++(Builtin.zeroCells z.cells len).toList++Ca.toList.drop (off*P.cellsOf e+(Builtin.zeroCells z.cells len).toList.length)).toArray[i'*P.cellsOf e+j]? =
        if i'*P.cellsOf e+j<off*P.cellsOf e then Ca.toList[i'*P.cellsOf e+j]? else if i'*P.cellsOf e+j<off*P.cellsOf e+len*P.cellsOf e then (Builtin.zeroCells z.cells len).toList[i'*P.cellsOf e+j-off*P.cellsOf e]? else Ca.toList[i'*P.cellsOf e+j]? :=by
       have:=nL Ca.toList (Builtin.zeroCells z.cells len).toList (off*P.cellsOf e) (i'*P.cellsOf e+j) (by rw[uY,Array.length_toList];omega)
       rw[np,cv,this,uY]
      by_cases Kv:i'<off
      ·rw[ah Kv] at hy
       have:(i'+1)*P.cellsOf e≤off*P.cellsOf e:=dM _ Kv
       rw[dy] at this
       rw[ah (by omega)] at hC
       obtain ⟨u,k1,k2⟩:=mK i' j y t' hy ht hj
       exact ⟨u,hC.trans (by simpa using k1),k2.mono hle.dq hle.cm⟩
      ·rw[ai Kv] at hy
       have h1:off*P.cellsOf e≤i'*P.cellsOf e:=dM _ (by omega)
       rw[ai (by omega)] at hC
       by_cases g9:i'<off+len
       ·rw[ah g9] at hy
        have:(i'+1)*P.cellsOf e≤(off+len)*P.cellsOf e:=dM _ g9
        rw[dy,dy] at this
        rw[ah (by omega)] at hC
        obtain ⟨v,k1,k2⟩:=FQ (w:=w) (I:=I) cX hi hz len len (bU _) (i'-off) j y t' hy ht hj
        refine ⟨v,hC.trans ?_,k2.mono hle.dq hle.cm⟩
        rw[show i'*P.cellsOf e+j-off*P.cellsOf e=(i'-off)*P.cellsOf e+j by rw[Nat.sub_mul];omega,sG]
        unfold Builtin.zeroCells
        rw[Bc] at k1⊢
        exact k1
       ·rw[ai g9] at hy
        have:(off+len)*P.cellsOf e≤i'*P.cellsOf e:=dM _ (by omega)
        rw[dy] at this
        rw[ai (by omega)] at hC
        obtain ⟨u,k1,k2⟩:=mK i' j y t' hy ht hj
        exact ⟨u,hC.trans (by simpa using k1),k2.mono hle.dq hle.cm⟩)
    exact ⟨_,_,_,_,c8,a1,a2,.bm rfl fun j v x hj hx=>by simp at hx⟩
end
section
variable {P:Program} {w w':World} {I I':Nat→Prop} {β β':Nat→Option Nat} {hp hp':Nat→Option an} {C:ae} {B:Nat} {M:Nat→Prop} {w0:Start}
theorem abj (S:aI P w I β hp B M w0) {s:TypeId} {f:Nat} {v:Value} {x:V} {r:R} {rd:List Nat} (hv:ao P w I β hp v x)
  (h:(JF P s f x).run C hp=some (r,rd)):da P ((Instr.field s v f).run P w) w I β hp B M w0 r:=by
 unfold JF E2 at h
 split at h
 ·rename_i fs hu
  cases hf:fs[f]? with
  | none=>rw[hf] at h;cases h
  | some fd=>
   rw[hf] at h
   simp only[xl] at h
   obtain ⟨ht,h⟩:=aK h
   obtain ⟨d,u3⟩:=AY ht
   obtain ⟨i,hi⟩:=xD u3
   have bd:i.size=P.cellsOf fd.type:=by simp[Program.cellsOf,hi]
   cases x with
   | agg xs=>
    obtain ⟨cs,rfl,h1,U⟩:=hv.lh
    dsimp only at h
    cases ha:bL P fd.type with
    | true=>
     rw[ha] at h
     simp only[cond_true] at h
     obtain ⟨hc,h⟩:=aK h
     obtain rfl:=aU h
     rw[eb] at hc
     refine .same S (v:= .agg (cs.extract fd.offset (fd.offset+P.cellsOf fd.type))) ?_ (.agg (by simp;omega) fun j u y ft hy=> ?_)
     ·simp[Instr.field,run_underlying hu,hf,part,J2 u3,ha,asAgg,sizeOf,typeInfo,hi,bd]
     ·have hj:j<P.cellsOf fd.type:=by
       have:=(im.1 ft).1
       simp at this;omega
      rw[fe hj,il] at hy
      refine U (fd.offset+j) u y ?_ hy
      rw[Array.getElem?_extract] at ft
      split at ft
      ·exact ft
      ·cases ft
    | false=>
     rw[ha] at h
     simp only[cond_false] at h
     obtain ⟨y,hy,h⟩:=lT h
     obtain rfl:=aU h
     have aT:fd.offset<cs.size:=by rw[h1];exact (bu.1 hy).1
     refine .same S (v:=cs[fd.offset]) ?_ (U _ _ _ (kX aT) hy)
     simp[Instr.field,run_underlying hu,hf,part,J2 u3,ha,asAgg,aT]
   | _=>cases h
 ·cases h
theorem abk (S:aI P w I β hp B M w0) {i:Nat} {v:Value} {xs:List V} {r:R} {rd:List Nat} (hv:ao P w I β hp v (.bm xs))
  (h:(Rd.opt xs[i]? fun v=> .ret ⟨v,[]⟩).run C hp=some (r,rd)):da P ((Instr.extract v i).run P w) w I β hp B M w0 r:=by
 obtain ⟨cs,rfl,h1,U⟩:=hv.uO
 obtain ⟨y,hy,h⟩:=lT h
 obtain rfl:=aU h
 have aT:i<cs.size:=by rw[h1];exact (bu.1 hy).1
 exact .same S (v:=cs[i]) (by simp[Instr.extract,aT]) (U _ _ _ (kX aT) hy)
theorem abl (S:aI P w I β hp B M w0) {t:TypeId} {s:ByteArray} {l:List UInt8} {k:IntKind} {i:Int} {r:R} {rd:List Nat} (hu:P.underlying t=some .string) (hs:s.data.toList=l)
  (h:(Rd.opt (bif decide (0≤i) then (l[i.toNat]?).map fun b=>V.int .u8 b.toNat else none) fun v=> .ret ⟨.int .u8 v.toInt,[]⟩).run C hp=some (r,rd)):
  da P ((Instr.index t (.string s) (.int k i)).run P w) w I β hp B M w0 r:=by
 obtain ⟨v,hv,h⟩:=lT h
 obtain rfl:=aU h
 cases hc:decide (0≤i) with
 | false=>rw[hc] at hv;cases hv
 | true=>
  rw[hc] at hv
  simp only[cond_true] at hv
  have h0:0≤i:=by simpa using hc
  cases hb:l[i.toNat]? with
  | none=>rw[hb] at hv;cases hv
  | some b=>
   rw[hb] at hv
   simp only[Option.map_some,ec] at hv
   subst hv
   have hsb:s[i.toNat]? =some b:=by
    subst hs
    obtain ⟨aT,he⟩:=bu.1 hb
    have Kw:i.toNat<s.size:=by simpa using aT
    rw[getElem?_pos s i.toNat Kw]
    congr 1
   refine .same S (v:= .int .u8 b.toNat) ?_ .int
   simp[Instr.index,asIntOf,run_underlying hu,h0,hsb]
theorem Kx (S:aI P w I β hp B M w0) (mx:Bool): ∀{vs:List Value} {xs:List V} {v:Value} {x:V} {r:R} {rd:List Nat},ao P w I β hp v x→vs.length=xs.length→
  (∀(j:Nat) u y,vs[j]? =some u→xs[j]? =some y→ao P w I β hp u y)→(xm mx x xs).run C hp=some (r,rd)→
  da P ((vs.foldlM (if mx then Builtin.max2 else Builtin.min2) v).run P w) w I β hp B M w0 r
 | [],[],v,x,r,rd,hv,_,_,h=>by
  have:r=⟨x,[]⟩:=by
   cases x<;>(simp only[xm] at h;exact (aU h).symm)
  subst this
  exact .same S (by simp) hv
 | [],_::_,v,x,r,rd,hv,hl,_,h=>by simp at hl
 | _::_,[],v,x,r,rd,hv,hl,_,h=>by simp at hl
 | u::vs,y::xs,v,x,r,rd,hv,hl,hx,h=>by
  cases x<;>cases y<;>simp only[xm] at h<;>first|(cases h;done)|skip
  rename_i k a k' b
  obtain ⟨hc,h4⟩:=aK h
  clear h
  obtain rfl:k=k':=by simpa using hc
  have hu:=hx 0 u _ rfl rfl
  rw[hv.et,hu.et]
  have ih:=Kx S mx (vs:=vs) (xs:=xs) (v:= .int k (bif mx then (if b>a then b else a) else (if b<a then b else a))) .int (by simpa using hl)
   (fun j u y h1 U=>hx (j+1) u y (by simpa using h1) (by simpa using U)) h4
  cases mx with
  | true=>simpa[List.foldlM_cons,Builtin.max2] using ih
  | false=>simpa[List.foldlM_cons,Builtin.min2] using ih
theorem rH {n cap:Nat} {isS:Bool} {lo hi:Option V} {lov hiv:Option Value} {k:Nat→Nat→Rd R} {r:R} {rd:List Nat} (hn:n≤cap)
  (jf: ∀x,lo=some x→∃v,lov=some v∧ao P w I β hp v x) (hX: ∀x,hi=some x→∃v,hiv=some v∧ao P w I β hp v x) (nQ:lo=none→lov=none) (oW:hi=none→hiv=none)
  (h:(sP n lo hi k).run C hp=some (r,rd)): ∃l u,l≤u∧u≤n∧(Instr.sliceBounds isS n cap lov hiv none).run P w= .ok (l,u,cap) w∧(k l u).run C hp=some (r,rd):=by
 have ok: ∀(kk:IntKind) (i:Int) (y:Nat) (c:BoundsCode),0≤i→i≤y→(Instr.sliceBound (.int kk i) y c).run P w= .ok i.toNat w:=by
  intro kk i y c h1 U
  simp[Instr.sliceBound,asIntOf,h1,U]
 unfold sP at h
 cases lo with
 | none=>
  rw[nQ rfl]
  cases hi with
  | none=>
   rw[oW rfl]
   exact ⟨0,n,kV _,bU _,by simp[Instr.sliceBounds],h⟩
  | some x=>
   obtain ⟨v,rfl,hv⟩:=hX x rfl
   cases x<;>simp only at h<;>first|(cases h;done)|skip
   rename_i kk u
   obtain ⟨hc,h⟩:=aK h
   simp only[aN,dW] at hc
   rw[hv.et]
   have:=ok kk u cap (if isS then .sliceAcap else .sliceAlen) hc.1 (by omega)
   exact ⟨0,u.toNat,kV _,by omega,by simp[Instr.sliceBounds,this],h⟩
 | some x=>
  obtain ⟨v,rfl,hv⟩:=jf x rfl
  cases hi with
  | none=>
   rw[oW rfl]
   cases x<;>simp only at h<;>first|(cases h;done)|skip
   rename_i kk l
   obtain ⟨hc,h⟩:=aK h
   simp only[aN,dW] at hc
   rw[hv.et]
   have:=ok kk l n .sliceB hc.1 (by omega)
   exact ⟨l.toNat,n,by omega,bU _,by simp[Instr.sliceBounds,this],h⟩
  | some y=>
   obtain ⟨v2,rfl,rm⟩:=hX y rfl
   cases x<;>cases y<;>simp only at h<;>first|(cases h;done)|skip
   rename_i kk l kk2 u
   obtain ⟨hc,h⟩:=aK h
   simp only[aN,dW] at hc
   rw[hv.et,rm.et]
   have h1:=ok kk2 u cap (if isS then .sliceAcap else .sliceAlen) (by omega) (by omega)
   have U:=ok kk l u.toNat .sliceB hc.1 (by omega)
   exact ⟨l.toNat,u.toNat,by omega,by omega,by simp[Instr.sliceBounds,h1,U],h⟩
theorem FY {a:Option Addr} {t e:TypeId} {i:TypeInfo} (hu:P.underlying t=some (.slice e)) (hi:P.info? e=some i) {lov hiv:Option Value}
  (hb:(Instr.sliceBounds true 0 0 lov hiv none).run P w= .ok (0,0,0) w):(Instr.sliceAt t (.slice a 0 0) lov hiv none).run P w= .ok (.slice a 0 0) w:=by
 cases a<;>simp[Instr.sliceAt,Instr.slice,run_underlying hu,hb,sizeOf,typeInfo,hi]
theorem Ky {t e:TypeId} {i:TypeInfo} {b o len cap l u:Nat} (hu:P.underlying t=some (.slice e)) (hi:P.info? e=some i) {lov hiv:Option Value} (huc:u≤cap)
  (hb:(Instr.sliceBounds true len cap lov hiv none).run P w= .ok (l,u,cap) w): ∃o',(0<u-l→o'=o+l*i.size)∧(Instr.sliceAt t (.slice (some ⟨b,o,none⟩) len cap) lov hiv none).run P w= .ok (.slice (some ⟨b,o',none⟩) (u-l) (cap-l)) w:=by
 by_cases hc:cap=l
 ·subst hc
  refine ⟨o,fun h=>by omega,?_⟩
  ·simp[Instr.sliceAt,Instr.slice,run_underlying hu,hb,sizeOf,typeInfo,hi]
 ·refine ⟨o+l*i.size,fun _=>rfl,?_⟩
  simp[Instr.sliceAt,Instr.slice,run_underlying hu,hb,sizeOf,typeInfo,hi,hc,nK]
theorem abm (s:ByteArray) (l:List UInt8) (h:s.data.toList=l) (a b:Nat):(s.extract a b).data.toList=(l.drop a).take (b-a):=by
 subst h
 simp[ByteArray.data_extract]
theorem abn (S:aI P w I β hp B M w0) {t:TypeId} {v:Value} {x:V} {lo hi:Option V} {lov hiv:Option Value} {r:R} {rd:List Nat} (hv:ao P w I β hp v x)
  (jf: ∀x,lo=some x→∃v,lov=some v∧ao P w I β hp v x) (hX: ∀x,hi=some x→∃v,hiv=some v∧ao P w I β hp v x) (nQ:lo=none→lov=none) (oW:hi=none→hiv=none)
  (h:(E8 P t x lo hi).run C hp=some (r,rd)):da P ((Instr.sliceAt t v lov hiv none).run P w) w I β hp B M w0 r:=by
 unfold E8 at h
 cases hu:P.underlying t with
 | none=>rw[hu] at h;cases h
 | some d=>
  rw[hu] at h
  cases d<;>simp only at h<;>first|(cases h;done)|skip
  case string=>
   cases x<;>simp only at h<;>first|(cases h;done)|skip
   rename_i l
   obtain ⟨s,rfl,hs⟩:=hv.mG
   have bd:l.length=s.size:=by rw[←hs];simp
   obtain ⟨a,u,h1,U,h3,h4⟩:=rH (isS:=false) (cap:=s.size) (by omega) jf hX nQ oW h
   obtain rfl:=aU h4
   rw[bd] at h3
   refine .same S (v:= .string (s.extract a u)) ?_ (.str (abm s l hs a u))
   simp[Instr.sliceAt,Instr.slice,run_underlying hu,h3]
  case slice e=>
   cases x<;>simp only at h<;>first|(cases h;done)|skip
   case list e' es=>
    obtain ⟨hc,h⟩:=aK h
    simp only[aN,a8] at hc
    obtain ⟨dR,ay⟩:=hc
    obtain ⟨i,z,ee,_,bd,_⟩:=kD ay
    cases hv with
    | list hp'=>
     cases hp' with
     | nil=>
      obtain ⟨a,u,h1,U,h3,h4⟩:=rH (n:=0) (isS:=true) (cap:=0) (bU _) jf hX nQ oW h
      obtain rfl:=aU h4
      obtain rfl:u=0:=by omega
      obtain rfl:a=0:=by omega
      exact .same S (FY hu ee h3) (by simpa using ao.list iX.nil)
     | @emp ad cap=>
      obtain ⟨a,u,h1,U,h3,h4⟩:=rH (n:=0) (isS:=true) (cap:=cap) (kV _) jf hX nQ oW h
      obtain rfl:=aU h4
      obtain rfl:u=0:=by omega
      obtain rfl:a=0:=by omega
      refine .same S (v:= .slice (some ad) 0 cap) ?_ (by simpa using ao.list iX.emp)
      by_cases hc:cap=0
      ·subst hc
       simp[Instr.sliceAt,Instr.slice,run_underlying hu,h3,sizeOf,typeInfo,ee]
      ·simp[Instr.sliceAt,Instr.slice,run_underlying hu,h3,sizeOf,typeInfo,ee,hc,Addr.add]
     | @list b o len cap _ g hl cg hI gq hx=>
      obtain ⟨a,u,h1,U,h3,h4⟩:=rH (isS:=true) (cap:=cap) (by omega) jf hX nQ oW h
      obtain rfl:=aU h4
      rw[hl] at U h3
      obtain ⟨o',jz,c8⟩:=Ky (b:=b) (o:=o) hu ee (by omega) h3
      have gH:e=e':=dR
      refine .same S c8 (.list ?_)
      rw[←gH]
      rw[←gH] at gq hx hI
      have hlen:((es.drop a).take (u-a)).length=u-a:=by simp;omega
      refine .list (fun i j=>g (a+i) j) hlen (by omega) (fun h=>hI (oE h (dM _ (by omega)))) (fun i j hi hj=> ?_) (fun i j y t' hy ht=> ?_)
      ·have:=gq (a+i) j (by omega) hj
       rw[dy,oH,←oH o] at this
       rw[jz (by omega),bd]
       exact this
      ·have hi:i<u-a:=by rw[←hlen];exact (bu.1 hy).1
       rw[fe hi,il] at hy
       exact hx (a+i) j y t' hy ht
   case whole e' id=>
    obtain ⟨l,h⟩:=run_get h
    cases ab:hp id with
    | none=>rw[ab] at h;cases h
    | some blk=>
     rw[ab] at h
     cases blk<;>simp only at h<;>first|(cases h;done)|skip
     rename_i dN es fz
     obtain ⟨hc,h9⟩:=aK h
     clear h
     simp only[aN,a8] at hc
     obtain ⟨dR,iY,ay⟩:=hc
     obtain ⟨i,z,ee,_,bd,_⟩:=kD ay
     cases hv with
     | eo hd=>rw[ab] at hd;cases hd
     | eF hd=>rw[ab] at hd;cases hd
     | dP hd hb=>
      rw[ab] at hd
      cases hd
      obtain ⟨a,u,h1,U,h3,h4⟩:=rH (n:=0) (isS:=true) (cap:=0) (bU _) jf hX nQ oW h9
      obtain rfl:=aU h4
      obtain rfl:u=0:=by omega
      obtain rfl:a=0:=by omega
      exact .same S (FY hu ee h3) (.fY ab hb)
     | @whole _ _ aP nB b cap hd hb Bb cg hm=>
      have eP:=hd
      rw[ab] at hd
      cases hd
      obtain ⟨a,u,h1,U,h3,h4⟩:=rH (isS:=true) (cap:=cap) cg jf hX nQ oW h9
      obtain rfl:=aU h4
      obtain ⟨o',jz,c8⟩:=Ky (b:=b) (o:=0) hu ee (by omega) h3
      have gH:e=e':=dR
      exact .same S c8 (.sub eP hb (by omega) (by omega) (fun h=>by rw[jz h,bd,gH,gQ]))
   case sub e' id off len=>
    obtain ⟨l,h⟩:=run_get h
    cases ab:hp id with
    | none=>rw[ab] at h;cases h
    | some blk=>
     rw[ab] at h
     cases blk<;>simp only at h<;>first|(cases h;done)|skip
     rename_i dN es fz
     obtain ⟨hc,h⟩:=aK h
     simp only[aN,a8] at hc
     obtain ⟨dR,iY,ay⟩:=hc
     obtain ⟨i,z,ee,_,bd,_⟩:=kD ay
     cases hv with
     | gp hd=>rw[ab] at hd;cases hd
     | fY hd hb=>
      have eP:=hd
      obtain ⟨a,u,h1,U,h3,h4⟩:=rH (isS:=true) (cap:=0) (bU _) jf hX nQ oW h
      obtain rfl:=aU h4
      obtain rfl:u=0:=by omega
      obtain rfl:a=0:=by omega
      exact .same S (FY hu ee h3) (.fY eP hb)
     | @sub _ _ _ _ aP nB b o cap hd hb ld cg ho=>
      have eP:=hd
      obtain ⟨a,u,h1,U,h3,h4⟩:=rH (isS:=true) (cap:=cap) cg jf hX nQ oW h
      obtain rfl:=aU h4
      obtain ⟨o',jz,c8⟩:=Ky (b:=b) (o:=o) hu ee (by omega) h3
      have gH:e=e':=dR
      exact .same S c8 (.sub eP hb (by omega) (by omega) (fun h=>by rw[jz h,bd,ho (by omega),gH,dy]))
theorem abo (S:aI P w I β hp B M w0) {t:TypeId} {v:Value} {x:V} {lo hi mx:Option V} {lov hiv QF:Option Value} {r:R} {rd:List Nat} (hv:ao P w I β hp v x)
  (jf:lo=none→lov=none) (hX: ∀y,hi=some y→∃u,hiv=some u∧ao P w I β hp u y) (nJ: ∀y,mx=some y→∃u,QF=some u∧ao P w I β hp u y)
  (h:(JD P t x lo hi mx).run C hp=some (r,rd)):da P ((Instr.sliceAt t v lov hiv QF).run P w) w I β hp B M w0 r:=by
 unfold JD at h
 cases hu:P.underlying t with
 | none=>rw[hu] at h;cases h
 | some d=>
  rw[hu] at h
  cases d<;>(try (cases h;done))
  rename_i e
  cases lo<;>(try (cases h;done))
  cases hi<;>(try (cases h;done))
  rename_i xR
  cases xR<;>(try (cases h;done))
  cases mx<;>(try (cases h;done))
  rename_i mv1
  cases mv1<;>(try (cases h;done))
  obtain ⟨hc,h9⟩:=aK h
  clear h
  have h:=h9
  clear h9
  simp only[aN,dW] at hc
  obtain ⟨rfl,rfl,ay⟩:=hc
  obtain ⟨i,z,ee,_,_,_⟩:=kD ay
  obtain ⟨u1,rfl,k1⟩:=hX _ rfl
  obtain ⟨u2,rfl,k2⟩:=nJ _ rfl
  rw[k1.et,k2.et,jf rfl]
  have run: ∀{k k2:IntKind} (a:Option Addr) (len cap:Nat),(Instr.sliceAt t (.slice a len cap) none (some (.int k 0)) (some (.int k2 0))).run P w= .ok (.slice a 0 0) w:=by
   intro k k2 a len cap
   cases a<;>simp[Instr.sliceAt,Instr.slice,Instr.sliceBounds,Instr.sliceBound,asIntOf,run_underlying hu,sizeOf,typeInfo,ee]
  cases x<;>(try (cases h;done))
  ·simp only at h
   obtain rfl:=aU h
   cases hv with
   | list hp'=>cases hp'<;>exact .same S (run _ _ _) .nilS
  ·simp only at h
   obtain rfl:=aU h
   cases hv
   exact .same S (run _ _ _) .nilS
  ·rename_i e' id
   simp only at h
   obtain ⟨l,h⟩:=run_get h
   cases ab:hp id with
   | none=>rw[ab] at h;cases h
   | some blk=>
    rw[ab] at h
    cases blk<;>simp only at h<;>first|(cases h;done)|skip
    all_goals
     obtain rfl:=aU h
     cases hv with
     | eo hd=>rw[ab] at hd;cases hd
     | eF hd=>exact .same S (run _ _ _) .nilS
     | dP hd hb=>exact .same S (run _ _ _) .nilS
     | whole hd=>exact .same S (run _ _ _) .nilS
theorem abp (S:aI P w I β hp B M w0) {t:TypeId} {v ix:Value} {x y:V} {r:R} {rd:List Nat} (hv:ao P w I β hp v x) (hy:ao P w I β hp ix y)
  (h:(JG P t x y).run C hp=some (r,rd)):da P ((Instr.indexAt t v ix).run P w) w I β hp B M w0 r:=by
 unfold JG at h
 cases hu:P.underlying t with
 | none=>rw[hu] at h;cases h
 | some d=>
  rw[hu] at h
  cases y<;>(try (cases d<;>cases h;done))
  rename_i k i
  rw[hy.et]
  cases d<;>simp only at h<;>first|(cases h;done)|skip
  case slice e=>
   have run: ∀(b o len cap:Nat) (ie:TypeInfo),P.info? e=some ie→0≤i→i<(len:Int)→(Instr.indexAt t (.slice (some ⟨b,o,none⟩) len cap) (.int k i)).run P w= .ok (.pointer (some ⟨b,o+i.toNat*ie.size,none⟩)) w:=by
    intro b o len cap ie jT h0 h1
    simp[Instr.indexAt,asIntOf,run_underlying hu,h0,h1,sizeOf,typeInfo,jT,nK]
   cases x<;>simp only at h<;>first|(cases h;done)|skip
   case list e' es=>
    obtain ⟨hc,h⟩:=aK h
    simp only[aN,a8] at hc
    obtain ⟨dR,ay⟩:=hc
    have gH:e=e':=dR
    obtain ⟨ie,z,ee,_,bd,_⟩:=kD ay
    obtain ⟨el,cX,h⟩:=lT h
    obtain rfl:=aU h
    unfold idx at cX
    cases h0:decide (0≤i) with
    | false=>rw[h0] at cX;cases cX
    | true=>
     rw[h0] at cX
     simp only[cond_true] at cX
     have xS:0≤i:=by simpa using h0
     have aT:i.toNat<es.length:=(bu.1 cX).1
     cases hv with
     | list hp'=>
      cases hp' with
      | nil=>simp at aT
      | emp=>simp at aT
      | @list b o len cap _ g hl cg hI gq hx=>
       rw[←gH] at gq hx hI
       refine .same S (run b o len cap ie ee xS (by omega)) ?_
       have cb:=xE (P:=P) e el
       have Kz:=fK ay
       have QG:(bif bL P e then flat P e else [e])=ba P e:=rfl
       rw[QG]
       refine .pref (by rw[cb]) (fun _=>hI ?_) (fun j t' y' ht AV=> ?_)
       ·have:=w7 (show 0<len by omega) (kz ay).2
        exact this
       ·obtain ⟨t2,a1,a2⟩:=J3 AV
        rw[ht] at a1;cases a1
        have hj:j<P.cellsOf e:=by rw[←Kz];exact (bu.1 ht).1
        have gW:=hx i.toNat j el t' cX ht
        refine ⟨g i.toNat j,?_,?_⟩
        ·rw[bd,oH];exact gq i.toNat j (by omega) hj
        ·rw[a2,gW.s5];exact gW
   case whole e' id=>
    obtain ⟨l,h⟩:=run_get h
    cases ab:hp id with
    | none=>rw[ab] at h;cases h
    | some blk=>
     rw[ab] at h
     cases blk<;>simp only at h<;>first|(cases h;done)|skip
     rename_i dN es fz
     obtain ⟨hc,h⟩:=aK h
     simp only[aN,a8] at hc
     obtain ⟨dR,iY⟩:=hc
     obtain ⟨eQ,h⟩:=aK h
     simp only[aN,dW] at eQ
     obtain rfl:=aU h
     cases hv with
     | eo hd=>rw[ab] at hd;cases hd
     | eF hd=>rw[ab] at hd;cases hd
     | dP hd hb=>rw[ab] at hd;cases hd;simp at eQ;omega
     | @whole _ _ aP nB b cap hd hb Bb cg hm=>
      have eP:=hd
      rw[ab] at hd
      cases hd
      have hr:=S.h.rel id _ ab
      cases hr with
      | dQ aB=>rw[aB] at hb;cases hb
      | arr ay aB hh hs hf ep hx=>
       have gH:e=e':=dR
       obtain ⟨ie,z,ee,_,bd,_⟩:=kD ay
       rw[←gH] at ee bd
       refine .same S (run b 0 _ cap ie ee eQ.1 eQ.2) ?_
       have:=ao.ptr (P:=P) (w:=w) (I:=I) (i:=i.toNat) (c:=0) eP (by simp) hb
       simp only[an.sz] at this
       rw[gQ,bd,gH]
       simpa using this
     rename_i dN es aq
     obtain ⟨hc,h⟩:=aK h
     simp only[aN,a8] at hc
     obtain ⟨dR,iY⟩:=hc
     obtain ⟨eQ,h⟩:=aK h
     simp only[aN,dW] at eQ
     obtain rfl:=aU h
     cases hv with
     | eo hd=>rw[ab] at hd;cases hd
     | dP hd hb=>rw[ab] at hd;cases hd
     | whole hd=>rw[ab] at hd;cases hd
     | @eF _ _ aP vers' b cap hd hb Bb cg hm=>
      have eP:=hd
      rw[ab] at hd
      cases hd
      have ay:=(S.rows eP hb .here).ok
      have gH:e=e':=dR
      obtain ⟨ie,z,ee,_,bd,_⟩:=kD ay
      rw[←gH] at ee bd
      refine .same S (run b 0 _ cap ie ee eQ.1 eQ.2) ?_
      have:=ao.ptr (P:=P) (w:=w) (I:=I) (i:=i.toNat) (c:=0) eP (by simp) hb
      simp only[an.sz] at this
      rw[gQ,bd,gH]
      simpa using this
   case row e' id ver path=>
    obtain ⟨e0,es,aq,l,ab,h1,U,h3,h⟩:=oQ h
    obtain ⟨e2,v',k1,k2,h⟩:=xz h
    obtain ⟨hc,h⟩:=aK h
    simp only[aN,a8] at hc
    obtain ⟨dR,iY⟩:=hc
    obtain ⟨eQ,h⟩:=aK h
    simp only[aN,dW] at eQ
    obtain rfl:=aU h
    cases hv with
    | jN hd hp'=>rw[ab] at hd;cases hd;exact absurd hp' (xA h1 U h3)
    | @row v _ e0 t1 _ ver b i1 c1 q es l1 aq hd hb hq Kh ht gq=>
     have abq:=gq
     obtain ⟨b',e3,aP,Ca,T,f,x,m1,m2,m3,m4,m5,m6⟩:=gq
     have jb:=hd
     rw[ab] at jb
     cases jb
     obtain ⟨n1,n2⟩:=Fq m1 m3 m4 ht m5
     rw[n2] at k2
     cases k2
     simp only[V.toList] at eQ
     have hR:=S.rows hd hb m1
     obtain ⟨C1,c2,c3,c4⟩:=hR.cells
     rw[m2] at c2
     cases c2
     have hj:c1<P.cellsOf e3:=by
      rw[←fK hR.ok];exact (bu.1 m4).1
     obtain ⟨v2,d1,d2⟩:=c4 _ _ _ _ m3 m4 hj
     rw[m6] at d1
     cases d1
     rw[m5] at d2
     cases d2 with
     | fX a _=>unfold fU at a;rw[ht] at a;cases a
     | emp _ _=>simp at eQ;omega
     | @row _ _ b1 cap _ hl _ _ _=>
      have ay:=(S.rows hd hb (m1.snoc m2 m3 m4 ht m5 hl m6)).ok
      have gH:e=e':=dR
      obtain ⟨ie,z,ee,_,bd,_⟩:=kD ay
      rw[←gH] at ee bd
      refine .same S (run b1 0 _ cap ie ee eQ.1 eQ.2) ?_
      have:=ao.cK (P:=P) (I:=I) (i:=i.toNat) (c:=0) hd hb hq Kh ht hl abq
      rw[gQ,bd,gH]
      simpa using this
   case sub e' id off len=>
    obtain ⟨l,h⟩:=run_get h
    cases ab:hp id with
    | none=>rw[ab] at h;cases h
    | some blk=>
     rw[ab] at h
     cases blk<;>simp only at h<;>first|(cases h;done)|skip
     rename_i dN es fz
     obtain ⟨hc,h⟩:=aK h
     simp only[aN,a8] at hc
     obtain ⟨dR,iY⟩:=hc
     obtain ⟨eQ,h⟩:=aK h
     simp only[aN,dW] at eQ
     obtain rfl:=aU h
     cases hv with
     | gp hd=>rw[ab] at hd;cases hd
     | fY hd hb=>simp at eQ;omega
     | @sub _ _ _ _ aP nB b o cap hd hb ld cg ho=>
      have eP:=hd
      rw[ab] at hd
      cases hd
      have hr:=S.h.rel id _ ab
      cases hr with
      | dQ aB=>rw[aB] at hb;cases hb
      | arr ay aB hh hs hf ep hx=>
       have gH:e=e':=dR
       obtain ⟨ie,z,ee,_,bd,_⟩:=kD ay
       rw[←gH] at ee bd
       refine .same S (run b o _ cap ie ee eQ.1 eQ.2) ?_
       have:=ao.ptr (P:=P) (w:=w) (I:=I) (i:=off+i.toNat) (c:=0) eP (by simp) hb
       simp only[an.sz] at this
       rw[ho (by omega),bd,gH,←dy]
       simpa using this
  case array n e=>
   have run: ∀(b o:Nat) (ie:TypeInfo),P.info? e=some ie→0≤i→i<(n:Int)→(Instr.indexAt t (.pointer (some ⟨b,o,none⟩)) (.int k i)).run P w= .ok (.pointer (some ⟨b,o+i.toNat*ie.size,none⟩)) w:=by
    intro b o ie jT h0 h1
    simp[Instr.indexAt,asIntOf,run_underlying hu,h0,h1,sizeOf,typeInfo,jT,nK,Instr.sureAddr]
   cases x<;>simp only at h<;>first|(cases h;done)|skip
   case ptr id j c=>
    obtain ⟨⟨blk,ab,hd⟩,l,h⟩:=xC h
    obtain ⟨eQ,h⟩:=aK h
    simp only[aN,dW] at eQ
    obtain rfl:=aU h
    obtain ⟨b,hb,rfl⟩:=hv.gY ab hd
    obtain ⟨d,u3⟩:=AY eQ.1
    obtain ⟨ie,jT⟩:=xD u3
    have bd:ie.size=P.cellsOf e:=by simp[Program.cellsOf,jT]
    refine .same S (run b _ ie jT eQ.2.1 eQ.2.2) ?_
    rw[bd,oH]
    exact .ptr ab hd hb
   case pref ts cs=>
    obtain ⟨eQ,h⟩:=aK h
    simp only[aN,dW] at eQ
    obtain rfl:=aU h
    obtain ⟨b,o,rfl,h1,U,h3⟩:=hv.Fz
    obtain ⟨d,u3⟩:=AY eQ.1
    obtain ⟨ie,jT⟩:=xD u3
    have bd:ie.size=P.cellsOf e:=by simp[Program.cellsOf,jT]
    refine .same S (run b _ ie jT eQ.2.1 eQ.2.2) ?_
    rw[bd]
    exact ao.P2 h1 U h3
end
end Go.AM
namespace Go.AM
open Go.Maps
section
variable {P:Program} {w w':World} {I I':Nat→Prop} {β β':Nat→Option Nat} {hp hp':Nat→Option an} {C:ae} {B:Nat} {M:Nat→Prop} {w0:Start}
theorem abr (S:aI P w I β hp B M w0) {nb:Nat} {t:TypeId} {v:Value} {x:V} {lo hi:Option V} {lov hiv:Option Value} {r:R} {rd:List Nat} (hv:ao P w I β hp v x)
  (hX: ∀x,hi=some x→∃v,hiv=some v∧ao P w I β hp v x) (nQ:lo=none→lov=none)
  (h:(E9 P nb t x lo hi).run C hp=some (r,rd)):da P ((Instr.sliceAt t v lov hiv none).run P w) w I β hp B M w0 r:=by
 unfold E9 at h
 split at h
 case h_2=>cases h
 rename_i e e' id k hh hu
 obtain ⟨l,h1⟩:=run_get h
 cases ab:hp id with
 | none=>rw[ab] at h1;cases h1
 | some blk=>
  rw[ab] at h1
  cases blk<;>simp only at h1<;>first|(cases h1;done)|skip
  rename_i e2 es fz
  cases fz with
  | true=>cases h1
  | false=>
  obtain ⟨hc,U⟩:=aK h1
  simp only[aN,a8,dW] at hc
  obtain ⟨rfl,rfl,ay,QH,QI⟩:=hc
  obtain ⟨hn,rfl⟩:=nO U
  have jf:=nQ rfl
  subst jf
  obtain ⟨KA,rfl,hhv⟩:=hX _ rfl
  obtain rfl:=hhv.et
  obtain ⟨i,z,ee,_,bd,_⟩:=kD ay
  have bD:nb≠id:=fun e=>by rw[e,ab] at hn;cases hn
  obtain ⟨k1,k2⟩:=Fv S ab
  have kE:aM hp id (some an.dead) nb=none:=by rw[er _ _ bD];exact hn
  have QJ: ∀cap,es.length≤cap→(Instr.sliceBounds true es.length cap none (some (.int k hh)) none).run P w= .ok (0,hh.toNat,cap) w:=by
   intro cap cg
   have hb:(sP es.length none (some (.int k hh)) fun l u=> .aE (decide (l=0∧u=hh.toNat)) (.ret (⟨.undef,[]⟩:R))).run C hp=some (⟨.undef,[]⟩,[]):=by
    simp[sP,Rd.run,QH,QI]
   obtain ⟨l,u,b1,b2,b3,b4⟩:=rH (P:=P) (w:=w) (I:=I) (β:=β) (hp:=hp) (n:=es.length) (isS:=true) (cap:=cap) (lov:=none) (hiv:=some (.int k hh)) cg (by simp) (fun x hx=>by cases hx;exact ⟨_,rfl,.int⟩) (fun _=>rfl) (by simp) hb
   obtain ⟨b5,_⟩:=aK b4
   simp only[dW] at b5
   obtain ⟨rfl,rfl⟩:=b5
   exact b3
  cases hv with
  | eo hd=>rw[ab] at hd;cases hd
  | eF hd=>rw[ab] at hd;cases hd
  | @dP _ _ _ a0 hd hb=>
   rw[ab] at hd
   cases hd
   have J9:hh=0:=by simpa using Int.le_antisymm QI QH
   subst J9
   have aB:=QJ 0 (bU _)
   obtain ⟨a1,a2⟩:=Fu k2 e kE
   refine ⟨_,w,I,_,FY hu ee aB,k1.trans a1,a2,.dP (c7 _ _ _) (c7 _ _ _)⟩
  | @whole _ _ aP nB b cap hd hb Bb cg hm=>
   have eP:=hd
   rw[ab] at hd
   cases hd
   have hr:=S.h.rel id _ ab
   cases hr with
   | dQ aB=>rw[aB] at hb;cases hb
   | @arr _ _ _ b' Ca _ aB FZ pY hf ep mK=>
    rw[hb] at aB
    cases aB
    have jA:(es.take hh.toNat).length=hh.toNat:=by rw[fS];omega
    have c8:(Instr.sliceAt t (.slice (some ⟨b,0,none⟩) es.length cap) none (some (.int k hh)) none).run P w= .ok (.slice (some ⟨b,0,none⟩) hh.toNat cap) w:=by
     have aB:=QJ cap cg
     by_cases F0:cap=0
     ·subst F0
      simp[Instr.sliceAt,Instr.slice,run_underlying hu,aB,sizeOf,typeInfo,ee]
     ·simp[Instr.sliceAt,Instr.slice,run_underlying hu,aB,sizeOf,typeInfo,ee,F0,nK]
    have rq: ∀aG blk',aM hp id (some an.dead) aG=some blk'→¬bC P w (β aG) blk' b:=by
     intro aG blk' h1 U
     by_cases je:aG=id
     ·subst je;rw[c7] at h1;cases h1;exact U.alive rfl
     ·rw[er _ _ je] at h1
      exact je (S.h.inj aG id blk' _ b h1 ab U (.root (by simp) hb))
    obtain ⟨a1,a2⟩:=AU k2 (blk:= .arr e (es.take hh.toNat) false) (w':=w) kE rq (ep rfl) (fun _ _ _=>rfl) (bU _) ⟨rfl,rfl⟩ (S.h.sX id _ b ab (by simp) hb)
     (fun b' h=>(cT (h.flat (by simp))).symm) (fun hle=> .arr ay rfl FZ (by rw[jA];exact kW (dM _ (by omega)) pY) (fun h=>by cases h) (fun _=>ep rfl) fun i j y t' hy ht hj=>by
      have rG:=(bu.1 hy).1
      rw[jA] at rG
      rw[fe rG] at hy
      obtain ⟨v,hv,hp⟩:=mK i j y t' hy ht hj
      exact ⟨v,hv,hp.mono hle.dq hle.cm⟩)
    refine ⟨_,w,I,_,c8,k1.trans a1,a2,?_⟩
    have:=ao.whole (P:=P) (w:=w) (I:=I) (β:=aM β nb (some b)) (hp:=aM (aM hp id (some .dead)) nb (some (.arr e (es.take hh.toNat) false))) (cap:=cap) (c7 _ _ _) (c7 _ _ _) Bb (by rw[jA];omega) hm
    rw[jA] at this
    exact this
theorem rI {t:TypeId} {x:V} (h:pL P t x=true):
  (∃q n,P.underlying t=some (.int q)∧x= .int q n∧Jy q n=true)∨(∃b,P.underlying t=some .bool∧x= .bool b)∨(∃s,P.underlying t=some .string∧x= .str s∧s.length≤maxLen):=by
 unfold pL at h
 split at h
 ·rename_i q q' n hu
  simp only[aN,dW] at h
  obtain ⟨rfl,h⟩:=h
  exact .inl ⟨_,_,hu,rfl,h⟩
 ·rename_i b hu
  exact .inr (.inl ⟨_,hu,rfl⟩)
 ·rename_i s hu
  exact .inr (.inr ⟨_,hu,rfl,by simpa using h⟩)
 ·cases h
theorem size_data (s:ByteArray):s.data.toList.length=s.size:=by simp
theorem abt {q:IntKind} {n:Int} (h:Jy q n=true):(Lit.int q n).wf=true:=h
theorem QK {t:TypeId} {x:V} {v:Value} (h:pL P t x=true) (hv:jy v x): ∃l,mapKey P t v=some l∧∀d,P.keyLits (d+1) t [v]=some [l]:=by
 rcases rI h with ⟨q,n,hu,rfl,hn⟩|⟨b,hu,rfl⟩|⟨s,hu,rfl,hs⟩
 ·obtain rfl:v= .int q n:=hv
  have hw:=abt hn
  exact ⟨.int q n,by simp[mapKey,hu,hw],fun d=>by simp[Program.keyLits,hu,hw]⟩
 ·obtain rfl:v= .bool b:=hv
  exact ⟨.bool b,by simp[mapKey,hu],fun d=>by simp[Program.keyLits,hu]⟩
 ·obtain ⟨s',rfl,KC⟩:=hv
  have:s'.size≤maxLen:=by rw[←size_data,KC];exact hs
  exact ⟨.string s'.data.toList,by simp[mapKey,hu,this],fun d=>by simp[Program.keyLits,hu,this]⟩
theorem KD {t:TypeId}: ∀{xs:List V} {j:Nat} {x:V},qW P t xs=true→xs[j]? =some x→pL P t x=true
 | [],j,x,_,h=>by simp at h
 | y::ys,0,x,h,hx=>by
  simp only[qW,aN] at h
  simp at hx;subst hx;exact h.1
 | y::ys,j+1,x,h,hx=>by
  simp only[qW,aN] at h
  exact KD (j:=j) h.2 (by simpa using hx)
theorem mapM_some {α β:Type} {f:α→Option β}: ∀{l:List α},(∀a∈l,∃b,f a=some b)→∃bs,l.mapM f=some bs
 | [],_=>⟨[],rfl⟩
 | a::l,h=>by
  obtain ⟨b,hb⟩:=h a (sH ..)
  obtain ⟨bs,gX⟩:=mapM_some (l:=l) fun x hx=>h x (lL _ hx)
  exact ⟨b::bs,by simp[List.mapM_cons,hb,gX]⟩
inductive KE (P:Program) (t:TypeId) (x:V):Prop
 | one:pL P t x=true→x.cells=[x]→KE P t x
 | arr {n:Nat} {e:TypeId} {xs:List V}:x= .agg xs→WideMaps.ArrKey P t e n→xs.length=n→0<P.types.size→qW P e xs=true→KE P t x
theorem xT {t:TypeId} {x:V} (h:nA P t x=true):KE P t x:=by
 unfold nA at h
 split at h
 ·rename_i n e xs hu
  simp only[aN,a8] at h
  rw[jH] at h
  exact .arr rfl ⟨hu,h.2.2.2.1,h.2.1,h.2.2.1⟩ h.1 h.2.2.2.2.1 h.2.2.2.2.2
 ·refine .one h ?_
  rcases rI h with ⟨q,n,hu,rfl,hn⟩|⟨b,hu,rfl⟩|⟨s,hu,rfl,hs⟩<;>rfl
theorem rh.one {x:V} {v:Value} (h:rh v x) (hx:x.cells=[x]):jy v x:=by
 cases x<;>first|exact h|skip
 simp only[V.cells] at hx
 rename_i cs
 have:=congrArg List.length hx
 cases cs with
 | nil=>simp at hx
 | cons c cs=>
  simp only[List.cons.injEq] at hx
  have:=congrArg SizeOf.sizeOf hx.1
  simp at this
  omega
theorem F1 {t:TypeId} {x:V} {v:Value} (h:nA P t x=true) (hv:rh v x): ∃l,Go.keyOf P t v=some l:=by
 cases xT h with
 | one h1 hx=>
  obtain ⟨l,hl,_⟩:=QK h1 (hv.one hx)
  refine ⟨l,?_⟩
  rcases rI h1 with ⟨q,n,hu,_⟩|⟨b,hu,_⟩|⟨s,hu,_⟩<;>simp only[Go.keyOf,hu,hl]
 | @arr n e xs hx A hl hp0 hf=>
  subst hx
  obtain ⟨cs,rfl,hs,hc⟩:=hv
  obtain ⟨m,hm⟩: ∃m,P.types.size=m+1:=⟨P.types.size-1,by omega⟩
  have hkt:=A.keyType ⟨m,hm⟩
  have hlen:cs.toList.length=P.cellsOf t:=by rw[A.size];simp[hs,hl]
  have hfm:(Value.agg cs).formed P t=true:=by simp[Value.formed,A.hu,A.size,hs,hl]
  have hex: ∀i∈List.range n,∃y,P.keyLits (m+1) e (((Value.agg cs).cells.toList.drop (i*P.cellsOf e)).take (P.cellsOf e))=some y:=by
   intro i hi
   have hi:=Ac.1 hi
   rw[A.one]
   have gv:i<cs.size:=by omega
   have cC:i<xs.length:=by omega
   obtain ⟨l,_,U⟩:=QK (KD hf (bN cC)) (hc i cs[i] xs[i] (kX gv) (bN cC))
   have e1:((Value.agg cs).cells.toList.drop (i*1)).take 1=[cs[i]]:=by
    show (cs.toList.drop (i*1)).take 1=_
    rw[nr,List.drop_eq_getElem_cons (by simpa using gv)]
    simp
   rw[e1]
   exact ⟨_,U m⟩
  obtain ⟨bs,gX⟩:=mapM_some hex
  refine ⟨.string (keyBytes bs.flatten),?_⟩
  have abu:(Value.agg cs).cells.toList.length=P.cellsOf t:=hlen
  unfold Go.keyOf
  rw[A.hu]
  simp only[hkt,hfm,Bool.and_self,cU]
  unfold Program.keyLits
  rw[A.hu,hm]
  simp only[abu,cU,gX,Option.map_some]
theorem KF {t:TypeId} {x:V} (h:nA P t x=true):Keyed P t:=by
 cases xT h with
 | one h1 hx=>
  rcases rI h1 with ⟨q,n,hu,_⟩|⟨b,hu,_⟩|⟨s,hu,_⟩
  ·exact int_keyed hu
  ·exact bool_keyed hu
  ·exact string_keyed hu
 | arr hx A hl _ hf=>exact Keyed.of_law A.law
theorem QL {t:TypeId} {x y:V} {v u:Value} (h1:pL P t x=true) (U:pL P t y=true) (hv:jy v x) (hu:jy u y):xj x y=true↔v=u:=by
 rcases rI h1 with ⟨q,n,mL,rfl,_⟩|⟨b,mL,rfl⟩|⟨s,mL,rfl,_⟩<;>
 rcases rI U with ⟨q',n',mM,rfl,_⟩|⟨b',mM,rfl⟩|⟨s',mM,rfl,_⟩<;>
  (rw[mL] at mM;cases mM)
 ·obtain rfl:v= .int q n:=hv
  obtain rfl:u= .int q n':=hu
  simp[xj]
 ·obtain rfl:v= .bool b:=hv
  obtain rfl:u= .bool b':=hu
  simp[xj]
 ·obtain ⟨s1,rfl,e1⟩:=hv
  obtain ⟨s2,rfl,e2⟩:=hu
  simp only[xj,beq_iff_eq,Value.string.injEq,←e1,←e2]
  constructor
  ·intro h
   have:=Array.toList_inj.1 h
   cases s1;cases s2;simp_all
  ·rintro rfl;rfl
theorem QM {t:TypeId}: ∀{xs ys:List V} {vs us:List Value},qW P t xs=true→qW P t ys=true→xs.length=ys.length→vs.length=xs.length→us.length=ys.length→
  (∀(j:Nat) v x,vs[j]? =some v→xs[j]? =some x→jy v x)→(∀(j:Nat) v x,us[j]? =some v→ys[j]? =some x→jy v x)→(uy xs ys=true↔vs=us)
 | [],[],vs,us,_,_,_,h1,U,_,_=>by
  have e1:=lK (l:=vs) (by simpa using h1)
  have e2:=lK (l:=us) (by simpa using U)
  simp[uy,e1,e2]
 | [],_::_,_,_,_,_,h,_,_,_,_=>by simp at h
 | _::_,[],_,_,_,_,h,_,_,_,_=>by simp at h
 | x::xs,y::ys,[],us,_,_,_,h,_,_,_=>by simp at h
 | x::xs,y::ys,v::vs,[],_,_,_,_,h,_,_=>by simp at h
 | x::xs,y::ys,v::vs,u::us,f1,f2,h,h1,U,r1,r2=>by
  simp only[qW,aN] at f1 f2
  have a:=QL f1.1 f2.1 (r1 0 v x rfl rfl) (r2 0 u y rfl rfl)
  have b:=QM (vs:=vs) (us:=us) f1.2 f2.2 (by simpa using h) (by simpa using h1) (by simpa using U) (fun j v x hj hx=>r1 (j+1) v x (by simpa using hj) (by simpa using hx)) (fun j v x hj hx=>r2 (j+1) v x (by simpa using hj) (by simpa using hx))
  simp only[uy,aN,a,b,List.cons.injEq]
theorem KG {t:TypeId} {x y:V} {v u:Value} (h1:nA P t x=true) (U:nA P t y=true) (hv:rh v x) (hu:rh u y):mB x y=true↔v=u:=by
 unfold mB
 cases xT h1 with
 | one f1 c1=>
  cases xT U with
  | one f2 c2=>
   rw[c1,c2]
   simp only[uy,Bool.and_true]
   exact QL f1 f2 (hv.one c1) (hu.one c2)
  | arr hy A hl _ hf=>
   rcases rI f1 with ⟨q,n,mL,_⟩|⟨b,mL,_⟩|⟨s,mL,_⟩<;>(rw[A.hu] at mL;cases mL)
 | arr hx A hl _ hf=>
  cases xT U with
  | one f2 c2=>
   rcases rI f2 with ⟨q,n,mL,_⟩|⟨b,mL,_⟩|⟨s,mL,_⟩<;>(rw[A.hu] at mL;cases mL)
  | arr hy A2 kh _ KH=>
   have gH:=A.hu.symm.trans A2.hu
   cases gH
   subst hx
   subst hy
   obtain ⟨cs,rfl,s1,r1⟩:=hv
   obtain ⟨ds,rfl,s2,r2⟩:=hu
   have:=QM (vs:=cs.toList) (us:=ds.toList) hf KH (by omega) (by simpa using s1) (by simpa using s2) (fun j v x hj hx=>r1 j v x (by simpa using hj) hx) (fun j v x hj hx=>r2 j v x (by simpa using hj) hx)
   simp only[V.cells,this,Value.agg.injEq]
   exact Array.toList_inj
theorem QN {k:V}: ∀{es:List V},(∀x∈es,mB k (x.comp 0)=false)→lP k es=false∧(∀z,mC k es z=z)∧∀v,iS k v es=es++[.bm [k,v]]
 | [],_=>⟨rfl,fun _=>rfl,fun _=>rfl⟩
 | e::es,h=>by
  have h0:=h e (sH ..)
  obtain ⟨a,b,c⟩:=QN (k:=k) (es:=es) fun x hx=>h x (lL _ hx)
  exact ⟨by simp[lP,h0,a],fun z=>by simp[mC,h0,b],fun v=>by simp[iS,h0,c]⟩
theorem QO {k:V}: ∀{es:List V} {j:Nat} {k' y:V},es[j]? =some (.bm [k',y])→mB k k'=true→(∀i x,i<j→es[i]? =some x→mB k (x.comp 0)=false)→
  lP k es=true∧(∀z,mC k es z=y)∧∀v,iS k v es=es.set j (.bm [k',v])
 | [],j,k',y,h,_,_=>by simp at h
 | e::es,0,k',y,h,he,_=>by
  simp at h
  subst h
  exact ⟨by simp[lP,V.comp,V.nth,he],fun z=>by simp[mC,V.comp,V.nth,he],fun v=>by simp[iS,V.comp,V.nth,he]⟩
 | e::es,j+1,k',y,h,he,aT=>by
  have h0:=aT 0 e (by omega) rfl
  obtain ⟨a,b,c⟩:=QO (k:=k) (es:=es) (j:=j) (by simpa using h) he fun i x hi hx=>aT (i+1) x (by omega) (by simpa using hx)
  exact ⟨by simp[lP,h0,a],fun z=>by simp[mC,h0,b],fun v=>by simp[iS,h0,c]⟩
theorem QP {kt vt:TypeId} {E:Array MapEntry} {es:List V} {k:V} {kv:Value} (hs:E.size=es.length) (hx: ∀(j:Nat) (e:MapEntry) (x:V),E[j]? =some e→es[j]? =some x→Fl P kt vt e x)
  (hn:E.toList.Pairwise (fun a b=>a.key≠b.key)) (hk:nA P kt k=true) (F2:rh kv k) (w:World):
  ((Instr.findKey kt kv E.toList).run P w= .ok none w∧(∀e∈E.toList,e.key≠kv)∧lP k es=false∧(∀z,mC k es z=z)∧∀v,iS k v es=es++[.bm [k,v]])∨
  ∃j e k' y,(Instr.findKey kt kv E.toList).run P w= .ok (some (j,e.val)) w∧E[j]? =some e∧e.key=kv∧es[j]? =some (.bm [k',y])∧nA P kt k'=true∧rh kv k'∧eJ P vt y=true∧jy e.val y∧
   lP k es=true∧(∀z,mC k es z=y)∧∀v,iS k v es=es.set j (.bm [k',v]):=by
 have K:=KF hk
 obtain ⟨l,hl⟩:=F1 hk F2
 have QQ: ∀(j:Nat) x,es[j]? =some x→∃e,E[j]? =some e∧Fl P kt vt e x:=by
  intro j x hj
  have aT:j<E.size:=by rw[hs];exact (bu.1 hj).1
  exact ⟨E[j],kX aT,hx j _ x (kX aT) hj⟩
 have keys: ∀e∈E.toList,∃l,Go.keyOf P kt e.key=some l:=by
  intro e he
  obtain ⟨j,hj⟩:=sF he
  have fZ:E[j]? =some e:=by simpa using hj
  have aT:j<es.length:=by rw[←hs];exact (im.1 fZ).1
  obtain ⟨k',y,_,h1,U,_⟩:=hx j e es[j] fZ (bN aT)
  exact F1 h1 U
 rcases K.find w hl E.toList keys with ⟨h1,U⟩|⟨j,e,h1,U,h3⟩
 ·left
  refine ⟨h1,U,QN fun x hxm=> ?_⟩
  obtain ⟨j,hj⟩:=sF hxm
  obtain ⟨e,he,k',y,rfl,f1,f2,_⟩:=QQ j x hj
  cases hq:mB k (V.comp (.bm [k',y]) 0) with
  | false=>rfl
  | true=>
   have:=(KG hk f1 F2 f2).1 hq
   exact absurd this.symm (U e (jJ (by simpa using he)))
 ·right
  have hE:E[j]? =some e:=by simpa using U
  have aT:j<es.length:=by rw[←hs];exact (im.1 hE).1
  obtain ⟨k',y,hy,f1,f2,f3,f4⟩:=hx j e es[j] hE (bN aT)
  have hj:=bN aT
  rw[hy] at hj
  rw[h3] at f2
  refine ⟨j,e,k',y,h1,hE,h3,hj,f1,f2,f3,f4,QO hj ((KG hk f1 F2 f2).2 rfl) fun i x hi gE=> ?_⟩
  obtain ⟨e',gZ,k2,y2,rfl,g1,g2,_⟩:=QQ i x gE
  cases hq:mB k (V.comp (.bm [k2,y2]) 0) with
  | false=>rfl
  | true=>
   have:=(KG hk g1 F2 g2).1 hq
   have i1:i<E.toList.length:=by have:=(bu.1 gE).1;simp;omega
   have i2:j<E.toList.length:=by simp;omega
   have:=EL.1 hn i j i1 i2 hi
   have a1:E.toList[i]=e':=by
    have:E.toList[i]? =some e':=by simpa using gZ
    rw[bN i1] at this;exact cT this
   have a2:E.toList[j]=e:=by
    have:=U
    rw[bN i2] at this;exact cT this
   rw[a1,a2,h3] at this
   exact absurd (by rw[← ‹kv=e'.key›]) this
theorem ao.QR {v:Value} {x:V} (h:ao P w I β hp v x) {t:TypeId} (hx:pL P t x=true):jy v x:=by
 rcases rI hx with ⟨q,n,_,rfl,_⟩|⟨b,_,rfl⟩|⟨s,_,rfl,_⟩
 ·exact h.et
 ·exact h.kA
 ·exact h.mG
theorem ao.QS {v:Value} {x:V} (h:ao P w I β hp v x) {t:TypeId} (hx:nA P t x=true):rh v x:=by
 cases xT hx with
 | one f c=>
  have:=h.QR f
  cases x<;>first|exact this|cases this
 | arr hx A hl _ hf=>
  subst hx
  obtain ⟨cs,rfl,h1,U⟩:=h.lh
  exact ⟨cs,rfl,h1,fun j u y hu hy=>(U j u y hu hy).QR (KD hf hy)⟩
theorem QT {vt:TypeId} {y:V} (h:mapVal P vt=true) (ht:eJ P vt y=true):(∃q n,P.underlying vt=some (.int q)∧y= .int q n)∨∃b,P.underlying vt=some .bool∧y= .bool b:=by
 unfold mapVal at h
 unfold eJ at ht
 split at h
 ·rename_i q hu
  rw[hu] at ht
  cases y<;>first|(simp at ht;done)|skip
  simp only[dW] at ht
  subst ht
  exact .inl ⟨_,_,hu,rfl⟩
 ·rename_i hu
  rw[hu] at ht
  cases y<;>first|(simp at ht;done)|skip
  exact .inr ⟨_,hu,rfl⟩
 ·cases h
theorem jy.KI {vt:TypeId} {v:Value} {y:V} (h:mapVal P vt=true) (ht:eJ P vt y=true) (hv:jy v y):ao P w I β hp v y:=by
 rcases QT h ht with ⟨q,n,_,rfl⟩|⟨b,_,rfl⟩
 ·obtain rfl:v= .int q n:=hv;exact .int
 ·obtain rfl:v= .bool b:=hv;exact .bool
theorem ao.abv {vt:TypeId} {v:Value} {y:V} (h:mapVal P vt=true) (ht:eJ P vt y=true) (hv:ao P w I β hp v y):jy v y:=by
 rcases QT h ht with ⟨q,n,_,rfl⟩|⟨b,_,rfl⟩
 ·exact hv.et
 ·exact hv.kA
theorem abw {vt:TypeId} {z:V} (h:E4 P vt=some z) (w:World): ∃v,(zeroValue vt).run P w= .ok v w∧jy v z:=by
 unfold E4 at h
 cases hi:P.info? vt with
 | none=>rw[hi] at h;cases h
 | some i=>
  rw[hi] at h
  simp only[Option.bind_some] at h
  cases hz:i.zero with
  | none=>rw[hz] at h;cases h
  | some v=>
   rw[hz] at h
   refine ⟨v,by simp[zeroValue,typeInfo,hi,hz],?_⟩
   cases v<;>simp only at h<;>first|(cases h;done)|skip
   ·cases h;rfl
   ·cases h;rfl
theorem KJ {t kt vt:TypeId} (h:lQ P t=some (kt,vt)):P.underlying t=some (.map kt vt):=by
 unfold lQ at h
 split at h
 ·rename_i k e hu;cases h;exact hu
 ·cases h
theorem KK (S:aI P w I β hp B M w0) {ok:Bool} {v:Value} {x:V} {b:Bool} {r:R} {rd:List Nat} {res:Result Value} (hv:ao P w I β hp v x)
  (hr:res= .ok (if ok then .tuple #[v,.bool b] else v) w) (h:(E5 ok x b).run C hp=some (r,rd)):da P res w I β hp B M w0 r:=by
 unfold E5 at h
 obtain rfl:=aU h
 cases ok with
 | false=>exact .same S hr hv
 | true=>
  refine .same S hr (.bm rfl fun j u y hu hy=> ?_)
  match j,hu,hy with
  | 0,hu,hy=>simp at hu hy;subst hu;subst hy;exact hv
  | 1,hu,hy=>simp at hu hy;subst hu;subst hy;exact .bool
  | j+2,hu,hy=>simp at hy
theorem abx (S:aI P w I β hp B M w0) {t kt vt:TypeId} (ht:lQ P t=some (kt,vt)) {m k:Value} {mx kx:V} {ok:Bool} {r:R} {rd:List Nat} (hm:ao P w I β hp m mx) (hk:ao P w I β hp k kx)
  (h:(Jz P t mx kx ok).run C hp=some (r,rd)):da P ((Instr.lookup t m k ok).run P w) w I β hp B M w0 r:=by
 unfold Jz at h
 rw[ht] at h
 simp only at h
 cases hz:E4 P vt with
 | none=>rw[hz] at h;cases h
 | some z=>
  rw[hz] at h
  obtain ⟨hc,h'⟩:=aK h
  clear h
  have h:=h'
  clear h'
  simp only[aN] at hc
  obtain ⟨pZ,Bd,F3⟩:=hc
  have hu:=KJ ht
  have p5:=hk.QS pZ
  have K:=KF pZ
  obtain ⟨l,hl⟩:=F1 pZ p5
  obtain ⟨zv,QU,QV⟩:=abw hz w
  cases mx<;>simp only at h<;>first|(cases h;done)|skip
  ·rename_i t' id
   obtain ⟨lY,h'⟩:=aK h
   clear h
   have h:=h'
   clear h'
   rw[a8] at lY
   subst lY
   obtain ⟨l2,h'⟩:=run_get h
   clear h
   have h:=h'
   clear h'
   cases ab:hp id with
   | none=>rw[ab] at h;cases h
   | some blk=>
    rw[ab] at h
    cases blk<;>simp only at h<;>first|(cases h;done)|skip
    rename_i t2 es
    obtain ⟨lY,h'⟩:=aK h
    clear h
    have h:=h'
    clear h'
    rw[a8] at lY
    subst lY
    cases hm with
    | iD hd=>rw[ab] at hd;cases hd
    | @cD _ _ b aP hd hb=>
     rw[ab] at hd
     cases hd
     have hr:=S.h.rel id _ ab
     cases hr with
     | @map _ QW QX _ b' clock E ft aB hh hs hI hx hn=>
      rw[hb] at aB;cases aB
      rw[hu] at ft;cases ft
      rcases QP hs hx hn pZ p5 w with ⟨h1,_,h3,h4,_⟩|⟨j,e,k',y,h1,_,_,_,_,_,h6,h7,h3,h4,_⟩
      ·rw[h3,h4,AX F3] at h
       refine KK S (jy.KI Bd F3 QV) ?_ h
       unfold Instr.lookup
       simp only[Sem.run_bind,run_underlying hu,Result.andThen_ok,Go.MapKept.run_getObj_map hh,Sem.run_pure,K.check w E.isEmpty hl,h1,QU]
      ·rw[h3,h4,AX h6] at h
       refine KK S (jy.KI Bd h6 h7) ?_ h
       unfold Instr.lookup
       simp only[Sem.run_bind,run_underlying hu,Result.andThen_ok,Go.MapKept.run_getObj_map hh,Sem.run_pure,K.check w E.isEmpty hl,h1]
  ·rename_i t'
   obtain ⟨lY,h⟩:=aK h
   cases hm
   rw[AX F3] at h
   refine KK S (jy.KI Bd F3 QV) ?_ h
   have hf:(Instr.findKey kt k []).run P w= .ok none w:=by
    rcases K.find w hl [] (by simp) with ⟨h1,_⟩|⟨j,e,_,U,_⟩
    ·exact h1
    ·simp at U
   unfold Instr.lookup
   simp[run_underlying hu,K.check w true hl,hf,QU]
theorem aby (S:aI P w I β hp B M w0) {t:TypeId} {nb:Nat} {r:R} {rd:List Nat} (h:(Rd.aE (lQ P t).isSome (jv nb (.map t []) (.cD t nb) [])).run C hp=some (r,rd)):
  da P ((Instr.makeMap t none).run P w) w I β hp B M w0 r:=by
 obtain ⟨ht,h⟩:=aK h
 obtain ⟨hn,rfl⟩:=nO h
 obtain ⟨⟨kt,vt⟩,ht⟩:=Ad.1 ht
 have hu:=KJ ht
 have cV: ¬I w.heap.size:=fun h=>Nat.lt_irrefl _ (S.h.jP _ h)
 have e7:(w.alloc (.map #[] 0)).heap[w.heap.size]? =some (.map #[] 0):=heap_alloc_new w _
 obtain ⟨a1,a2⟩:=AU S (w':=w.alloc (.map #[] 0)) (blk:= .map t []) (b:=w.heap.size) hn (fun aG blk' h ho=>Nat.lt_irrefl _ (S.h.lt h ho)) cV
  (fun b' _ aT=>heap_alloc_old w _ b' aT) (by simp) ⟨rfl,rfl⟩ (.inr S.size) (fun b' h=>(cT (h.flat (by simp))).symm)
  (fun _=> .map hu rfl e7 rfl cV (fun j e x he _=>by simp at he) (by simp))
 exact ⟨_,_,_,_,Go.RowKit.run_makeMap t w,a1,a2,.cD (c7 _ _ _) (c7 _ _ _)⟩
theorem QY (S:aI P w I β hp B M w0) {t kt vt:TypeId} (ht:lQ P t=some (kt,vt)) {m k v:Value} {mx kx vx:V} {r:R} {rd:List Nat} (hm:ao P w I β hp m mx) (hk:ao P w I β hp k kx) (hv:ao P w I β hp v vx)
  (h:(E6 P t mx kx vx).run C hp=some (r,rd)):pT P ((Instr.mapUpdate t m k v).run P w) w I β hp B M w0 r:=by
 unfold E6 at h
 rw[ht] at h
 obtain ⟨hc,h'⟩:=aK h
 clear h
 have h:=h'
 clear h'
 simp only[aN] at hc
 obtain ⟨pZ,Bd,u4⟩:=hc
 have hu:=KJ ht
 have p5:=hk.QS pZ
 have xG:=ao.abv Bd u4 hv
 have K:=KF pZ
 obtain ⟨l,hl⟩:=F1 pZ p5
 cases mx<;>simp only at h<;>first|(cases h;done)|skip
 rename_i t' id
 obtain ⟨lY,h'⟩:=aK h
 clear h
 have h:=h'
 clear h'
 rw[a8] at lY
 subst lY
 obtain ⟨l2,h'⟩:=run_get h
 clear h
 have h:=h'
 clear h'
 cases ab:hp id with
 | none=>rw[ab] at h;cases h
 | some blk=>
  rw[ab] at h
  cases blk<;>simp only at h<;>first|(cases h;done)|skip
  rename_i t2 es
  obtain ⟨lY,h'⟩:=aK h
  clear h
  have h:=h'
  clear h'
  rw[a8] at lY
  subst lY
  obtain rfl:=aU h
  cases hm with
  | iD hd=>rw[ab] at hd;cases hd
  | @cD _ _ b aP hd hb=>
   rw[ab] at hd
   cases hd
   have hr:=S.h.rel id _ ab
   cases hr with
   | @map _ QW QX _ b' clock E ft aB hh hs hI hx hn=>
    rw[hb] at aB;cases aB
    rw[hu] at ft;cases ft
    have aT:b<w.heap.size:=(im.1 hh).1
    have fin: ∀(E':Array MapEntry) (Be:Nat),(Instr.mapUpdate t (.map (some b)) k v).run P w= .ok () {w with heap:=w.heap.setIfInBounds b (.map E' Be)}→E'.size=(iS kx vx es).length→
      (∀(j:Nat) (e:MapEntry) (x:V),E'[j]? =some e→(iS kx vx es)[j]? =some x→Fl P kt vt e x)→E'.toList.Pairwise (fun a b=>a.key≠b.key)→
      pT P ((Instr.mapUpdate t (.map (some b)) k v).run P w) w I β hp B M w0 ⟨.undef,[(id,.map t (iS kx vx es))]⟩:=by
     intro E' Be c8 KC cE KL
     have e7:({w with heap:=w.heap.setIfInBounds b (.map E' Be)}:World).heap[b]? =some (.map E' Be):=by simp[aT]
     obtain ⟨a1,a2⟩:=Fw S (w':={w with heap:=w.heap.setIfInBounds b (.map E' Be)}) (blk':= .map t (iS kx vx es)) ab (by simp) rfl hb hI (by simp)
      (fun b' aB=>by simp[Array.getElem?_setIfInBounds,Ne.symm aB]) (by simp only[bsize,e7,hh]) (by simp) ⟨rfl,rfl⟩ (fun _=> .map hu rfl e7 KC hI cE KL)
     exact ⟨_,I,β,c8,a1,a2,rfl⟩
    rcases QP hs hx hn pZ p5 w with ⟨h1,U,_,_,h5⟩|⟨j,e,k',y,h1,hE,QZ,oX,abz,abA,_,_,_,_,h5⟩
    ·have e5:=h5 vx
     refine fin (E.push {key:=k,val:=v,born:=clock}) (clock+1) ?_ (by rw[e5];simp[hs]) (fun j e x he ru=> ?_) ?_
     ·unfold Instr.mapUpdate
      simp only[Sem.run_bind,run_underlying hu,Result.andThen_ok,Go.MapKept.run_getObj_map hh,K.check w false hl,h1,Go.MapKept.run_setObj_map _ hh]
     ·rw[e5] at ru
      rw[Array.getElem?_push] at he
      split at he
      ·rename_i hj
       rw[iq (by omega),hj,hs,Nat.sub_self] at ru
       simp at he ru
       subst he;subst ru
       exact ⟨kx,vx,rfl,pZ,p5,u4,xG⟩
      ·have hj:j<E.size:=(im.1 he).1
       rw[iR (by omega)] at ru
       exact hx j e x he ru
     ·rw[Array.toList_push,List.pairwise_append]
      refine ⟨hn,by simp,fun a ha b' aB=> ?_⟩
      simp only[ez] at aB
      subst aB
      exact U a ha
    ·have e5:=h5 vx
     have hj:j<E.size:=(im.1 hE).1
     refine fin (E.modify j fun e=>{e with key:=k,val:=v}) clock ?_ (by rw[e5];simp[hs]) (fun i e' x he gE=> ?_) ?_
     ·have bG:=K.stays w hl
      unfold Instr.mapUpdate
      simp only[Sem.run_bind,run_underlying hu,Result.andThen_ok,Go.MapKept.run_getObj_map hh,K.check w false hl,h1]
      simp only[hE,Option.map_some,Option.getD_some,QZ,bG,Result.andThen_ok,Go.MapKept.run_setObj_map _ hh]
     ·rw[e5] at gE
      rw[Ae] at he
      rw[Ab] at gE
      split at he
      ·rename_i u5
       subst u5
       rw[ah rfl,ah (by omega)] at gE
       rw[hE] at he
       simp at he gE
       subst he;subst gE
       exact ⟨k',vx,rfl,abz,abA,u4,xG⟩
      ·rename_i u5
       rw[ai u5] at gE
       exact hx i e' x he gE
     ·have u6: ∀i (h1:i<(E.modify j fun e=>{e with key:=k,val:=v}).toList.length) (U:i<E.toList.length),((E.modify j fun e=>{e with key:=k,val:=v}).toList[i]).key=(E.toList[i]).key:=by
       intro i h1 U
       simp only[Array.getElem_toList,Array.getElem_modify]
       split
       ·rename_i u5
        subst u5
        have:=(im.1 hE).2
        rw[this,QZ]
       ·rfl
      rw[EL] at hn⊢
      intro i i' h1 U je
      have g1:i<E.toList.length:=by simpa using h1
      have g2:i'<E.toList.length:=by simpa using U
      rw[u6 i h1 g1,u6 i' U g2]
      exact hn i i' g1 g2 je
theorem abB (S:aI P w I β hp B M w0) {t ty kt vt:TypeId} {v:Value} {x:V} {r:R} {rd:List Nat} (hu:P.underlying t=some (.map kt vt)) (hv:ao P w I β hp v x)
  (h:(E7 x).run C hp=some (r,rd)):da P ((Builtin.len_ #[t] ty #[v]).run P w) w I β hp B M w0 r:=by
 unfold E7 at h
 cases x<;>simp only at h<;>first|(cases h;done)|skip
 ·rename_i t' id
  obtain ⟨l2,h'⟩:=run_get h
  clear h
  have h:=h'
  clear h'
  cases ab:hp id with
  | none=>rw[ab] at h;cases h
  | some blk=>
   rw[ab] at h
   cases blk<;>simp only at h<;>first|(cases h;done)|skip
   rename_i t2 es
   obtain rfl:=aU h
   cases hv with
   | iD hd=>rw[ab] at hd;cases hd
   | @cD _ _ b aP hd hb=>
    rw[ab] at hd
    cases hd
    have hr:=S.h.rel id _ ab
    cases hr with
    | @map _ QW QX _ b' clock E ft aB hh hs hI hx hn=>
     rw[hb] at aB;cases aB
     refine .same S (v:= .int .i64 E.size) (by simp[Builtin.len_,run_underlying hu,Go.MapKept.run_getObj_map hh,goInt]) ?_
     rw[hs]
     exact .int
 ·obtain rfl:=aU h
  cases hv
  exact .same S (v:= .int .i64 0) (by simp[Builtin.len_,run_underlying hu,goInt]) .int
theorem ao.KM {v:Value} {t:TypeId} (h:ao P w I β hp v (.dE t)):v= .map none:=by cases h;rfl
theorem ao.abC {v:Value} {t t':TypeId} {id:Nat} {es:List V} (h:ao P w I β hp v (.cD t id)) (ab:hp id=some (.map t' es)): ∃b,v= .map (some b):=by
 cases h with
 | iD h=>rw[ab] at h;cases h
 | cD h hb=>exact ⟨_,rfl⟩
theorem Q0 (S:aI P w I β hp B M w0) {op:BinOp} {t:TypeId} {a:Option Nat} {r:R} {rd:List Nat} (x y:Operand)
  (h:(E1 P op t a.isNone).run C hp=some (r,rd)):da P ((do eqGuard op t x y (.map a) (.map none);binOp op t (.map a) (.map none)).run P w) w I β hp B M w0 r:=by
 unfold E1 at h
 split at h
 case h_2=>cases h
 rename_i kt vt hu
 have he:(Op.equal t (.map a) (.map none)).run P w= .ok a.isNone w:=by
  show (Op.equalIn (9999+1) t (.map a) (.map none)).run P w=_
  rw[Op.equalIn]
  cases a<;>simp[Sem.run_bind,run_underlying hu,Result.andThen_ok,Sem.run_pure]
 cases op<;>simp only at h<;>first|(cases h;done)|skip
 ·obtain rfl:=aU h
  exact .same S (by simp[eqGuard,binOp,he]) .bool
 ·obtain rfl:=aU h
  exact .same S (by simp[eqGuard,binOp,he]) .bool
end
end Go.AM
namespace Go.AM
section
variable {P:Program} {w w':World} {I I':Nat→Prop} {β β':Nat→Option Nat} {hp hp':Nat→Option an} {C:ae} {B:Nat} {M:Nat→Prop} {w0:Start}
theorem abD {e:TypeId} (he:P.underlying e=some (.int .u8)) (hc:P.cellsOf e=1) (s:ByteArray): ∀(i j:Nat) (x:V) (t':TypeId),(s.data.toList.map dG)[i]? =some x→(ba P e)[j]? =some t'→j<P.cellsOf e→
  ∃u,(Lib.strCells s)[i*P.cellsOf e+j]? =some u∧Pure P w I t' u (bQ P e x j):=by
 intro i j x t' hx ht hj
 have nR:bL P e=false:=by simp[bL,he]
 obtain rfl:j=0:=by omega
 simp only[ba,nR,cond_false,List.getElem?_cons_zero,ec] at ht
 subst ht
 rw[gC] at hx
 cases hb:s.data.toList[i]? with
 | none=>rw[hb] at hx;cases hx
 | some b=>
  rw[hb] at hx
  cases hx
  refine ⟨.int .u8 b.toNat,?_,?_⟩
  ·rw[hc,nr,Nat.add_zero]
   simp only[Lib.strCells,gC,hb,Option.map_some]
  ·simp only[bQ,nR,cond_false]
   exact .int he
theorem abE (w:World) (t u ty e:TypeId) (i:TypeInfo) (z:Value) (ht:P.underlying t=some (.slice e)) (hu:P.underlying u=some .string) (hi:P.info? e=some i) (hz:i.zero=some z)
  (s:ByteArray) (h0:0<s.size) (FV:(s.size:Int)≤9223372036854775807) (FW:s.size*i.bytes≤281474976710656) (a0:Option Addr):
  (Builtin.append_ #[t,u] ty #[.slice a0 0 0,.string s]).run P w=
   .ok (.slice (some ⟨w.heap.size,0,none⟩) s.size (grownCap w s.size 0 e))
    (w.drew.alloc (.cells (s.data.map (fun b=>Value.int .u8 b.toNat)++Builtin.zeroCells z.cells (grownCap w s.size 0 e-s.size)) e)):=by
 cases a0 with
 | none=>exact run_append_nil_string w t u ty e i z ht hu hi hz s h0 FV FW
 | some b=>
  rw[←run_append_nil_string w t u ty e i z ht hu hi hz s h0 FV FW]
  have hn:s.size≠0:=by omega
  have abF: ¬(9223372036854775807<(s.size:Int)):=by omega
  have abG: ¬(281474976710656<Builtin.nextslicecap s.size 0*i.bytes):=by rw[nextslicecap_zero h0];omega
  simp[Builtin.append_,run_underlying ht,run_underlying hu,sizeOf,typeInfo,zeroValue,hi,hz,Builtin.lenOf,Builtin.firstCells,hn,abF,abG,Question.forced,newRow,grownCap,loadCells,loadCellsFrom]
theorem Q1 (S:aI P w I β hp B M w0) {t u ty e:TypeId} {nb:Nat} {x:ByteArray} {xs:List V} {i:TypeInfo} {z:Value} (hu:P.underlying t=some (.slice e)) (oY:P.underlying u=some .string) (ay:cW P e=true) (hn:hp nb=none)
 (hi:P.info? e=some i) (hz:i.zero=some z) (h3:i.size=P.cellsOf e) (h4:z.cells.size=P.cellsOf e) (xU:i.size=1) (ll:P.bytesOf e=i.bytes) (dX:xs.length*P.bytesOf e≤cJ) (lp:xs.length=x.size) (lX:(Lib.strCells x).length=x.size)
 (cX: ∀(i j:Nat) (y:V) (t':TypeId),xs[i]? =some y→(ba P e)[j]? =some t'→j<P.cellsOf e→∃u,(Lib.strCells x)[i*P.cellsOf e+j]? =some u∧Pure P w I t' u (bQ P e y j)):
 ∀a0,∃v w' β',(Builtin.append_ #[t,u] ty #[.slice a0 0 0,.string x]).run P w= .ok v w'∧Le P w I β hp w' I β' (aM hp nb (some (.arr e xs false)))∧aI P w' I β' (aM hp nb (some (.arr e xs false))) B M w0∧
  ao P w' I β' (aM hp nb (some (.arr e xs false))) v (.whole e nb):=by
 intro a0
 have uZ:=xy ay
 have hlen:xs.length≤2^45:=by
  have:xs.length*1≤xs.length*P.bytesOf e:=uk _ uZ
  simp only[cJ] at dX
  omega
 by_cases h0:x.size=0
 ·have gG:xs=[]:=lK (by omega)
  subst gG
  obtain ⟨a1,a2⟩:=Fu S e hn
  have hf:=Lib.run_firstCells_string (P:=P) w 1 x
  rw[h0] at hf
  have rB:Lib.strCells x=[]:=lK (by omega)
  exact ⟨.slice a0 0 0,_,_,by cases a0<;>simp[storeCells,rB,Builtin.append_,run_underlying hu,run_underlying oY,sizeOf,typeInfo,hi,xU,Builtin.lenOf,h0,hf],a1,a2,.dP (c7 _ _ _) (c7 _ _ _)⟩
 ·have c8:=abE (P:=P) w t u ty e i z hu oY hi hz x (by omega) (by omega) (by rw[←ll,←lp];simp only[cJ] at dX;omega) a0
  have e1:(x.data.map fun b=>Value.int .u8 b.toNat)=(Lib.strCells x).toArray:=by
   apply Array.ext'
   simp[Lib.strCells]
  rw[e1,←lp] at c8
  have pW:=grownCap_ge w xs.length 0 e
  have u0:grownCap w xs.length 0 e≤maxLen:=grownCap_le_maxLen w xs.length 0 e (by simp only[maxLen];omega)
  obtain ⟨n1,n2,n3⟩:=xQ S.drew (nb:=nb) (cap:=grownCap w xs.length 0 e) (es:=xs) (C0:=(Lib.strCells x).toArray++Builtin.zeroCells z.cells (grownCap w xs.length 0 e-xs.length)) ay hn
   (by
    have:(Lib.strCells x).length=xs.length*P.cellsOf e:=by rw[lX,lp,←h3,xU,nr]
    simp only[EJ,qP,size_zeroCells,h4,this,←dy];congr 1;omega) pW u0
   (fun i' j y t' hy ht hj=>by
    obtain ⟨u,ft,hp⟩:=cX i' j y t' hy ht hj
    have aT:=(bu.1 ft).1
    refine ⟨u,?_,Pure.drew hp⟩
    rw[Array.getElem?_append_left (by simpa using aT)]
    simpa using ft)
  exact ⟨_,_,_,c8,(Le.drew w I β hp).trans n1,n2,n3⟩
theorem abH (S:aI P w I β hp B M w0) {t u ty e:TypeId} {nb:Nat} {s:Value} {sv:V} {x:ByteArray} {r:R} {rd:List Nat} (hu:P.underlying t=some (.slice e)) (oY:P.underlying u=some .string) (he:P.underlying e=some (.int .u8)) (hs:ao P w I β hp s sv)
  (h:(xk P nb e sv (.list e (x.data.toList.map dG))).run C hp=some (r,rd)):da P ((Builtin.append_ #[t,u] ty #[s,.string x]).run P w) w I β hp B M w0 r:=by
 unfold xk at h
 obtain ⟨ay,h⟩:=aK h
 simp only[sO] at h
 obtain ⟨_,h⟩:=aK h
 have nR:bL P e=false:=by simp[bL,he]
 have dR:P.cellsOf e=1:=by rw[←(kz ay).1,AQ nR];rfl
 obtain ⟨i,z,hi,hz,h3,h4,_⟩:=kD ay
 have xU:i.size=1:=by rw[h3,dR]
 have uZ:=xy ay
 have ll:P.bytesOf e=i.bytes:=by simp[Program.bytesOf,hi]
 have F4:=abD (P:=P) (w:=w) (I:=I) he dR x
 have lp:(x.data.toList.map dG).length=x.size:=by simp
 have lX:(Lib.strCells x).length=x.size:=Lib.strCells_length x
 have h1:=Lib.strCells_oneCell x
 generalize gG:x.data.toList.map dG=xs at*
 cases sv with
 | nilS e'=>
  obtain ⟨hc,h⟩:=aK h
  simp only[aN,a8,eb] at hc
  obtain ⟨hn,rfl⟩:=nO h
  obtain ⟨a0,rfl⟩: ∃a0,s= .slice a0 0 0:=by cases hs;exact ⟨_,rfl⟩
  obtain ⟨v,w',β',a1,a2,a3,a4⟩:=Q1 S hu oY ay hn hi hz h3 h4 xU ll hc.2 lp lX F4 _
  exact ⟨v,w',I,β',a1,a2,a3,a4⟩
 | whole e' id=>
  obtain ⟨l,h⟩:=run_get h
  cases ab:hp id with
  | none=>rw[ab] at h;cases h
  | some blk=>
   rw[ab] at h
   cases blk with
   | dead=>cases h
   | var _=>cases h
   | nest _ _ _=>cases h
   | map _ _=>cases h
   | arr dN es fz=>
    cases fz with
    | true=>cases h
    | false=>
     obtain ⟨hc,h⟩:=aK h
     obtain ⟨hn,rfl⟩:=nO h
     simp only[aN,a8,eb] at hc
     obtain ⟨Ks,Kt,dX⟩:=hc
     subst Ks
     subst Kt
     have bD:nb≠id:=fun e=>by rw[e,ab] at hn;cases hn
     obtain ⟨k1,k2⟩:=Fv S ab
     have kE:aM hp id (some an.dead) nb=none:=by rw[er _ _ bD];exact hn
     cases hs with
     | eo hd=>rw[ab] at hd;cases hd
     | eF hd=>rw[ab] at hd;cases hd
     | dP hd hb=>
      rw[ab] at hd
      cases hd
      simp only[List.length_nil,gQ] at dX
      obtain ⟨v,w',β',a1,a2,a3,a4⟩:=Q1 k2 hu oY ay kE hi hz h3 h4 xU ll dX lp lX F4 _
      exact ⟨v,w',I,β',a1,k1.trans a2,a3,a4⟩
     | @whole _ _ aP nB b cap hd hb bd cg hm=>
      rw[ab] at hd
      cases hd
      have hr:=S.h.rel id _ ab
      cases hr with
      | dQ aB=>rw[aB] at hb;cases hb
      | @arr _ _ _ b' Ca _ aB hh pY hf ep mK=>
       rw[hb] at aB
       cases aB
       have hlen:es.length+xs.length≤2^45:=by
        have:(es.length+xs.length)*1≤(es.length+xs.length)*P.bytesOf e:=uk _ uZ
        simp only[cJ] at dX
        omega
       rw[nF hh] at bd
       have rq: ∀aG blk',aM hp id (some an.dead) aG=some blk'→¬bC P w (β aG) blk' b:=by
        intro aG blk' h1 U
        by_cases je:aG=id
        ·subst je;rw[c7] at h1;cases h1;exact U.alive rfl
        ·rw[er _ _ je] at h1
         exact je (S.h.inj aG id blk' _ b h1 ab U (.root (by simp) hb))
       have Ku:=S.h.sX id _ b ab (by simp) hb
       have lZ:es.length*P.cellsOf e≤Ca.toList.length:=by simpa using pY
       have Q2:(Lib.strCells x).length=xs.length*P.cellsOf e:=by rw[lX,lp,dR,nr]
       by_cases ta:es.length+xs.length≤cap
       ·have Ba:es.length*P.cellsOf e+(Lib.strCells x).length≤Ca.size:=by rw[Q2,←dy,←bd];exact dM _ ta
        have c8:=Lib.run_append_room_string (P:=P) w t u ty e i hu oY hi xU b es.length cap Ca hh x (by rw[←lp];exact ta) (by rw[←lX];rw[dR,nr] at Ba;exact Ba)
        have cX:=FT (P:=P) (w:=w) (I:=I) (n:=es.length) (c:=Ca.toList) rfl (fun i j y t' a b c=>by
         obtain ⟨v,hv,hp⟩:=mK i j y t' a b c
         exact ⟨v,by simpa using hv,hp⟩) F4 lZ (Ca.toList.drop (es.length*P.cellsOf e+(Lib.strCells x).length))
        generalize xM:(Ca.toList.take es.length++Lib.strCells x++Ca.toList.drop (es.length+x.size)).toArray=C' at c8
        have oU:C'.size=Ca.size:=by
         rw[dR,nr] at Ba
         rw[←xM];simp;omega
        have Q3:(w.setRow b C').heap[b]? =some (.cells C' e (0,0)):=setRow_heap w b Ca C' e _ hh
        obtain ⟨a1,a2⟩:=AU k2 (blk:= .arr e (es++xs) false) (w':=w.setRow b C') kE rq (ep rfl) (fun b' h _=>setRow_other w b b' _ h) (by simp) ⟨rfl,rfl⟩ Ku
         (fun b' h=>(cT (h.flat (by simp))).symm) (fun hle=> .arr ay rfl Q3 (by rw[oU,←bd];exact dM _ (by simpa using ta)) (fun h=>by cases h) (fun _=>ep rfl) fun i j y t' a b c=>by
          obtain ⟨v,hv,hp⟩:=cX i j y t' a b c
          refine ⟨v,?_,hp.mono hle.dq hle.cm⟩
          rw[←xM,np]
          rw[dR] at hv⊢
          simpa[lX] using hv)
        refine ⟨_,_,_,_,c8,k1.trans a1,a2,?_⟩
        have a3:=ao.whole (P:=P) (w:=w.setRow b C') (I:=I) (β:=aM β nb (some b)) (hp:=aM (aM hp id (some .dead)) nb (some (.arr e (es++xs) false))) (cap:=cap) (b:=b) (es:=es++xs) (fz:=false) (id:=nb) (e:=e) (c7 _ _ _) (c7 _ _ _) (by rw[nF Q3,oU,bd]) (by simpa using ta) hm
        rw[cz,lp] at a3
        exact a3
       ·have hold: ∀(j:Nat) v,(Ca.toList.take (es.length*P.cellsOf e))[j]? =some v→w.cell? ((⟨b,0,none⟩:Addr).add j)=some v:=by
         intro j v hj
         have cp:=(bu.1 hj).1
         have gu:j<es.length*P.cellsOf e:=by rw[fS] at cp;omega
         rw[fe gu] at hj
         rw[nK,cell?_cells hh,gQ]
         simpa using hj
        have c8:=Lib.run_append_grow_string (P:=P) w t u ty e i z hu oY hi hz ⟨b,0,none⟩ es.length cap (Ca.toList.take (es.length*P.cellsOf e)) (by rw[h3];simp;omega) hold x (by omega) (by omega)
         (growslice_fits (by omega) (by rw[←ll,←lp];simp only[cJ] at dX;omega))
        rw[←lp] at c8
        have pW:=grownCap_ge w (es.length+xs.length) cap e
        have u0:grownCap w (es.length+xs.length) cap e≤maxLen:=grownCap_le_maxLen w _ cap e (by simp only[maxLen];omega)
        have cX:=FT (P:=P) (w:=w) (I:=I) (n:=es.length) (c:=Ca.toList) rfl (fun i j y t' a b c=>by
         obtain ⟨v,hv,hp⟩:=mK i j y t' a b c
         exact ⟨v,by simpa using hv,hp⟩) F4 lZ (Builtin.zeroCells z.cells (grownCap w (es.length+xs.length) cap e-(es.length+xs.length))).toList
        obtain ⟨n1,n2,n3⟩:=xQ k2.drew (nb:=nb) (cap:=grownCap w (es.length+xs.length) cap e) (es:=es++xs)
         (C0:=(Ca.toList.take (es.length*P.cellsOf e)).toArray++(Lib.strCells x).toArray++Builtin.zeroCells z.cells (grownCap w (es.length+xs.length) cap e-(es.length+xs.length))) ay kE
         (by
          have e1:(Ca.toList.take (es.length*P.cellsOf e)).length=es.length*P.cellsOf e:=by simp;omega
          simp only[EJ,qP,size_zeroCells,h4,Q2,e1,←dy];congr 1;omega) (by simpa using pW) u0
         (fun i j y t' a b c=>by
          obtain ⟨v,hv,hp⟩:=cX i j y t' a b c
          refine ⟨v,?_,Pure.drew hp⟩
          rw[←sG]
          simpa using hv)
        rw[cz] at n3
        exact ⟨_,_,_,_,c8,(k1.trans (Le.drew w I β _)).trans n1,n2,n3⟩
 | _=>cases h
end
section
variable {P:Program} {w w':World} {I I':Nat→Prop} {β β':Nat→Option Nat} {hp hp':Nat→Option an} {C:ae} {B:Nat} {M:Nat→Prop} {w0:Start}
theorem Q4: ∀(ns:List Int) (s:ByteArray),(ns.foldl (fun r n=>r.push (UInt8.ofNat n.toNat)) s).data.toList=s.data.toList++ns.map fun n=>UInt8.ofNat n.toNat
 | [],s=>by simp
 | n::ns,s=>by
  simp only[List.foldl_cons,Q4 ns,cr]
  simp[ByteArray.push]
theorem Q5 {e:TypeId} {u:Value} {x:V} (he:P.underlying e=some (.int .u8)) (hp:Pure P w I e u x):u= .int .u8 x.toInt:=by
 cases hp with
 | int hp'=>rw[he] at hp';cases hp';rfl
 | bool hp'=>rw[he] at hp';cases hp'
 | str hp'=>rw[he] at hp';cases hp'
 | nil hp'=>rw[he] at hp';cases hp'
 | emp hp'=>rw[he] at hp';cases hp'
 | list _ hp'=>rw[he] at hp';cases hp'
theorem abI (S:aI P w I β hp B M w0) {src dst e:TypeId} {v:Value} {x:V} {r:R} {rd:List Nat} (hs:P.underlying src=some (.slice e)) (he:P.underlying e=some (.int .u8)) (hd:P.underlying dst=some .string)
  (hv:ao P w I β hp v x) (h:(Rd.aE (cW P e) (sO e x fun es=> .ret ⟨.str (kZ es),[]⟩)).run C hp=some (r,rd)):da P ((convert src dst v).run P w) w I β hp B M w0 r:=by
 obtain ⟨ay,h⟩:=aK h
 obtain ⟨xs,hx,l,h⟩:=FR S.h.rel ay hv h
 obtain rfl:=aU h
 have nR:bL P e=false:=by simp[bL,he]
 have h1:P.cellsOf e=1:=by rw[←(kz ay).1,AQ nR];rfl
 rcases hx with ⟨⟨a,rfl⟩,rfl⟩|⟨a,c,news,hr⟩
 ·refine .same S (v:= .string .empty) ?_ (.str (by simp[kZ]))
  rw[run_convert_bytes_string w src dst e a 0 0 hs he hd]
  cases a<;>simp[Conv.bytesToString,loadCells,loadCellsFrom]
 ·have FU:news=(xs.map V.toInt).map (Value.int .u8):=by
   apply EM
   intro j
   by_cases hj:j<xs.length
   ·obtain ⟨u,hu,hp⟩:=hr.el j 0 xs[j] e (bN hj) (by simp[ba,nR]) (by omega)
    rw[h1] at hu
    simp only[bQ,nR,cond_false] at hp
    have ft:news[j]? =some u:=by simpa using hu
    rw[ft]
    have:=Q5 he hp
    simp[hj,←this]
   ·have hl:news.length=xs.length:=by rw[hr.len,h1];simp
    rw[qN (by omega),qN (by simp;omega)]
  have KN:=run_loadCells_list (P:=P) w a news hr.cell
  have hl:news.length=xs.length:=by rw[hr.len,h1];simp
  rw[hl] at KN
  rw[FU] at KN
  refine .same S (v:= .string ((xs.map V.toInt).foldl (fun r n=>r.push (UInt8.ofNat n.toNat)) ByteArray.empty)) ?_ (.str ?_)
  ·rw[hr.val,run_convert_bytes_string w src dst e _ _ _ hs he hd]
   exact run_bytesToString w a xs.length c (xs.map V.toInt) KN
  ·rw[Q4]
   simp[kZ]
theorem ao.F5 {v:Value} (h:ao P w I β hp v .dA):v= .pointer none:=by cases h;rfl
section
variable (w:World)
theorem abJ (t e:TypeId) (a:Addr) (h:P.underlying t=some (.pointer e)):(binOp .eql t (.pointer (some a)) (.pointer none)).run P w= .ok (.bool false) w:=by
 have h0: ∀d:Nat,(Op.equalIn (d+1) t (.pointer (some a)) (.pointer none)).run P w= .ok false w:=fun d=>by simp[Op.equalIn,run_underlying h]
 simp only[binOp]
 simp[Op.equal,Op.maxDepth,h0 9999]
theorem abK (t e:TypeId) (a:Addr) (h:P.underlying t=some (.pointer e)):(binOp .neq t (.pointer (some a)) (.pointer none)).run P w= .ok (.bool (!false)) w:=by
 have h0: ∀d:Nat,(Op.equalIn (d+1) t (.pointer (some a)) (.pointer none)).run P w= .ok false w:=fun d=>by simp[Op.equalIn,run_underlying h]
 simp only[binOp]
 simp[Op.equal,Op.maxDepth,h0 9999]
theorem abL (t e:TypeId) (a:Addr) (h:P.underlying t=some (.pointer e)):(binOp .eql t (.pointer none) (.pointer (some a))).run P w= .ok (.bool false) w:=by
 have h0: ∀d:Nat,(Op.equalIn (d+1) t (.pointer none) (.pointer (some a))).run P w= .ok false w:=fun d=>by simp[Op.equalIn,run_underlying h]
 simp only[binOp]
 simp[Op.equal,Op.maxDepth,h0 9999]
theorem abM (t e:TypeId) (a:Addr) (h:P.underlying t=some (.pointer e)):(binOp .neq t (.pointer none) (.pointer (some a))).run P w= .ok (.bool (!false)) w:=by
 have h0: ∀d:Nat,(Op.equalIn (d+1) t (.pointer none) (.pointer (some a))).run P w= .ok false w:=fun d=>by simp[Op.equalIn,run_underlying h]
 simp only[binOp]
 simp[Op.equal,Op.maxDepth,h0 9999]
theorem abN (t e:TypeId) (h:P.underlying t=some (.pointer e)):(binOp .eql t (.pointer none) (.pointer none)).run P w= .ok (.bool true) w:=by
 have h0: ∀d:Nat,(Op.equalIn (d+1) t (.pointer none) (.pointer none)).run P w= .ok true w:=fun d=>by simp[Op.equalIn,run_underlying h]
 simp only[binOp]
 simp[Op.equal,Op.maxDepth,h0 9999]
theorem abO (t e:TypeId) (h:P.underlying t=some (.pointer e)):(binOp .neq t (.pointer none) (.pointer none)).run P w= .ok (.bool (!true)) w:=by
 have h0: ∀d:Nat,(Op.equalIn (d+1) t (.pointer none) (.pointer none)).run P w= .ok true w:=fun d=>by simp[Op.equalIn,run_underlying h]
 simp only[binOp]
 simp[Op.equal,Op.maxDepth,h0 9999]
end
theorem F6 (S:aI P w I β hp B M w0) {op:BinOp} {t:TypeId} {b:Bool} {x y:Operand} {v1 v2:Value} {r:R} {rd:List Nat} (h:(ptrEq P op t b).run C hp=some (r,rd)) (hg:(eqGuard op t x y v1 v2).run P w= .ok () w)
  (he: ∀e j,P.underlying t=some (.pointer e)→P.info? e=some j→(binOp .eql t v1 v2).run P w= .ok (.bool b) w∧(binOp .neq t v1 v2).run P w= .ok (.bool (!b)) w):
  da P ((do eqGuard op t x y v1 v2;binOp op t v1 v2:Sem Value).run P w) w I β hp B M w0 r:=by
 unfold ptrEq at h
 cases hu:P.underlying t with
 | none=>rw[hu] at h;cases h
 | some d=>
  rw[hu] at h
  cases d<;>simp only at h<;>first|(cases h;done)|skip
  rename_i e
  obtain ⟨h1,U⟩:=aK h
  obtain ⟨j,hj⟩:=Ad.1 h1
  obtain ⟨k1,k2⟩:=he e j hu hj
  cases op<;>simp only at U<;>first|(cases U;done)|skip
  ·obtain rfl:=aU U
   exact .same S (by simp only[Sem.run_bind,hg,Result.andThen_ok,k1]) .bool
  ·obtain rfl:=aU U
   exact .same S (by simp only[Sem.run_bind,hg,Result.andThen_ok,k2]) .bool
theorem abP {b n:Nat}:(∀b',b'≠b→(w.freeze ⟨b,0,none⟩ n).heap[b']? =w.heap[b']?)∧bsize (w.freeze ⟨b,0,none⟩ n) b=bsize w b∧w.heap.size≤(w.freeze ⟨b,0,none⟩ n).heap.size∧(w.freeze ⟨b,0,none⟩ n).os=w.os∧(w.freeze ⟨b,0,none⟩ n).output=w.output:=by
 unfold World.freeze
 split
 ·exact ⟨fun _ _=>rfl,rfl,bU _,rfl,rfl⟩
 ·refine ⟨fun b' hb=> ?_,?_,by simp,rfl,rfl⟩
  ·simp only[Ae]
   rw[ai (fun e=>hb e.symm)]
  ·simp only[bsize,Ae,cU]
   cases w.heap[b]? with
   | none=>rfl
   | some o=>cases o<;>rfl
theorem abQ {e:TypeId} (hb:isByte P e=true):P.underlying e=some (.int .u8):=by
 unfold isByte at hb
 split at hb
 ·assumption
 ·cases hb
theorem abR (S:aI P w I β hp B M w0) {ts:Array TypeId} {ty e:TypeId} {v:Value} {id:Nat} {es:List V} {fz:Bool} (hv:ao P w I β hp v (.whole e id)) (ab:hp id=some (.arr e es fz)) (h0:0<es.length):
  da P ((Builtin.unsafeSliceData_ ts ty #[v]).run P w) w I β hp B M w0 ⟨.ptr id 0 0,[]⟩:=by
 cases hv with
 | eo h=>rw[ab] at h;cases h
 | dP h _=>rw[ab] at h;cases h;simp at h0
 | eF h _ _ _ _=>rw[ab] at h;cases h
 | @whole _ _ aP nB b cap h hb cg hle hm=>
  rw[ab] at h;cases h
  refine .same S (Lib.run_unsafeSliceData_row w ts ty ⟨b,0,none⟩ es.length cap (by omega)) ?_
  have:=ao.ptr (P:=P) (w:=w) (I:=I) (β:=β) (i:=0) (c:=0) ab (by simp) hb
  simpa using this
theorem abS (S:aI P w I β hp B M w0) {t u ty e:TypeId} {vx:Value} {id:Nat} {n:Int} {es:List V} (hu:P.underlying t=some (.pointer e)) (hb:isByte P e=true) (hv:ao P w I β hp vx (.ptr id 0 0))
  (ab:hp id=some (.arr e es false)) (h0:0<n) (hn:n≤es.length) (hm:n.toNat≤nz) (kB:(es.take n.toNat).all xp=true):da P ((Builtin.unsafeString_ #[t,u] ty #[vx,.int .i64 n]).run P w) w I β hp B M w0 ⟨.str (kZ (es.take n.toNat)),[(id,.dead)]⟩:=by
 obtain ⟨b,KO,rfl⟩:=hv.gY ab (by simp)
 have he:P.underlying e=some (.int .u8):=by
  unfold isByte at hb
  split at hb
  ·assumption
  ·cases hb
 have nR:bL P e=false:=by simp[bL,he]
 have hr:=S.h.rel id _ ab
 rw[KO] at hr
 cases hr with
 | dQ aB=>cases aB
 | @arr _ _ _ b1 Ca ay lZ hh hs hI cV cX=>
  cases lZ
  have h1:P.cellsOf e=1:=by rw[←(kz ay).1,AQ nR];rfl
  have aT:=S.aar ab (by simp) KO
  have hl:(kZ (es.take n.toNat)).length=n.toNat:=by simp[kZ];omega
  have KL:n=((kZ (es.take n.toNat)).length:Nat):=by rw[hl];omega
  have c8:=Lib.run_unsafeString_row (P:=P) w t u ty e hu h1 b Ca.size (by simp[World.shape?,hh]) (kZ (es.take n.toNat)) (fun h=>by rw[h] at hl;simp at hl;omega) (by rw[hl];rw[h1] at hs;omega) (by rw[hl];unfold nz at hm;omega) (fun j x hx=>by
   have hj:j<n.toNat:=by
    have:=(bu.1 hx).1
    rw[hl] at this;exact this
   have iE:j<es.length:=by omega
   simp only[kZ,gC,fe hj,bN iE,Option.map_some,ec] at hx
   obtain ⟨v,xR,bx⟩:=cX j 0 es[j] e (bN iE) (by simp[ba,nR]) (by omega)
   rw[h1] at xR
   simp only[bQ,nR,cond_false] at bx
   have:=Q5 he bx
   have hr:=fc.1 kB es[j] (jJ (by rw[fe hj];exact bN iE))
   simp only[xp,aN,dW] at hr
   have nM:(x.toNat:Int)=es[j].toInt:=by
    rw[←hx]
    have:es[j].toInt.toNat<256:=by omega
    simp only[UInt8.toNat_ofNat']
    omega
   rw[nK,cell?_cells hh,nM]
   rw[show 0+j=j*1+0 by omega,xR,this])
  obtain ⟨f1,f2,f3,f4,f5⟩:=abP (w:=w) (b:=b) (n:=n.toNat)
  obtain ⟨k1,k2⟩:=Fw (w':=w.freeze ⟨b,0,none⟩ n.toNat) S ab (by simp) (blk':= .dead) (by trivial) KO (cV rfl) (by simp) f1 f2 f3 ⟨f4,f5⟩ (fun _=> .dead)
  rw[←KL,hl] at c8
  refine ⟨.string ⟨(kZ (es.take n.toNat)).toArray⟩,_,I,β,?_,k1,k2,.str ?_⟩
  ·simpa using c8
  ·rfl
def KP:Op→Bool
 | .call {callee:= .value (.func _),..}=>true
 | .call {callee:= .value (.tmp _),..}=>true
 | .defer _=>true
 | _=>false
theorem pR.val {o:Oper} {a:Act} {s:Sem Value} {r:R} (he:execOp a.eval o=(do Pure.pure (Next.value (←s)))) (h:da P (s.run P w) w I β hp B M w0 r):pR P ((execOp a.eval o).run P w) w I β hp B M w0 r:=by
 rw[he];exact h.op
theorem abT {A:cP} (S:aI P w I β hp B M w0) (hg:gV P A.aF w I) {a:Act} {sl:Nat→V} (hs:lf P w I β hp a sl) {ix nb:Nat} {o:Oper} (KQ:KP o.op=false) {r:R} {rd:List Nat}
  (h:(fH P A sl ix nb o).run C hp=some (r,rd)):pR P ((execOp a.eval o).run P w) w I β hp B M w0 r:=by
 obtain ⟨dst,op,ty,pos,after,guard⟩:=o
 cases op<;>simp only[fH] at h<;>first|(cases h;done)|skip
 case move x=>
  obtain rfl:=aU h
  exact ⟨_,w,I,β,.inl (by simp[execOp]),Le.refl w I β hp,S,hs.ev hg ty x⟩
 case assign x=>
  obtain rfl:=aU h
  exact ⟨_,w,I,β,.inl (by simp[execOp]),Le.refl w I β hp,S,hs.ev hg ty x⟩
 case pick c x y=>
  have hc:=hs.ev hg ty c
  cases uX:aW P A.aF ty sl c<;>rw[uX] at h hc<;>simp only at h<;>first|(cases h;done)|skip
  rename_i t
  have abU:=hc.kA
  have hx:=hs.ev hg ty x
  have hy:=hs.ev hg ty y
  have fin: ∀z:V,ao P w I β hp (if t then a.eval x else a.eval y) z→pR P ((execOp a.eval ⟨dst,.pick c x y,ty,pos,after,guard⟩).run P w) w I β hp B M w0 ⟨z,[]⟩:=by
   intro z hz
   exact ⟨_,w,I,β,.inl (by simp[execOp,abU,asBool]),Le.refl w I β hp,S,hz⟩
  cases Q6:gone (aW P A.aF ty sl x) with
  | true=>
   rw[Q6] at h
   obtain ⟨h1,h⟩:=aK h
   obtain rfl:=aU h
   have:t=false:=by simpa using h1
   subst this
   refine fin _ ?_
   simpa using hy
  | false=>
   rw[Q6] at h
   simp only[cond_false] at h
   cases F7:gone (aW P A.aF ty sl y) with
   | true=>
    rw[F7] at h
    obtain ⟨h1,h⟩:=aK h
    obtain rfl:=aU h
    subst h1
    refine fin _ ?_
    simpa using hx
   | false=>
    rw[F7] at h
    obtain rfl:=aU h
    exact fin _ (P0 hx hy)
 case makeFunc fn x y=>
  cases fn<;>simp only[fH] at h<;>first|(cases h;done)|skip
  rename_i f
  obtain rfl:=aU h
  refine ⟨.func (.func f) (x.map a.eval) (y.map a.eval),w,I,β,.inl (by simp[execOp,Instr.makeFunc]),Le.refl w I β hp,S,.fn (by simp) (fun j v z hj hz=> ?_) (by simp) (fun j v z hj hz=> ?_)⟩
  ·rw[Array.getElem?_map] at hj
   rw[gC,sG] at hz
   cases hx:x[j]? with
   | none=>rw[hx] at hj;cases hj
   | some o1=>
    rw[hx] at hj hz
    cases hj
    cases hz
    exact hs.ev hg ty o1
  ·rw[Array.getElem?_map] at hj
   rw[gC,sG] at hz
   cases hx:y[j]? with
   | none=>rw[hx] at hj;cases hj
   | some o1=>
    rw[hx] at hj hz
    cases hj
    cases hz
    exact hs.ev hg ty o1
 case defer c=>cases KQ
 case makeMap t res=>
  cases res with
  | some x=>cases h
  | none=>exact .val rfl (aby S h)
 case lookup t m k ok=>
  cases ht:lQ P t with
  | none=>rw[ht] at h;cases h
  | some q=>
   obtain ⟨kt,vt⟩:=q
   rw[ht] at h
   exact .val (s:=Instr.lookup t (a.eval m) (a.eval k) ok) rfl (abx S ht (hs.ev hg t m) (hs.ev hg kt k) h)
 case mapUpdate t m k x=>
  cases ht:lQ P t with
  | none=>rw[ht] at h;cases h
  | some q=>
   obtain ⟨kt,vt⟩:=q
   rw[ht] at h
   have:=QY S ht (hs.ev hg t m) (hs.ev hg kt k) (hs.ev hg vt x) h
   exact this.op
 case insert t m k x=>
  cases ht:lQ P t with
  | none=>rw[ht] at h;cases h
  | some q=>
   obtain ⟨kt,vt⟩:=q
   rw[ht] at h
   have:=QY S ht (hs.ev hg t m) (hs.ev hg kt k) (hs.ev hg vt x) h
   exact this.op
 case alloc e=>
  exact .val rfl (aaY S h)
 case box e x=>
  exact .val rfl (aaZ S (hs.ev hg e x) h)
 case build t ps=>exact .val rfl (aa1 S hs hg h)
 case buildSlice t len ps=>
  cases hu:P.underlying t with
  | none=>rw[hu] at h;cases h
  | some d=>
   rw[hu] at h
   cases d<;>simp only at h<;>first|(cases h;done)|skip
   exact .val rfl (aa7 S hs hg hu h)
 case load t x=>exact .val rfl (aaF S (hs.ev hg ty x) h)
 case store t x y=>
  have:=aaW S (hs.ev hg ty x) (hs.ev hg t y) h
  exact this.op
 case nilCheck x=>
  have hx:=hs.ev hg ty x
  cases fu:aW P A.aF ty sl x<;>rw[fu] at h hx<;>simp only at h<;>first|(cases h;done)|skip
  ·obtain ⟨⟨blk,ab,hd⟩,l,h⟩:=xC h
   obtain rfl:=aU h
   have cE:=hx
   obtain ⟨b,hb,he⟩:=hx.gY ab hd
   rw[he] at cE
   exact ⟨_,w,I,β,.inl (by simp only[execOp,he];rfl),Le.refl w I β hp,S,cE⟩
  ·obtain rfl:=aU h
   have cE:=hx
   obtain ⟨b,o,he,_⟩:=hx.Fz
   rw[he] at cE
   exact ⟨_,w,I,β,.inl (by simp only[execOp,he];rfl),Le.refl w I β hp,S,cE⟩
  ·obtain ⟨e0,es,aq,l,ab,h1,U,h3,h⟩:=oQ h
   obtain rfl:=aU h
   have cE:=hx
   obtain ⟨b,o,he,_⟩:=hx.PY ab h1 U h3
   rw[he] at cE
   exact ⟨_,w,I,β,.inl (by simp only[execOp,he];rfl),Le.refl w I β hp,S,cE⟩
 case binOp op t x y yt=>
  have hx:=hs.ev hg t x
  have hy:=hs.ev hg t y
  refine .val (s:=do eqGuard op t x y (a.eval x) (a.eval y);binOp op t (a.eval x) (a.eval y)) rfl ?_
  cases fu:aW P A.aF t sl x<;>cases tc:aW P A.aF t sl y<;>rw[fu,tc] at h<;>rw[fu] at hx<;>rw[tc] at hy<;>first|(simp only[km] at h;cases h;done)|skip
  ·rw[hx.et,hy.et]
   have:=aaw S h
   simpa[aat] using this
  ·rw[hx.kA,hy.kA]
   have:=aay S h
   simpa[aau] using this
  ·obtain ⟨s1,e1,l1⟩:=hx.mG
   obtain ⟨s2,e2,l2⟩:=hy.mG
   rw[e1,e2]
   rw[←l1,←l2] at h
   have:=aaz (t:=t) S h
   simpa[aav] using this
  ·obtain ⟨cs,e1,h1,U⟩:=hx.lh
   obtain ⟨ds,e2,h3,h4⟩:=hy.lh
   rw[e1,e2]
   exact aaA S h1 h3 U h4 h
  ·
   simp only[km] at h
   obtain ⟨h1,U⟩:=aK h
   clear h
   simp only[aN,a8] at h1
   obtain ⟨rfl,rfl,rfl⟩:=h1
   obtain ⟨⟨blk,ab,hd⟩,l,h⟩:=xC U
   obtain ⟨b,hb,e1⟩:=hx.gY ab hd
   obtain ⟨b',aB,e2⟩:=hy.gY ab hd
   rw[hb] at aB;cases aB
   rw[e1,e2]
   exact F6 S h (by cases op<;>simp[eqGuard]) fun e j he hj=>⟨run_eql_ptr_same w _ he hj,Lib.run_neq_ptr_same w _ he hj⟩
  ·simp only[km] at h
   obtain ⟨⟨blk,ab,hd⟩,l,h⟩:=xC h
   obtain ⟨b,_,e1⟩:=hx.gY ab hd
   rw[e1,hy.F5]
   exact F6 S h (by cases op<;>simp[eqGuard]) fun e j he hj=>⟨abJ w t e _ he,abK w t e _ he⟩
  ·simp only[km] at h
   obtain ⟨⟨blk,ab,hd⟩,l,h⟩:=xC h
   obtain ⟨b,_,e1⟩:=hy.gY ab hd
   rw[e1,hx.F5]
   exact F6 S h (by cases op<;>simp[eqGuard]) fun e j he hj=>⟨abL w t e _ he,abM w t e _ he⟩
  ·simp only[km] at h
   rw[hx.F5,hy.F5]
   exact F6 S h (by cases op<;>simp[eqGuard]) fun e j he hj=>⟨abN w t e he,abO w t e he⟩
  ·
   simp only[km] at h
   obtain ⟨l,h⟩:=run_get h
   split at h
   ·rename_i t2 es ab
    obtain ⟨b,hb⟩:=hx.abC ab
    rw[hy.KM,hb]
    exact Q0 (a:=some b) S x y h
   ·cases h
  ·simp only[km] at h
   rw[hx.KM,hy.KM]
   exact Q0 (a:=none) S x y h
 case unOp op t x=>exact .val rfl (aaB S (hs.ev hg ty x) h)
 case convert src dst x=>
  have hx:=hs.ev hg ty x
  refine .val (s:=convert src dst (a.eval x)) rfl ?_
  cases iZ:P.underlying src with
  | none=>rw[iZ] at h;cases h
  | some d1=>
   cases l8:P.underlying dst with
   | none=>rw[iZ,l8] at h;cases d1<;>cases h
   | some d2=>
    rw[iZ,l8] at h
    have iv: ∀{b:Nat} {T:TypeId} {cs:List V} {id:Nat},hp id=some (.var T cs)→β id=some b→w.shape? b=some (T,cs.length):=by
     intro b T cs id ab hb
     have hr:=S.h.rel id _ ab
     rw[hb] at hr
     cases hr with
     | var aB hh bd _ _ _=>cases aB;simp[World.shape?,hh,bd]
    cases d1<;>(try (cases d2<;>cases h;done))
    ·cases d2<;>(try (cases h;done))
     rename_i k1 k2
     cases fu:aW P A.aF ty sl x<;>rw[fu] at h hx<;>simp only at h<;>first|(cases h;done)|skip
     obtain rfl:=aU h
     rw[hx.et]
     exact .same S (by simp[convert,run_underlying iZ,run_underlying l8,Conv.intToInt]) .int
    ·cases d2<;>(try (cases h;done))
     rename_i u
     cases fu:aW P A.aF ty sl x<;>rw[fu] at h hx<;>simp only at h<;>first|(cases h;done)|skip
     rename_i id i c
     obtain ⟨l,h1⟩:=run_get h
     cases ab:hp id with
     | none=>rw[ab] at h1;cases h1
     | some blk=>
      rw[ab] at h1
      cases blk<;>simp only at h1<;>first|(cases h1;done)|skip
      rename_i T cs
      obtain ⟨U,h3⟩:=aK h1
      simp only[aN,a8] at U
      obtain ⟨rfl,h4,h5⟩:=U
      obtain ⟨b,hb,e1⟩:=hx.gY ab (by simp)
      obtain rfl:=aU h3
      obtain ⟨j,hj⟩:=Ad.1 h4
      have cE:=hx
      rw[e1] at cE⊢
      exact .same S (Lib.run_from_unsafe w _ iZ l8 hj (iv ab hb) (by simpa using h5)) cE
    ·cases d2<;>(try (cases h;done))
     rename_i t
     cases fu:aW P A.aF ty sl x<;>rw[fu] at h hx<;>simp only at h<;>first|(cases h;done)|skip
     rename_i id i c
     obtain ⟨l,h1⟩:=run_get h
     cases ab:hp id with
     | none=>rw[ab] at h1;cases h1
     | some blk=>
      rw[ab] at h1
      cases blk<;>simp only at h1<;>first|(cases h1;done)|skip
      rename_i T cs
      obtain ⟨U,h3⟩:=aK h1
      simp only[aN,a8,jH] at U
      obtain ⟨rfl,h4,h5⟩:=U
      obtain ⟨b,hb,e1⟩:=hx.gY ab (by simp)
      obtain rfl:=aU h3
      cases hj:P.info? t with
      | none=>rw[hj] at h5;cases h5
      | some j=>
       rw[hj] at h5
       simp only[lM] at h5
       have h6:j.size≠0:=fun e=>by rw[e] at h5;cases h5
       have cE:=hx
       rw[e1] at cE⊢
       exact .same S (Lib.run_to_unsafe w _ iZ l8 hj h6 (iv ab hb) (by simpa using h4)) cE
    ·rename_i e
     cases d2<;>(try (cases h;done))
     simp only at h
     cases he:P.underlying e with
     | none=>rw[he] at h;cases h
     | some d3=>
      rw[he] at h
      cases d3<;>(try (cases h;done))
      rename_i k
      cases k<;>(try (cases h;done))
      exact abI S iZ he l8 hx h
 case fieldAddr s x f=>exact .val rfl (aaC S (hs.ev hg ty x) h)
 case field s x f=>exact .val rfl (abj S (hs.ev hg ty x) h)
 case indexAddr t x y=>exact .val rfl (abp S (hs.ev hg ty x) (hs.ev hg 0 y) h)
 case index t x y=>
  have hx:=hs.ev hg ty x
  have hy:=hs.ev hg 0 y
  refine .val (s:=Instr.index t (a.eval x) (a.eval y)) rfl ?_
  cases hu:P.underlying t with
  | none=>rw[hu] at h;cases h
  | some d=>
   rw[hu] at h
   cases d<;>(try (cases h;done))
   cases fu:aW P A.aF ty sl x<;>rw[fu] at h hx<;>(try (cases h;done))
   cases tc:aW P A.aF 0 sl y<;>rw[tc] at h hy<;>(try (cases h;done))
   obtain ⟨s,e1,l1⟩:=hx.mG
   rw[e1,hy.et]
   exact abl S hu l1 h
 case slice t x lo hi mx=>
  cases mx with
  | some m=>
   simp only at h
   refine .val (s:=Instr.sliceAt t (a.eval x) (lo.map a.eval) (hi.map a.eval) (some (a.eval m))) (by simp[execOp]) (abo S (hs.ev hg ty x) (fun hy=> ?_) (fun y hy=> ?_) (fun y hy=> ?_) h)
   ·cases lo with
    | none=>rfl
    | some l=>cases hy
   ·cases hi with
    | none=>cases hy
    | some l=>cases hy;exact ⟨_,rfl,hs.ev hg 0 l⟩
   ·cases hy;exact ⟨_,rfl,hs.ev hg 0 m⟩
  | none=>
   simp only at h
   have plain:(E8 P t (aW P A.aF ty sl x) (lo.map (aW P A.aF 0 sl)) (hi.map (aW P A.aF 0 sl))).run C hp=some (r,rd)→pR P ((execOp a.eval ⟨dst,.slice t x lo hi none,ty,pos,after,guard⟩).run P w) w I β hp B M w0 r:=by
    intro h
    refine .val (s:=Instr.sliceAt t (a.eval x) (lo.map a.eval) (hi.map a.eval) none) (by simp[execOp]) (abn S (hs.ev hg ty x) (fun y hy=> ?_) (fun y hy=> ?_) (fun hy=> ?_) (fun hy=> ?_) h)
    ·cases lo with
     | none=>cases hy
     | some l=>cases hy;exact ⟨_,rfl,hs.ev hg 0 l⟩
    ·cases hi with
     | none=>cases hy
     | some l=>cases hy;exact ⟨_,rfl,hs.ev hg 0 l⟩
    ·cases lo with
     | none=>rfl
     | some l=>cases hy
    ·cases hi with
     | none=>rfl
     | some l=>cases hy
   have tr:(E9 P nb t (aW P A.aF ty sl x) (lo.map (aW P A.aF 0 sl)) (hi.map (aW P A.aF 0 sl))).run C hp=some (r,rd)→pR P ((execOp a.eval ⟨dst,.slice t x lo hi none,ty,pos,after,guard⟩).run P w) w I β hp B M w0 r:=by
    intro h
    refine .val (s:=Instr.sliceAt t (a.eval x) (lo.map a.eval) (hi.map a.eval) none) (by simp[execOp]) (abr S (hs.ev hg ty x) (fun y hy=> ?_) (fun hy=> ?_) h)
    ·cases hi with
     | none=>cases hy
     | some l=>cases hy;exact ⟨_,rfl,hs.ev hg 0 l⟩
    ·cases lo with
     | none=>rfl
     | some l=>cases hy
   cases dst with
   | none=>exact plain h
   | some d=>
    simp only at h
    cases Q7:ki A.xg d with
    | true=>rw[Q7] at h;exact tr h
    | false=>rw[Q7] at h;exact plain h
 case extract x i=>
  have hx:=hs.ev hg ty x
  cases fu:aW P A.aF ty sl x<;>rw[fu] at h hx<;>simp only at h<;>first|(cases h;done)|skip
  exact .val (s:=Instr.extract (a.eval x) i) rfl (abk S hx h)
 case makeSlice t l c=>
  have hl:=hs.ev hg 0 l
  have hc:=hs.ev hg 0 c
  refine .val (s:=Instr.makeSlice t (a.eval l) (a.eval c)) rfl ?_
  cases hu:P.underlying t with
  | none=>rw[hu] at h;cases h
  | some d=>
   rw[hu] at h
   cases d<;>(try (cases h;done))
   cases KR:aW P A.aF 0 sl l<;>rw[KR] at h hl<;>(try (cases h;done))
   cases uX:aW P A.aF 0 sl c<;>rw[uX] at h hc<;>(try (cases h;done))
   rw[hl.et,hc.et]
   cases dst with
   | none=>exact QA S hu h
   | some d=>
    simp only at h
    cases hg:ki A.xg d with
    | true=>rw[hg] at h;exact aa9 S hu h
    | false=>rw[hg] at h;exact QA S hu h
 case call c=>
  obtain ⟨callee,args,argTypes⟩:=c
  cases callee with
  | invoke r m=>cases h
  | value f=>
   cases f with
   | func f=>cases KQ
   | tmp f=>cases KQ
   | _=>cases h
  | builtin b=>
   have one: ∀{x:Operand},args.toList=[x]→args= #[x]:=fun h=>by rw[←Array.toArray_toList (xs:=args),h]
   have rJ: ∀(s:Array TypeId→TypeId→Array Value→Sem Value),builtin b argTypes ty (args.map fun| .const _=>true|_=>false) (args.map a.eval)=(do Pure.pure (Next.value (←s argTypes ty (args.map a.eval))))→
     execOp a.eval ⟨dst,.call ⟨.builtin b,args,argTypes⟩,ty,pos,after,guard⟩=(do Pure.pure (Next.value (←s argTypes ty (args.map a.eval)))):=by
    intro s hb
    simp only[execOp,resolve,pure_bind,invoke]
    exact hb
   cases b<;>(try (cases h;done))
   case append=>
    simp only at h
    cases ha:args.toList with
    | nil=>rw[ha] at h;cases h
    | cons x l=>
     cases l with
     | nil=>rw[ha] at h;cases h
     | cons y l2=>
      cases l2 with
      | cons _ _=>rw[ha] at h;cases h
      | nil=>
       cases dr:argTypes.toList with
       | nil=>rw[ha,dr] at h;cases h
       | cons t l3=>
        cases l3 with
        | nil=>rw[ha,dr] at h;cases h
        | cons u l4=>
         cases l4 with
         | cons _ _=>rw[ha,dr] at h;cases h
         | nil=>
          rw[ha,dr] at h
          simp only at h
          have e1:args= #[x,y]:=by rw[←Array.toArray_toList (xs:=args),ha]
          have e2:argTypes= #[t,u]:=by rw[←Array.toArray_toList (xs:=argTypes),dr]
          cases hu:P.underlying t with
          | none=>rw[hu] at h;cases h
          | some d=>
           rw[hu] at h
           cases d<;>(try (cases h;done))
           cases hc:Nat.beq t u with
           | true=>
            rw[hc] at h
            rw[a8] at hc
            subst hc
            have:=abb (ty:=ty) S hu (hs.ev hg t x) (hs.ev hg t y) h
            refine .val (rJ Builtin.append_ rfl) ?_
            rw[e1,e2]
            simpa using this
           | false=>
            rw[hc] at h
            simp only[cond_false] at h
            have hy:=hs.ev hg u y
            cases oY:P.underlying u with
            | none=>rw[oY] at h;cases h
            | some du=>
             rw[oY] at h
             cases du<;>(try (cases h;done))
             cases tc:aW P A.aF u sl y<;>rw[tc] at h hy<;>(try (cases h;done))
             simp only at h
             obtain ⟨hb,h⟩:=aK h
             obtain ⟨s1,q1,q2⟩:=hy.mG
             subst q2
             have:=abH (ty:=ty) S hu oY (abQ hb) (hs.ev hg t x) h
             refine .val (rJ Builtin.append_ rfl) ?_
             rw[e1,e2]
             simpa[q1] using this
   case len=>
    simp only at h
    cases ha:args.toList with
    | nil=>rw[ha] at h;cases h
    | cons x l=>
     cases l with
     | cons _ _=>rw[ha] at h;cases h
     | nil=>
      cases dr:argTypes.toList with
      | nil=>rw[ha,dr] at h;cases h
      | cons t l3=>
       cases l3 with
       | cons _ _=>rw[ha,dr] at h;cases h
       | nil=>
        rw[ha,dr] at h
        simp only at h
        have e1:args= #[x]:=by rw[←Array.toArray_toList (xs:=args),ha]
        have e2:argTypes= #[t]:=by rw[←Array.toArray_toList (xs:=argTypes),dr]
        have hx:=hs.ev hg ty x
        refine .val (rJ Builtin.len_ rfl) ?_
        rw[e1,e2]
        cases hu:P.underlying t with
        | none=>rw[hu] at h;cases h
        | some d=>
         rw[hu] at h
         cases d<;>(try (cases h;done))
         ·cases fu:aW P A.aF ty sl x<;>rw[fu] at h hx<;>(try (cases h;done))
          have:=P1 (t:=t) (ty:=ty) S hx (fun l hl=>hu) (fun hn=>absurd rfl (hn _)) h
          simpa using this
         ·have U:(∀l,aW P A.aF ty sl x≠ .str l)∧(E3 P (aW P A.aF ty sl x)).run C hp=some (r,rd):=by
           cases fu:aW P A.aF ty sl x<;>rw[fu] at h<;>first|(cases h;done)|exact ⟨fun l=>by simp,h⟩
          have:=P1 (t:=t) (ty:=ty) S hx (fun l hl=>absurd hl (U.1 l)) (fun _=>⟨_,hu⟩) U.2
          simpa using this
         ·have U:(E7 (aW P A.aF ty sl x)).run C hp=some (r,rd):=by
           cases fu:aW P A.aF ty sl x<;>rw[fu] at h<;>exact h
          have:=abB (t:=t) (ty:=ty) S hu hx U
          simpa using this
   case unsafeSliceData=>
    simp only at h
    cases ha:args.toList with
    | nil=>rw[ha] at h;cases h
    | cons x l=>
     cases l with
     | cons _ _=>rw[ha] at h;cases h
     | nil=>
      rw[ha] at h
      simp only at h
      have e1:args= #[x]:=by rw[←Array.toArray_toList (xs:=args),ha]
      have hx:=hs.ev hg ty x
      refine .val (rJ Builtin.unsafeSliceData_ rfl) ?_
      rw[e1]
      cases fu:aW P A.aF ty sl x<;>rw[fu] at h hx<;>simp only at h<;>first|(cases h;done)|skip
      rename_i e id
      obtain ⟨l2,h1⟩:=run_get h
      cases ab:hp id with
      | none=>rw[ab] at h1;cases h1
      | some blk=>
       rw[ab] at h1
       cases blk<;>simp only at h1<;>first|(cases h1;done)|skip
       rename_i e' es fz
       obtain ⟨U,h3⟩:=aK h1
       simp only[aN,a8,jH] at U
       obtain ⟨rfl,h4⟩:=U
       obtain rfl:=aU h3
       have:=abR (ts:=argTypes) (ty:=ty) S hx ab h4
       simpa using this
   case unsafeString=>
    simp only at h
    cases ha:args.toList with
    | nil=>rw[ha] at h;cases h
    | cons x l=>
     cases l with
     | nil=>rw[ha] at h;cases h
     | cons y l2=>
      cases l2 with
      | cons _ _=>rw[ha] at h;cases h
      | nil=>
       cases dr:argTypes.toList with
       | nil=>rw[ha,dr] at h;cases h
       | cons t l3=>
        cases l3 with
        | nil=>rw[ha,dr] at h;cases h
        | cons u l4=>
         cases l4 with
         | cons _ _=>rw[ha,dr] at h;cases h
         | nil=>
          rw[ha,dr] at h
          simp only at h
          have e1:args= #[x,y]:=by rw[←Array.toArray_toList (xs:=args),ha]
          have e2:argTypes= #[t,u]:=by rw[←Array.toArray_toList (xs:=argTypes),dr]
          have hx:=hs.ev hg ty x
          have hy:=hs.ev hg ty y
          cases hu:P.underlying t with
          | none=>rw[hu] at h;cases h
          | some d=>
           rw[hu] at h
           cases d<;>(try (cases h;done))
           rename_i e
           cases fu:aW P A.aF ty sl x<;>rw[fu] at h hx<;>(try (cases h;done))
           cases tc:aW P A.aF ty sl y<;>rw[tc] at h hy<;>(try (cases h;done))
           rename_i id i c k n
           cases k<;>(try (cases h;done))
           simp only at h
           obtain ⟨l2,h1⟩:=run_get h
           cases ab:hp id with
           | none=>rw[ab] at h1;cases h1
           | some blk=>
            rw[ab] at h1
            cases blk<;>simp only at h1<;>first|(cases h1;done)|skip
            rename_i e' es fz
            cases fz<;>simp only at h1<;>first|(cases h1;done)|skip
            obtain ⟨U,h3⟩:=aK h1
            simp only[aN,a8,eb,dW] at U
            obtain ⟨rfl,h4,rfl,rfl,h5,h6,h7,h8⟩:=U
            obtain rfl:=aU h3
            have:=abS (u:=u) (ty:=ty) S hu h4 hx ab h5 h6 h7 h8
            refine .val (rJ Builtin.unsafeString_ rfl) ?_
            rw[e1,e2]
            simpa[hy.et] using this
   case copy=>
    simp only at h
    cases ha:args.toList with
    | nil=>rw[ha] at h;cases h
    | cons x l=>
     cases l with
     | nil=>rw[ha] at h;cases h
     | cons y l2=>
      cases l2 with
      | cons _ _=>rw[ha] at h;cases h
      | nil=>
       cases dr:argTypes.toList with
       | nil=>rw[ha,dr] at h;cases h
       | cons t l3=>
        cases l3 with
        | nil=>rw[ha,dr] at h;cases h
        | cons u l4=>
         cases l4 with
         | cons _ _=>rw[ha,dr] at h;cases h
         | nil=>
          rw[ha,dr] at h
          simp only at h
          have e1:args= #[x,y]:=by rw[←Array.toArray_toList (xs:=args),ha]
          have e2:argTypes= #[t,u]:=by rw[←Array.toArray_toList (xs:=argTypes),dr]
          cases hu:P.underlying t with
          | none=>rw[hu] at h;cases h
          | some d=>
           rw[hu] at h
           cases d<;>(try (cases h;done))
           have:=abg (u:=u) (ty:=ty) S hu (hs.ev hg t x) (hs.ev hg u y) h
           refine .val (rJ Builtin.copy_ rfl) ?_
           rw[e1,e2]
           simpa using this
   case clear=>
    simp only at h
    cases ha:args.toList with
    | nil=>rw[ha] at h;cases h
    | cons x l=>
     cases l with
     | cons _ _=>rw[ha] at h;cases h
     | nil=>
      cases dr:argTypes.toList with
      | nil=>rw[ha,dr] at h;cases h
      | cons t l3=>
       cases l3 with
       | cons _ _=>rw[ha,dr] at h;cases h
       | nil=>
        rw[ha,dr] at h
        simp only at h
        have e1:args= #[x]:=by rw[←Array.toArray_toList (xs:=args),ha]
        have e2:argTypes= #[t]:=by rw[←Array.toArray_toList (xs:=argTypes),dr]
        cases hu:P.underlying t with
        | none=>rw[hu] at h;cases h
        | some d=>
         rw[hu] at h
         cases d<;>(try (cases h;done))
         have:=abh (ty:=ty) S hu (hs.ev hg t x) h
         refine .val (rJ Builtin.clear_ rfl) ?_
         rw[e1,e2]
         simpa using this
   case max=>
    simp only at h
    cases ha:args.toList with
    | nil=>rw[ha] at h;cases h
    | cons x l=>
     rw[ha] at h
     simp only at h
     have:=Kx S true (vs:=l.map a.eval) (xs:=l.map (aW P A.aF ty sl)) (hs.ev hg ty x) (by simp) (fun j u y hu hy=>by
      simp only[gC] at hu hy
      cases hl:l[j]? with
      | none=>rw[hl] at hu;cases hu
      | some z=>rw[hl] at hu hy;cases hu;cases hy;exact hs.ev hg ty z) h
     refine .val (rJ Builtin.max_ rfl) ?_
     simpa[Builtin.max_,ha] using this
   case min=>
    simp only at h
    cases ha:args.toList with
    | nil=>rw[ha] at h;cases h
    | cons x l=>
     rw[ha] at h
     simp only at h
     have:=Kx S false (vs:=l.map a.eval) (xs:=l.map (aW P A.aF ty sl)) (hs.ev hg ty x) (by simp) (fun j u y hu hy=>by
      simp only[gC] at hu hy
      cases hl:l[j]? with
      | none=>rw[hl] at hu;cases hu
      | some z=>rw[hl] at hu hy;cases hu;cases hy;exact hs.ev hg ty z) h
     refine .val (rJ Builtin.min_ rfl) ?_
     simpa[Builtin.min_,ha] using this
end
section
variable {P:Program} {A:cP} {w w':World} {I I' I2:Nat→Prop} {μ β β':Nat→Option Nat} {hp hp':Nat→Option an} {C:ae} {B:Nat} {M:Nat→Prop} {w0:Start}
theorem xV: ∀{l m:List Nat},eD.oL l m=true→l=m
 | [],[],_=>rfl
 | [],_::_,h=>by cases h
 | _::_,[],h=>by cases h
 | a::l,b::m,h=>by
  simp only[eD.oL,aN,a8] at h
  rw[h.1,xV h.2]
@[simp] theorem Q8 (n:Nat):k9 (dF n)=n:=by simp[k9,dF,V.toInt]
theorem F8: ∀(path:List (Nat × Nat)) (rest:List V),Ax (path.map (·.2)) ((path.map fun p=>dF p.1)++rest)=path
 | [],_=>rfl
 | p::l,rest=>by
  simp only[cr,List.cons_append,Ax,V.nth,Q8,ek,dL,F8 l rest]
theorem F9 {l:LS} {x:V} {ds:List V} (h:eD l x=some ds):ds.length=l.size∧(l= .qV∨∀rest,iT l (ds++rest)=x):=by
 cases l with
 | qV=>simp only[eD,ec] at h;subst h;exact ⟨rfl,.inl rfl⟩
 | int k=>
  cases x<;>simp only[eD] at h<;>first|(cases h;done)|skip
  rename_i k' n
  by_cases hk:k=k'
  ·subst hk
   simp only[oG,cond_true,ec] at h
   subst h
   exact ⟨rfl,.inr fun _=>rfl⟩
  ·simp[hk] at h
 | bool=>
  cases x<;>simp only[eD] at h<;>first|(cases h;done)|skip
  cases h
  exact ⟨rfl,.inr fun _=>rfl⟩
 | str=>
  cases x<;>simp only[eD] at h<;>first|(cases h;done)|skip
  cases h
  exact ⟨rfl,.inr fun _=>rfl⟩
 | list e=>
  cases x<;>simp only[eD] at h<;>first|(cases h;done)|skip
  rename_i e' es
  cases hb:Nat.beq e e' with
  | false=>rw[hb] at h;cases h
  | true=>
   rw[hb] at h
   rw[a8] at hb
   subst hb
   cases h
   exact ⟨rfl,.inr fun _=>rfl⟩
 | whole e j=>
  cases x<;>simp only[eD] at h<;>first|(cases h;done)|skip
  rename_i e' id
  cases hb:(Nat.beq e e'&&Nat.beq j id) with
  | false=>rw[hb] at h;cases h
  | true=>
   rw[hb] at h
   simp only[aN,a8] at hb
   obtain ⟨rfl,rfl⟩:=hb
   cases h
   exact ⟨rfl,.inr fun _=>rfl⟩
 | sub e j=>
  cases x<;>simp only[eD] at h<;>first|(cases h;done)|skip
  rename_i e' id o n
  cases hb:(Nat.beq e e'&&Nat.beq j id) with
  | false=>rw[hb] at h;cases h
  | true=>
   rw[hb] at h
   simp only[aN,a8] at hb
   obtain ⟨rfl,rfl⟩:=hb
   cases h
   exact ⟨rfl,.inr fun _=>by simp[iT,V.nth]⟩
 | ptr j=>
  cases x<;>simp only[eD] at h<;>first|(cases h;done)|skip
  rename_i id i c
  cases hb:(Nat.beq j id) with
  | false=>rw[hb] at h;cases h
  | true=>
   rw[hb] at h
   rw[a8] at hb
   subst hb
   cases h
   exact ⟨rfl,.inr fun _=>by simp[iT,V.nth]⟩
 | aY j i c=>
  cases x<;>simp only[eD] at h<;>first|(cases h;done)|skip
  rename_i id i' c'
  cases hb:(Nat.beq j id&&(Nat.beq i i'&&Nat.beq c c')) with
  | false=>rw[hb] at h;cases h
  | true=>
   rw[hb] at h
   simp only[aN,a8] at hb
   obtain ⟨rfl,rfl,rfl⟩:=hb
   cases h
   exact ⟨rfl,.inr fun _=>rfl⟩
 | nilS e=>
  cases x<;>simp only[eD] at h<;>first|(cases h;done)|skip
  rename_i e'
  cases hb:Nat.beq e e' with
  | false=>rw[hb] at h;cases h
  | true=>
   rw[hb] at h
   rw[a8] at hb
   subst hb
   cases h
   exact ⟨rfl,.inr fun _=>rfl⟩
 | dA=>
  cases x<;>simp only[eD] at h<;>first|(cases h;done)|skip
  cases h
  exact ⟨rfl,.inr fun _=>rfl⟩
 | cD e j=>
  cases x<;>simp only[eD] at h<;>first|(cases h;done)|skip
  rename_i e' id
  cases hb:(Nat.beq e e'&&Nat.beq j id) with
  | false=>rw[hb] at h;cases h
  | true=>
   rw[hb] at h
   simp only[aN,a8] at hb
   obtain ⟨rfl,rfl⟩:=hb
   cases h
   exact ⟨rfl,.inr fun _=>rfl⟩
 | dE e=>
  cases x<;>simp only[eD] at h<;>first|(cases h;done)|skip
  rename_i e'
  cases hb:Nat.beq e e' with
  | false=>rw[hb] at h;cases h
  | true=>
   rw[hb] at h
   rw[a8] at hb
   subst hb
   cases h
   exact ⟨rfl,.inr fun _=>rfl⟩
 | EW k n=>
  cases x<;>simp only[eD] at h<;>first|(cases h;done)|skip
  rename_i k' m
  cases hb:(decide (k=k')&&decide (m=n)) with
  | false=>rw[hb] at h;cases h
  | true=>
   rw[hb] at h
   simp only[aN,dW] at hb
   obtain ⟨rfl,rfl⟩:=hb
   cases h
   exact ⟨rfl,.inr fun _=>rfl⟩
 | EX b=>
  cases x<;>simp only[eD] at h<;>first|(cases h;done)|skip
  rename_i c
  cases hb:decide (b=c) with
  | false=>rw[hb] at h;cases h
  | true=>
   rw[hb] at h
   obtain rfl:=gP hb
   cases h
   exact ⟨rfl,.inr fun _=>rfl⟩
 | row e j cs=>
  cases x<;>simp only[eD] at h<;>first|(cases h;done)|skip
  rename_i e' id ver path
  cases hb:(Nat.beq e e'&&(Nat.beq j id&&(Nat.beq ver 0&&eD.oL cs (path.map (·.2))))) with
  | false=>rw[hb] at h;cases h
  | true=>
   rw[hb] at h
   simp only[aN,a8] at hb
   obtain ⟨rfl,rfl,rfl,oS⟩:=hb
   have:=xV oS
   subst this
   cases h
   exact ⟨by simp[LS.size],.inr fun rest=>by simp only[iT,F8]⟩
 | cK j cs c=>
  cases x<;>simp only[eD] at h<;>first|(cases h;done)|skip
  rename_i id ver path i c'
  cases hb:(Nat.beq j id&&(Nat.beq ver 0&&(Nat.beq c c'&&eD.oL cs (path.map (·.2))))) with
  | false=>rw[hb] at h;cases h
  | true=>
   rw[hb] at h
   simp only[aN,a8] at hb
   obtain ⟨rfl,rfl,rfl,oS⟩:=hb
   have:=xV oS
   subst this
   cases h
   exact ⟨by simp[LS.size],.inr fun rest=>by simp only[iT,List.cons_append,V.nth,Q8,ek,dL,F8]⟩
def LS.below (n:Nat) (x:V):Prop:= ∀id∈eE x,id<n
def Q9:V→Prop
 | .agg _=>False
 | .bm _=>False
 | .fn .. =>False
 | .pref .. =>False
 | _=>True
theorem u7 {c:Bool} {a d:List V} (h:(bif c then some a else none)=some d):c=true:=by
 cases c with
 | true=>rfl
 | false=>cases h
theorem abV {l:LS} {x:V} {ds:List V} {n:Nat} (h:eD l x=some ds) (hl:l≠ .qV) (ay:l.ok n=true):Q9 x∧LS.below n x:=by
 cases l<;>cases x<;>simp only[eD] at h<;>first|(cases h;done)|(exact absurd rfl hl)|skip
 all_goals refine ⟨trivial,fun id ab=> ?_⟩
 all_goals simp only[eE,ez,List.not_mem_nil] at ab
 all_goals subst ab
 all_goals simp only[LS.ok,jH] at ay
 all_goals
  have hb:=u7 h
  simp only[aN,a8] at hb
  omega
theorem ao.abW {v:Value} {x:V} (h:ao P w I β hp v x) (hx:Q9 x) (hs: ∀id∈eE x,hp' id=hp id∧β' id=β id):ao P w I β' hp' v x:=by
 have one: ∀{id},id∈eE x→hp' id=hp id∧β' id=β id:=fun h=>hs _ h
 cases h with
 | undef=>exact .undef
 | int=>exact .int
 | bool=>exact .bool
 | str h=>exact .str h
 | list h=>exact .list h
 | nilS=>exact .nilS
 | agg=>exact hx.elim
 | bm=>exact hx.elim
 | dA=>exact .dA
 | fn=>exact hx.elim
 | pref=>exact hx.elim
 | eo h=>exact .eo ((one (by simp[eE])).1.trans h)
 | gp h=>exact .gp ((one (by simp[eE])).1.trans h)
 | ku h=>exact .ku ((one (by simp[eE])).1.trans h)
 | dP h hb=>exact .dP ((one (by simp[eE])).1.trans h) ((one (by simp[eE])).2.trans hb)
 | whole h hb a b c=>exact .whole ((one (by simp[eE])).1.trans h) ((one (by simp[eE])).2.trans hb) a b c
 | eF h hb a b c=>exact .eF ((one (by simp[eE])).1.trans h) ((one (by simp[eE])).2.trans hb) a b c
 | fY h hb=>exact .fY ((one (by simp[eE])).1.trans h) ((one (by simp[eE])).2.trans hb)
 | sub h hb a b c=>exact .sub ((one (by simp[eE])).1.trans h) ((one (by simp[eE])).2.trans hb) a b c
 | ptr h hd hb=>exact .ptr ((one (by simp[eE])).1.trans h) hd ((one (by simp[eE])).2.trans hb)
 | jN h rF=>exact .jN ((one (by simp[eE])).1.trans h) rF
 | jO h rF=>exact .jO ((one (by simp[eE])).1.trans h) rF
 | row h hb a b c d=>exact .row ((one (by simp[eE])).1.trans h) ((one (by simp[eE])).2.trans hb) a b c d
 | cK h hb a b c d e=>exact .cK ((one (by simp[eE])).1.trans h) ((one (by simp[eE])).2.trans hb) a b c d e
 | dE=>exact .dE
 | iD h=>exact .iD ((one (by simp[eE])).1.trans h)
 | cD h hb=>exact .cD ((one (by simp[eE])).1.trans h) ((one (by simp[eE])).2.trans hb)
theorem nS {a b:List V} {n:Nat} (h:a.length=n):(a++b).drop n=b:=by subst h;simp
def Bf (n:Nat) (β:Nat→Option Nat) (hp:Nat→Option an) (β':Nat→Option Nat) (hp':Nat→Option an):Prop:= ∀id,id<n→hp' id=hp id∧β' id=β id
theorem Ra {l:LS} {x:V} {ds:List V} {n:Nat} {v:Value} (h:eD l x=some ds) (ay:l.ok n=true) (jg:Bf n β hp β' hp') (hv:ao P w I β hp v x) (rest:List V):
  ao P w I β' hp' v (iT l (ds++rest)):=by
 rcases (F9 h).2 with e|e
 ·subst e;exact .undef
 ·rw[e rest]
  by_cases hu:l= .qV
  ·subst hu
   have:x= .undef:=(e rest).symm
   subst this
   exact .undef
  ·obtain ⟨h1,U⟩:=abV h hu ay
   exact hv.abW h1 fun id ab=>jg id (U id ab)
theorem Bg {n:Nat} (jg:Bf n β hp β' hp'): ∀{ls:List LS} {xs:List V} {ds:List V},pM ls xs=some ds→ls.all (LS.ok n)=true→
  ds.length=ko ls∧(∀rest,(iw ls (ds++rest)).length=xs.length)∧
  ∀(rest:List V) (j:Nat) (v:Value) (y:V),(∀x,xs[j]? =some x→ao P w I β hp v x)→(iw ls (ds++rest))[j]? =some y→ao P w I β' hp' v y
 | [],[],ds,h,_=>by cases h;exact ⟨rfl,fun _=>rfl,fun rest j v y _ hy=>by simp[iw] at hy⟩
 | [],_::_,ds,h,_=>by cases h
 | _::_,[],ds,h,_=>by cases h
 | l::ls,x::xs,ds,h,ay=>by
  simp only[pM] at h
  obtain ⟨a,h1,h⟩:=bind_some h
  obtain ⟨b,U,h⟩:=bind_some h
  cases h
  simp only[List.all_cons,aN] at ay
  obtain ⟨i1,i2,i3⟩:=Bg jg U ay.2
  have cq:=(F9 h1).1
  have hd: ∀rest,(a++b++rest).drop l.size=b++rest:=fun rest=>by rw[cv];exact nS cq
  refine ⟨by simp only[cz,ko];omega,fun rest=>by simp only[iw,List.length_cons,hd,i2],fun rest j v y hv hy=> ?_⟩
  simp only[iw,hd] at hy
  cases j with
  | zero=>
   simp at hy
   subst hy
   exact Ra h1 ay.1 jg (hv x rfl) _
  | succ j=>exact i3 rest j v y (fun x hx=>hv x (by simpa using hx)) (by simpa using hy)
theorem KS: ∀{ls:List LS} {xs:List V} {ds:List V},pM ls xs=some ds→ls.all LS.plain=true→ds.length=ko ls∧∀rest,iw ls (ds++rest)=xs
 | [],[],ds,h,_=>by cases h;exact ⟨rfl,fun _=>rfl⟩
 | [],_::_,ds,h,_=>by cases h
 | _::_,[],ds,h,_=>by cases h
 | l::ls,x::xs,ds,h,ay=>by
  simp only[pM] at h
  obtain ⟨a,h1,h⟩:=bind_some h
  obtain ⟨b,U,h⟩:=bind_some h
  cases h
  simp only[List.all_cons,aN] at ay
  obtain ⟨i1,i2⟩:=KS U ay.2
  obtain ⟨cq,hm⟩:=F9 h1
  refine ⟨by simp only[cz,ko];omega,fun rest=> ?_⟩
  simp only[iw]
  rw[show (a++b++rest).drop l.size=b++rest by rw[cv];exact nS cq,i2,cv]
  rcases hm with e|e
  ·subst e;cases ay.1
  ·rw[e]
theorem KT {n:Nat} (jg:Bf n β hp β' hp') {s:VS} {x:V} {ds:List V} (h:pN s x=some ds) (ay:s.ok n=true):
  ds.length=s.size∧∀(rest:List V) (v:Value),ao P w I β hp v x→ao P w I β' hp' v (lb s (ds++rest)):=by
 cases s with
 | one l=>exact ⟨(F9 h).1,fun rest v hv=>Ra h ay jg hv rest⟩
 | agg ls=>
  cases x<;>simp only[pN] at h<;>first|(cases h;done)|skip
  rename_i xs
  obtain ⟨i1,i2,i3⟩:=Bg (P:=P) (w:=w) (I:=I) jg h ay
  refine ⟨i1,fun rest v hv=> ?_⟩
  obtain ⟨cs,rfl,e1,e2⟩:=hv.lh
  exact .agg (by rw[i2];exact e1) fun j v y hj hy=>i3 rest j v y (fun x hx=>e2 j v x hj hx) hy
 | bm ls=>
  cases x<;>simp only[pN] at h<;>first|(cases h;done)|skip
  rename_i xs
  obtain ⟨i1,i2,i3⟩:=Bg (P:=P) (w:=w) (I:=I) jg h ay
  refine ⟨i1,fun rest v hv=> ?_⟩
  obtain ⟨cs,rfl,e1,e2⟩:=hv.uO
  exact .bm (by rw[i2];exact e1) fun j v y hj hy=>i3 rest j v y (fun x hx=>e2 j v x hj hx) hy
 | fn f a b=>
  cases x<;>simp only[pN] at h<;>first|(cases h;done)|skip
  rename_i f' xs ys
  cases hb:Nat.beq f f' with
  | false=>rw[hb] at h;cases h
  | true=>
   rw[hb] at h
   rw[a8] at hb
   subst hb
   simp only[cond_true] at h
   obtain ⟨p,h1,h⟩:=bind_some h
   obtain ⟨q,U,h⟩:=bind_some h
   cases h
   simp only[VS.ok,aN] at ay
   obtain ⟨i1,i2,i3⟩:=Bg (P:=P) (w:=w) (I:=I) jg h1 ay.1
   obtain ⟨j1,j2,j3⟩:=Bg (P:=P) (w:=w) (I:=I) jg U ay.2
   refine ⟨by simp only[cz,VS.size];omega,fun rest v hv=> ?_⟩
   cases hv with
   | fn a1 a2 b1 b2=>
    simp only[lb]
    rw[show (p++q++rest).drop (ko a)=q++rest by rw[cv];exact nS i1,cv]
    exact .fn (by rw[i2];exact a1) (fun j v y hj hy=>i3 _ j v y (fun x hx=>a2 j v x hj hx) hy) (by rw[j2];exact b1) (fun j v y hj hy=>j3 _ j v y (fun x hx=>b2 j v x hj hx) hy)
 | pref ts ls=>
  cases x<;>simp only[pN] at h<;>first|(cases h;done)|skip
  rename_i xn xs
  cases hb:eD.oL ts xn with
  | false=>rw[hb] at h;cases h
  | true=>
   rw[hb] at h
   have:=xV hb
   subst this
   simp only[cond_true] at h
   refine ⟨?_,fun rest v hv=> ?_⟩
   ·exact (KS h ay).1
   ·simp only[lb]
    rw[(KS h ay).2]
    cases hv with
    | pref hl hI hc=>exact .pref hl hI hc
theorem Bh {n:Nat} (jg:Bf n β hp β' hp'): ∀{ls:List VS} {xs:List V} {ds:List V},sC ls xs=some ds→ls.all (VS.ok n)=true→
  ds.length=sQ ls∧(∀rest,(fG ls (ds++rest)).length=xs.length)∧
  ∀(rest:List V) (j:Nat) (v:Value) (y:V),(∀x,xs[j]? =some x→ao P w I β hp v x)→(fG ls (ds++rest))[j]? =some y→ao P w I β' hp' v y
 | [],[],ds,h,_=>by cases h;exact ⟨rfl,fun _=>rfl,fun rest j v y _ hy=>by simp[fG] at hy⟩
 | [],_::_,ds,h,_=>by cases h
 | _::_,[],ds,h,_=>by cases h
 | l::ls,x::xs,ds,h,ay=>by
  simp only[sC] at h
  obtain ⟨a,h1,h⟩:=bind_some h
  obtain ⟨b,U,h⟩:=bind_some h
  cases h
  simp only[List.all_cons,aN] at ay
  obtain ⟨i1,i2,i3⟩:=Bh jg U ay.2
  obtain ⟨cq,xR⟩:=KT (P:=P) (w:=w) (I:=I) jg h1 ay.1
  have hd: ∀rest,(a++b++rest).drop l.size=b++rest:=fun rest=>by rw[cv];exact nS cq
  refine ⟨by simp only[cz,sQ];omega,fun rest=>by simp only[fG,List.length_cons,hd,i2],fun rest j v y hv hy=> ?_⟩
  simp only[fG,hd] at hy
  cases j with
  | zero=>
   simp at hy
   subst hy
   exact xR _ v (hv x rfl)
  | succ j=>exact i3 rest j v y (fun x hx=>hv x (by simpa using hx)) (by simpa using hy)
end
section
variable {P:Program} {A:cP} {w w':World} {I I' I2:Nat→Prop} {μ β β':Nat→Option Nat} {hp hp' hp0:Nat→Option an} {C:ae} {B:Nat} {M:Nat→Prop} {w0:Start}
theorem hY: ∀{l:List an} {j:Nat},jL l j=l[j]?
 | [],j=>by simp[jL]
 | b::l,0=>rfl
 | b::l,j+1=>by simp only[jL,hY,List.getElem?_cons_succ]
theorem KU {sl:Nat→V} {k:Nat} {y:V}: ∀{l:List (Nat × VS)} {ds:List V},Av sl l=some ds→(∀p∈l,∀d,pN p.2 (sl p.1)=some d→d.length=p.2.size)→
  ds.length=oM l∧∀rest,dO (fm l (ds++rest)) k=some y→∃s d gx,(k,s)∈l∧pN s (sl k)=some d∧y=lb s (d++gx)
 | [],ds,h,_=>by cases h;exact ⟨rfl,fun rest h=>by cases h⟩
 | (q,s)::l,ds,h,hz=>by
  simp only[Av] at h
  obtain ⟨a,h1,h⟩:=bind_some h
  obtain ⟨b,U,h⟩:=bind_some h
  cases h
  obtain ⟨i1,i2⟩:=KU (k:=k) (y:=y) U fun p hp=>hz p (lL _ hp)
  have cq:=hz (q,s) (sH ..) a h1
  refine ⟨by simp only[cz,oM];simp only at cq;omega,fun rest hl=> ?_⟩
  simp only[fm,dO] at hl
  rw[show (a++b++rest).drop s.size=b++rest by rw[cv];exact nS cq] at hl
  cases hb:Nat.beq k q with
  | true=>
   rw[hb] at hl
   rw[a8] at hb
   subst hb
   cases hl
   exact ⟨s,a,b++rest,sH ..,h1,by rw[cv]⟩
  | false=>
   rw[hb] at hl
   obtain ⟨s',d,gx,m1,m2,m3⟩:=i2 rest hl
   exact ⟨s',d,gx,lL _ m1,m2,m3⟩
theorem KV {α:Type} {c:Bool} {x:Option α} {a:α} (h:(bif c then x else none)=some a):c=true∧x=some a:=by
 cases c with
 | true=>exact ⟨rfl,h⟩
 | false=>cases h
theorem abY {n:Nat} {b:BS} {o:Option an} {ds:List V} (h:la b o=some ds) (ay:b.ok n=true):ds.length=b.size:=by
 cases b with
 | dead=>cases o<;>(cases h;rfl)
 | var T0 ls=>
  cases o with
  | none=>cases h
  | some blk=>
   cases blk<;>simp only[la] at h<;>first|(cases h;done)|skip
   exact (Bh (P:=default) (w:=default) (I:=fun _=>False) (β:=fun _=>none) (hp:=fun _=>none) (fun _ _=>⟨rfl,rfl⟩) (KV h).2 ay).1
 | arr e fz=>
  cases o with
  | none=>cases h
  | some blk=>
   cases blk<;>simp only[la] at h<;>first|(cases h;done)|skip
   rw[u7 h] at h
   cases h
   rfl
 | nest e=>
  cases o with
  | none=>cases h
  | some blk=>
   cases blk<;>simp only[la] at h<;>first|(cases h;done)|skip
   rw[u7 h] at h
   cases h
   rfl
 | map t=>
  cases o with
  | none=>cases h
  | some blk=>
   cases blk<;>simp only[la] at h<;>first|(cases h;done)|skip
   rw[u7 h] at h
   cases h
   rfl
theorem Rb {n:Nat}: ∀{l:List BS} {j:Nat} {ds:List V},Aw hp j l=some ds→l.all (BS.ok n)=true→
  (∀rest,(eO l (ds++rest)).length=l.length)∧∀(rest:List V) (i:Nat) (blk:an),(eO l (ds++rest))[i]? =some blk→∃b d gx,l[i]? =some b∧b.ok n=true∧la b (hp (j+i))=some d∧blk=fV b (d++gx)
 | [],j,ds,h,_=>by cases h;exact ⟨fun _=>rfl,fun rest i blk hb=>by simp[eO] at hb⟩
 | b::l,j,ds,h,ay=>by
  simp only[Aw] at h
  obtain ⟨a,h1,h⟩:=bind_some h
  obtain ⟨c,U,h⟩:=bind_some h
  cases h
  simp only[List.all_cons,aN] at ay
  obtain ⟨i1,i2⟩:=Rb U ay.2
  have cq:=abY h1 ay.1
  have hd: ∀rest,(a++c++rest).drop b.size=c++rest:=fun rest=>by rw[cv];exact nS cq
  refine ⟨fun rest=>by simp only[eO,List.length_cons,hd,i1],fun rest i blk hb=> ?_⟩
  simp only[eO,hd] at hb
  cases i with
  | zero=>
   simp at hb
   exact ⟨b,a,c++rest,rfl,ay.1,h1,by rw[←hb]⟩
  | succ i=>
   obtain ⟨b',d,gx,m1,m2,m3,m4⟩:=i2 rest i blk (by simpa using hb)
   exact ⟨b',d,gx,by simpa using m1,m2,by rw[show j+(i+1)=j+1+i by omega];exact m3,m4⟩
theorem abZ {n:Nat} {b:BS} {blk:an} {ds rest:List V} (h:la b (some blk)=some ds) (ay:b.ok n=true):
  blk.le (fV b (ds++rest))∧(fV b (ds++rest)= .dead∨fV b (ds++rest)=blk∨∃T ls cs,b= .var T ls∧blk= .var T cs∧sC ls cs=some ds∧fV b (ds++rest)= .var T (fG ls (ds++rest))):=by
 cases b with
 | dead=>exact ⟨by cases blk<;>trivial,.inl rfl⟩
 | var T0 ls=>
  cases blk<;>simp only[la] at h<;>first|(cases h;done)|skip
  obtain ⟨hT,h0⟩:=KV h
  clear h
  rw[a8] at hT
  subst hT
  exact ⟨rfl,.inr (.inr ⟨_,_,_,rfl,rfl,h0,rfl⟩)⟩
 | arr e fz=>
  cases blk<;>simp only[la] at h<;>first|(cases h;done)|skip
  rename_i e' es nB
  have hb:=u7 h
  simp only[aN,a8,beq_iff_eq] at hb
  obtain ⟨rfl,rfl⟩:=hb
  simp only[jI,beq_self_eq_true,Bool.and_self,cond_true,ec] at h
  subst h
  exact ⟨⟨rfl,rfl⟩,.inr (.inl rfl)⟩
 | nest e=>
  cases blk<;>simp only[la] at h<;>first|(cases h;done)|skip
  rename_i e' es aq
  have hb:=u7 h
  simp only[aN,a8] at hb
  obtain ⟨rfl,hv⟩:=hb
  have:=xV hv
  subst this
  simp only[jI,ka] at h
  cases h
  exact ⟨⟨rfl,rfl,rfl,fun _=>bU _⟩,.inr (.inl rfl)⟩
 | map t=>
  cases blk<;>simp only[la] at h<;>first|(cases h;done)|skip
  rename_i t' es
  have hb:=u7 h
  rw[a8] at hb
  subst hb
  simp only[jI,cond_true,ec] at h
  subst h
  exact ⟨rfl,.inr (.inl rfl)⟩
theorem Rc {m:Nat} {S:Shape} {st:St} {ds:List V} (h:jM m S st=some ds):
  S.ok=true∧m≤S.bc.length∧∃a b,Av st.sl S.bV=some a∧Aw st.hp 0 S.bc=some b∧ds=a++b:=by
 unfold jM at h
 cases hc:(S.ok&&Nat.ble m S.bc.length) with
 | false=>rw[hc] at h;cases h
 | true=>
  rw[hc] at h
  simp only[cond_true] at h
  simp only[aN,eb] at hc
  obtain ⟨a,h1,h⟩:=bind_some h
  obtain ⟨b,U,h⟩:=bind_some h
  cases h
  exact ⟨hc.1,hc.2,a,b,h1,U,rfl⟩
theorem reshape {m:Nat} {S:Shape} {st:St} {ds:List V} (h:jM m S st=some ds) (hS:aI P w I β st.hp B M w0):
  aI P w I β (bt S ds).hp B M w0∧(∀(k:Nat) (v:Value),ao P w I β st.hp v (st.sl k)→ao P w I β (bt S ds).hp v ((bt S ds).sl k))∧
  (∀(μ:Nat→Option Nat) (hp0:Nat→Option an),(∀id blk,hp0 id=some blk→id<m)→Le P w0.w w0.I μ hp0 w I β st.hp→Le P w0.w w0.I μ hp0 w I β (bt S ds).hp)∧
  ∀j blk',(bt S ds).hp j=some blk'→blk'≠ .dead→∃blk,st.hp j=some blk∧blk.le blk'∧∀o b,bC P w o blk' b→bC P w o blk b:=by
 obtain ⟨ay,hm,a,b,h1,U,rfl⟩:=Rc h
 unfold Shape.ok at ay
 rw[aN] at ay
 obtain ⟨Re,Kz⟩:=ay
 have bd: ∀p∈S.bV,∀d,pN p.2 (st.sl p.1)=some d→d.length=p.2.size:=fun p hp d hd=>
  (KT (P:=P) (w:=w) (I:=I) (β:=β) (hp:=st.hp) (fun _ _=>⟨rfl,rfl⟩) hd (fc.1 Re p hp)).1
 have cq:a.length=oM S.bV:=(KU (k:=0) (y:= .undef) h1 bd).1
 have FZ:(bt S (a++b)).hp=jL (eO S.bc (b++[])):=by
  simp only[bt,mk,dz]
  rw[nS cq]
 obtain ⟨bl,bg⟩:=Rb U Kz
 have get: ∀j blk',(bt S (a++b)).hp j=some blk'→j<S.bc.length∧∃bs d gx,bs.ok S.bc.length=true∧la bs (st.hp j)=some d∧blk'=fV bs (d++gx):=by
  intro j blk' hj
  rw[FZ,hY] at hj
  obtain ⟨bs,d,gx,m1,m2,m3,m4⟩:=bg [] j blk' hj
  rw[gQ] at m3
  exact ⟨(bu.1 m1).1,bs,d,gx,m2,m3,m4⟩
 have have': ∀j,j<S.bc.length→∃blk',(bt S (a++b)).hp j=some blk':=by
  intro j hj
  rw[FZ,hY]
  exact ⟨_,bN (by rw[bl];exact hj)⟩
 generalize gW:(bt S (a++b)).hp=u9 at*
 let bx:Nat→Option an:=fun id=>if id<S.bc.length then u9 id else st.hp id
 have back: ∀j blk',u9 j=some blk'→blk'≠ .dead→∃blk,st.hp j=some blk∧blk.le blk'∧(blk'=blk∨∃T ls cs d gx,ls.all (VS.ok S.bc.length)=true∧blk= .var T cs∧sC ls cs=some d∧blk'= .var T (fG ls (d++gx))):=by
  intro j blk' hj hd
  obtain ⟨cp,bs,d,gx,m1,m2,m3⟩:=get j blk' hj
  cases bG:st.hp j with
  | none=>
   rw[bG] at m2
   cases bs<;>simp only[la] at m2<;>first|(cases m2;done)|skip
   exact absurd m3 hd
  | some blk=>
   rw[bG] at m2
   obtain ⟨n1,n2⟩:=abZ (rest:=gx) m2 m1
   rw[←m3] at n1 n2
   refine ⟨blk,rfl,n1,?_⟩
   rcases n2 with e|e|⟨T,ls,cs,e1,e2,e3,e4⟩
   ·exact absurd e hd
   ·exact .inl e
   ·subst e1
    exact .inr ⟨T,ls,cs,d,gx,m1,e2,e3,e4⟩
 have le1: ∀j blk,st.hp j=some blk→j<S.bc.length→∃blk',u9 j=some blk'∧blk.le blk':=by
  intro j blk hj cp
  obtain ⟨blk',aB⟩:=have' j cp
  refine ⟨blk',aB,?_⟩
  by_cases hd:blk'= .dead
  ·subst hd;cases blk<;>trivial
  ·obtain ⟨ca,e1,e2,_⟩:=back j blk' aB hd
   rw[hj] at e1;cases e1
   exact e2
 have ab0: ∀j e es aq e' aP vers',st.hp j=some (.nest e es aq)→u9 j=some (.nest e' aP vers')→e'=e∧aP=es∧vers'=aq:=by
  intro j e es aq e' aP vers' hj fZ
  obtain ⟨blk,e1,_,e3⟩:=back j _ fZ (by simp)
  rw[hj] at e1;cases e1
  rcases e3 with e3|⟨_,_,_,_,_,_,e3,_⟩
  ·cases e3;exact ⟨rfl,rfl,rfl⟩
  ·cases e3
 have hle:Le P w I β st.hp w I β bx:=by
  refine ⟨fun _ h=>h,fun _ _=>rfl,fun id blk ab=> ?_,fun _ _ _ _ _ _ _ _=>rfl,Le.sY (fun _ _ _ _ _ _=>rfl) fun id e es aq e' aP vers' ab bJ=> ?_⟩
  ·by_cases hl:id<S.bc.length
   ·obtain ⟨blk',e1,e2⟩:=le1 id blk ab hl
    exact ⟨blk',by simp only[bx,ah hl];exact e1,e2,fun _=>rfl⟩
   ·exact ⟨blk,by simp only[bx,ai hl];exact ab,an.le_refl _,fun _=>rfl⟩
  ·by_cases hl:id<S.bc.length
   ·simp only[bx,ah hl] at bJ
    exact ab0 _ _ _ _ _ _ _ ab bJ
   ·simp only[bx,ai hl] at bJ
    rw[ab] at bJ;cases bJ
    exact ⟨rfl,rfl,rfl⟩
 have jg:Bf S.bc.length β bx β u9:=fun id ab=>⟨by simp only[bx,ah ab],rfl⟩
 have xK: ∀j blk' blk o b,u9 j=some blk'→st.hp j=some blk→bC P w o blk' b→bC P w o blk b:=by
  intro j blk' blk o b fZ hj ho
  obtain ⟨ca,e1,_,e3⟩:=back j blk' fZ ho.alive
  rw[hj] at e1;cases e1
  rcases e3 with e3|⟨T,ls,cs,d,gx,_,e3,_,e5⟩
  ·subst e3;exact ho
  ·subst e3;subst e5
   exact .root (by simp) (ho.flat (by simp))
 refine ⟨⟨⟨fun j blk' hj=> ?_,fun j1 j2 b1 b2 b' e1 e2 o1 o2=> ?_,fun j blk b' hj ho=> ?_,hS.h.jP⟩,hS.cm,hS.size,hS.new,hS.io⟩,fun k v hv=> ?_,fun μ hp0 aT hE=> ?_,fun j blk' hj hd=> ?_⟩
 ·by_cases hd:blk'= .dead
  ·subst hd;exact .dead
  ·obtain ⟨blk,e1,_,e3⟩:=back j blk' hj hd
   have hr:=hS.h.rel j blk e1
   generalize β j=o at hr
   rcases e3 with e3|⟨T0,ls,cs,d,gx,q1,e3,e4,e5⟩
   ·subst e3
    cases hr with
    | @var xs b' Ca T hb hh hs cV hx gr=>
     obtain ⟨cp,bs,d,gx,m1,m2,m3⟩:=get j _ hj
     rw[e1] at m2
     cases bs<;>simp only[la] at m2<;>first|(cases m2;done)|skip
     ·rename_i T0 ls
      simp only[fV] at m3
      obtain ⟨hT,m2⟩:=KV m2
      obtain ⟨i1,i2,i3⟩:=Bh (P:=P) (w:=w) (I:=I) jg m2 m1
      injection m3 with m4 m3
      rw[m3]
      exact .var hb hh (by rw[i2];exact hs) cV (fun i v y hi hy=>i3 gx i v y (fun x cE=>(hx i v x hi cE).mono hle) hy) gr
     ·simp only[fV] at m3
      cases m3
    | dQ hb=>exact .dQ hb
    | arr a1 a2 a3 a4 a5 a6 a7=>exact .arr a1 a2 a3 a4 a5 a6 a7
    | dead=>exact absurd rfl hd
    | nest a1 a2 a3=>exact .nest a1 a2 a3
    | map a1 a2 a3 a4 a5 a6 a7=>exact .map a1 a2 a3 a4 a5 a6 a7
   ·subst e3
    subst e5
    cases hr with
    | @var xs b' Ca T hb hh hs cV hx gr=>
     obtain ⟨i1,i2,i3⟩:=Bh (P:=P) (w:=w) (I:=I) jg e4 q1
     exact .var hb hh (by rw[i2];exact hs) cV (fun i v y hi hy=>i3 gx i v y (fun x cE=>(hx i v x hi cE).mono hle) hy) gr
 ·obtain ⟨c1,x1,_,_⟩:=back j1 b1 e1 o1.alive
  obtain ⟨c2,x2,_,_⟩:=back j2 b2 e2 o2.alive
  exact hS.h.inj j1 j2 c1 c2 b' x1 x2 (xK _ _ _ _ _ e1 x1 o1) (xK _ _ _ _ _ e2 x2 o2)
 ·obtain ⟨c1,x1,_,_⟩:=back j blk hj ho.alive
  exact hS.h.own j c1 b' x1 (xK _ _ _ _ _ hj x1 ho)
 ·change ao P w I β u9 v (jw (fm S.bV (a++b)) k)
  unfold jw
  cases KW:dO (fm S.bV (a++b)) k with
  | none=>exact .undef
  | some y=>
   obtain ⟨s,d,gx,n1,n2,n3⟩:=(KU h1 bd).2 b KW
   simp only[Option.getD_some,n3]
   exact (KT (P:=P) (w:=w) (I:=I) jg n2 (fc.1 Re _ n1)).2 gx v (hv.mono hle)
 ·have h3:=hE.trans hle
  refine ⟨h3.dq,h3.cm,fun id blk ab=> ?_,fun id blk blk' b' ab bJ hd hb=> ?_,fun id e es aq e' aP vers' b2 q i c t v e1 l ab bJ=> ?_⟩
  ·have hl:=aT id blk ab
   obtain ⟨blk',k1,k2,k3⟩:=h3.blk id blk ab
   simp only[bx,ah (show id<S.bc.length by omega)] at k1
   exact ⟨blk',k1,k2,k3⟩
  ·have hl:=aT id blk ab
   exact h3.size id blk blk' b' ab (by simp only[bx,ah (show id<S.bc.length by omega)];exact bJ) hd hb
  ·have hl:=aT id _ ab
   exact h3.row id e es aq e' aP vers' b2 q i c t v e1 l ab (by simp only[bx,ah (show id<S.bc.length by omega)];exact bJ)
 ·obtain ⟨blk,e1,e2,_⟩:=back j blk' hj hd
  exact ⟨blk,e1,e2,fun o b' ho=>xK _ _ _ _ _ hj e1 ho⟩
end
section
variable {P:Program} {A:cP} {w w':World} {I I' I2:Nat→Prop} {μ β β':Nat→Option Nat} {hp hp' hp0:Nat→Option an} {C:ae} {B:Nat} {M:Nat→Prop} {w0:Start}
inductive ef (P:Program) (w:World) (β:Nat→Option Nat) (hp:Nat→Option an):Place→Option Nat→an→Prop
 | var {id:Nat} {T:TypeId} {cs KX:List V}:hp id=some (.var T cs)→ef P w β hp (.blk id) (β id) (.var T KX)
 | arr {id:Nat} {e:TypeId} {es:List V}:hp id=some (.arr e es false)→ef P w β hp (.blk id) (β id) (.arr e es false)
 | nest {id:Nat} {e:TypeId} {es:List V} {aq:List Nat}:hp id=some (.nest e es aq)→ef P w β hp (.blk id) (β id) (.nest e es [0,0,0])
 | row {id ver b b':Nat} {path:Path} {e0 e':TypeId} {es l:List V} {aq:List Nat}:hp id=some (.nest e0 es aq)→β id=some b→At P w b e0 es path b' e' l→Au P e'=true→
   0<path.length→path.length≤aq.length→bI aq (path.length-1)=ver→0<l.length→ef P w β hp (.row id ver path) (some b') (.arr e' l false)
 | map {id:Nat} {t:TypeId} {es:List V}:hp id=some (.map t es)→ef P w β hp (.blk id) (β id) (.map t es)
def Bi (P:Program) (w:World) (β:Nat→Option Nat) (hp:Nat→Option an) (ρ:List Place) (μ:Nat→Option Nat) (hp0:Nat→Option an):Prop:=
 ∀j p,en ρ j=some p→∃blk,hp0 j=some blk∧ef P w β hp p (μ j) blk
theorem oZ: ∀{l m:List Place} {j:Nat} {p:Place},en l j=some p→en (l++m) j=some p
 | [],m,j,p,h=>by cases h
 | a::l,m,0,p,h=>h
 | a::l,m,j+1,p,h=>oZ (l:=l) h
theorem l9: ∀{l:List Place} {j:Nat},en l j=l[j]?
 | [],j=>by simp[en]
 | a::l,0=>rfl
 | a::l,j+1=>by simp only[en,l9,List.getElem?_cons_succ]
structure Ext (P:Program) (w:World) (I:Nat→Prop) (β:Nat→Option Nat) (hp:Nat→Option an) (h h':Hand) (d:List V) (u:List (Nat × an)):Prop where
 ds:h'.ds=h.ds++d
 upd:h'.upd=h.upd++u
 Ga: ∀q∈u,AP hp q
 pl: ∃m,h'.pl=h.pl++m
 nodup:(h.pl.map Place.id).Nodup→(h'.pl.map Place.id).Nodup
theorem Ext.refl (h:Hand):Ext P w I β hp h h [] []:=⟨by simp,by simp,by simp,⟨[],by simp⟩,id⟩
theorem Ext.trans {h1 U h3:Hand} {d1 d2:List V} {u1 u2:List (Nat × an)} (a:Ext P w I β hp h1 U d1 u1) (b:Ext P w I β hp U h3 d2 u2):Ext P w I β hp h1 h3 (d1++d2) (u1++u2):=by
 obtain ⟨m1,e1⟩:=a.pl
 obtain ⟨m2,e2⟩:=b.pl
 exact ⟨by rw[b.ds,a.ds,cv],by rw[b.upd,a.upd,cv],fun q hq=>(eM.1 hq).elim (a.Ga q) (b.Ga q),⟨m1++m2,by rw[e2,e1,cv]⟩,fun h=>b.nodup (a.nodup h)⟩
theorem Ext.look {h h':Hand} {d:List V} {u:List (Nat × an)} (a:Ext P w I β hp h h' d u) {j:Nat} {p:Place} (hj:en h.pl j=some p):en h'.pl j=some p:=by
 obtain ⟨m,e⟩:=a.pl
 rw[e]
 exact oZ hj
theorem Ext.leaf (h:Hand) (x:V):Ext P w I β hp h {h with ds:=h.ds++[x]} [x] []:=⟨rfl,by simp,by simp,⟨[],by simp⟩,id⟩
theorem ab1 {α:Type} {ρ:List Place} {j:Nat} {p:Place} {k:List Place→Rd α} {r:α} {rd:List Nat} (h:(unify ρ j p k).run C hp=some (r,rd)) (hb: ∃id,p= .blk id∨∃ver path,p= .row id ver path):
  ∃jU,(k jU).run C hp=some (r,rd)∧(∃m,jU=ρ++m)∧en jU j=some p∧((ρ.map Place.id).Nodup→(jU.map Place.id).Nodup):=by
 unfold unify at h
 cases hc:Nat.blt j ρ.length with
 | true=>
  rw[hc] at h
  obtain ⟨h1,U⟩:=aK h
  refine ⟨ρ,U,⟨[],by simp⟩,?_,id⟩
  unfold PM at h1
  split at h1
  ·rename_i a b he
   rw[a8] at h1
   subst h1
   exact he
  ·cases h1
 | false=>
  rw[hc] at h
  obtain ⟨h1,U⟩:=aK h
  simp only[aN,a8,lM] at h1
  obtain ⟨rfl,h3⟩:=h1
  refine ⟨ρ++[p],U,⟨[p],rfl⟩,?_,fun hn=> ?_⟩
  ·rw[l9];simp
  ·rw[gm,EN]
   refine ⟨hn,by simp,fun a ha b hb=> ?_⟩
   simp only[cr,fl,ez] at hb
   subst hb
   intro e
   subst e
   rw[xH ha] at h3
   cases h3
theorem va {α:Type} {h:Hand} {j:Nat} {p:Place} {k:List Place→Rd α} {r:α} {rd:List Nat} (hr:(unify h.pl j p k).run C hp=some (r,rd)) (ds:List V):
  ∃jU,(k jU).run C hp=some (r,rd)∧en jU j=some p∧Ext P w I β hp h {h with pl:=jU,ds:=h.ds++ds} ds []:=by
 obtain ⟨jU,a,b,c,d⟩:=ab1 hr (by cases p with|blk id=>exact ⟨id,.inl rfl⟩|row id ver path=>exact ⟨id,.inr ⟨ver,path,rfl⟩⟩)
 exact ⟨jU,a,c,⟨rfl,by simp,by simp,b,d⟩⟩
theorem ab2 {o:Option Nat} {blk:an} {e:TypeId} {id j:Nat} {v:Value} (hv:ao P w I β hp v (.whole e id)) (hl:ef P w β hp (.blk id) o blk) (hj:hp0 j=some blk) (jV:μ j=o):ao P w I' μ hp0 v (.whole e j):=by
 cases hl with
 | var h=>
  cases hv with
  | eo U=>rw[h] at U;cases U
  | dP U=>rw[h] at U;cases U
  | whole U=>rw[h] at U;cases U
  | eF U=>rw[h] at U;cases U
 | arr h=>
  cases hv with
  | eo U=>rw[h] at U;cases U
  | dP U hb=>rw[h] at U;cases U;exact .dP hj (jV.trans hb)
  | whole U hb a b c=>rw[h] at U;cases U;exact .whole hj (jV.trans hb) a b c
  | eF U=>rw[h] at U;cases U
 | nest h=>
  cases hv with
  | eo U=>rw[h] at U;cases U
  | dP U=>rw[h] at U;cases U
  | whole U=>rw[h] at U;cases U
  | eF U hb a b c=>rw[h] at U;cases U;exact .eF hj (jV.trans hb) a b c
 | map h=>
  cases hv with
  | eo U=>rw[h] at U;cases U
  | dP U=>rw[h] at U;cases U
  | whole U=>rw[h] at U;cases U
  | eF U=>rw[h] at U;cases U
theorem ab3 {o:Option Nat} {blk:an} {t:TypeId} {id j:Nat} {v:Value} (hv:ao P w I β hp v (.cD t id)) (hl:ef P w β hp (.blk id) o blk) (hj:hp0 j=some blk) (jV:μ j=o):ao P w I' μ hp0 v (.cD t j):=by
 cases hv with
 | iD U=>cases hl<;>(rename_i h;rw[h] at U;cases U)
 | cD U hb=>
  cases hl<;>(rename_i h;rw[h] at U;cases U)
  exact .cD hj (jV.trans hb)
theorem ab4 {o:Option Nat} {blk:an} {e:TypeId} {id off n j:Nat} {v:Value} (hv:ao P w I β hp v (.sub e id off n)) (hl:ef P w β hp (.blk id) o blk) (hj:hp0 j=some blk) (jV:μ j=o):ao P w I' μ hp0 v (.sub e j off n):=by
 cases hl with
 | var h=>
  cases hv with
  | gp U=>rw[h] at U;cases U
  | fY U=>rw[h] at U;cases U
  | sub U=>rw[h] at U;cases U
 | arr h=>
  cases hv with
  | gp U=>rw[h] at U;cases U
  | fY U hb=>rw[h] at U;cases U;exact .fY hj (jV.trans hb)
  | sub U hb a b c=>rw[h] at U;cases U;exact .sub hj (jV.trans hb) a b c
 | nest h=>
  cases hv with
  | gp U=>rw[h] at U;cases U
  | fY U=>rw[h] at U;cases U
  | sub U=>rw[h] at U;cases U
 | map h=>
  cases hv with
  | gp U=>rw[h] at U;cases U
  | fY U=>rw[h] at U;cases U
  | sub U=>rw[h] at U;cases U
theorem Rf {o:Option Nat} {blk:an} {id i c j:Nat} {v:Value} (hv:ao P w I β hp v (.ptr id i c)) (hl:ef P w β hp (.blk id) o blk) (hj:hp0 j=some blk) (jV:μ j=o):ao P w I' μ hp0 v (.ptr j i c):=by
 cases hl with
 | @var _ T0 cs KX h=>
  obtain ⟨b,hb,rfl⟩:=hv.gY h (by simp)
  exact ao.ptr (blk:= .var T0 KX) hj (by simp) (jV.trans hb)
 | @arr _ e es h=>
  obtain ⟨b,hb,rfl⟩:=hv.gY h (by simp)
  exact ao.ptr (blk:= .arr e es false) hj (by simp) (jV.trans hb)
 | @nest _ e es aq h=>
  obtain ⟨b,hb,rfl⟩:=hv.gY h (by simp)
  exact ao.ptr (blk:= .nest e es [0,0,0]) hj (by simp) (jV.trans hb)
 | @map _ t es h=>
  obtain ⟨b,hb,rfl⟩:=hv.gY h (by simp)
  exact ao.ptr (blk:= .map t es) hj (by simp) (jV.trans hb)
theorem ab5 (cL: ∀id blk,hp id=some blk→ed P w I β hp (β id) blk) {id b i c:Nat} {e0 t:TypeId} {es l:List V} {aq:List Nat} {q:Path} {e:TypeId} {v:Value} (ab:hp id=some (.nest e0 es aq)) (hb:β id=some b)
  (ht:P.underlying t=some (.slice e)) (hc:mE P w b e0 es q i c t v (.list e l)) (hl:0<l.length): ∃b1 cap,v= .slice (some ⟨b1,0,none⟩) l.length cap∧cap*P.cellsOf e=bsize w b1∧l.length≤cap∧cap≤maxLen∧At P w b e0 es (q++[(i,c)]) b1 e l:=by
 obtain ⟨b2,e1,m,Ca,T,f,x,n1,n2,n3,n4,n5,n6⟩:=hc
 have hr:=cL _ _ ab
 cases hr with
 | nest aB hr hn=>
  rw[hb] at aB;cases aB
  have hR:=hr _ _ _ _ n1
  obtain ⟨AS,c1,c2,c3⟩:=hR.cells
  rw[n2] at c1
  cases c1
  have uN:c<P.cellsOf e1:=by rw[←fK hR.ok];exact (bu.1 n4).1
  obtain ⟨v',d1,d2⟩:=c3 i c x t n3 n4 uN
  rw[n6] at d1
  cases d1
  rw[n5] at d2
  generalize hy:V.list e l=y at d2
  cases d2 with
  | fX a p=>unfold fU at a;rw[ht] at a;cases a
  | emp hu ha=>cases hy;simp at hl
  | row hu jR bd cg nJ=>
   cases hy
   exact ⟨_,_,rfl,bd,cg,nJ,n1.snoc n2 n3 n4 ht n5 jR n6⟩
theorem ab6 (S:aI P w I β hp B M w0) {o:Option Nat} {blk:an} {e:TypeId} {id ver j:Nat} {path:Path} {v:Value} (hv:ao P w I β hp v (.row e id ver path)) (hl:ef P w β hp (.row id ver path) o blk) (hj:hp0 j=some blk) (jV:μ j=o):ao P w I' μ hp0 v (.whole e j):=by
 cases hl with
 | row h hb ha hf h1 U h3 h4=>
  obtain ⟨b2,q,i,c,t,l2,rfl,jc,ht,hc⟩:=hv.PW h h1 U h3
  rw[hb] at jc;cases jc
  obtain ⟨p1,p2⟩:=JX ha
  have iY:=hc
  obtain ⟨b3,e3,m3,Ca,T,f,x,n1,n2,n3,n4,n5,n6⟩:=iY
  obtain ⟨q1,q2⟩:=Fq n1 n3 n4 ht n5
  rw[p1] at q1
  rw[p2] at q2
  cases q1
  cases q2
  obtain ⟨b1,cap,rfl,m1,m2,m4,m5⟩:=ab5 S.h.rel h hb ht hc h4
  have:=ab7 ha m5
  subst this
  exact .whole hj jV m1 m2 m4
where
 ab7 {b b1 b2:Nat} {e e1 e2:TypeId} {es l l2:List V} {q:Path} (h:At P w b e es q b1 e1 l) (U:At P w b e es q b2 e2 l2):b2=b1:=(h.fun U).1
theorem Rg (S:aI P w I β hp B M w0) {α:Type} {l:LS} {x:V} {h:Hand} {k:Hand→Rd α} {r:α} {rd:List Nat} {v:Value} (hr:(Fc P l x h k).run C hp=some (r,rd)) (hv:ao P w I β hp v x):
  ∃h' e8 d u,(k h').run C hp=some (r,e8)∧Ext P w I β hp h h' d u∧d.length=l.size∧
   ∀(I':Nat→Prop) (μ:Nat→Option Nat) (hp0:Nat→Option an),(∀b,I b→I' b)→(∀q∈u,∀b,sZ P w β hp q.1 b→I' b)→∀ρ m,ρ=h'.pl++m→Bi P w β hp ρ μ hp0→∀rest,ao P w I' μ hp0 v (iT l (d++rest)):=by
 have plain: ∀{x':V} {jB:List Nat},(k {h with ds:=h.ds++[x']}).run C hp=some (r,jB)→l.size=1→(∀I' μ hp0 rest,ao P w I' μ hp0 v (iT l ([x']++rest)))→∃h' e8 d u,(k h').run C hp=some (r,e8)∧Ext P w I β hp h h' d u∧d.length=l.size∧
   ∀(I':Nat→Prop) (μ:Nat→Option Nat) (hp0:Nat→Option an),(∀b,I b→I' b)→(∀q∈u,∀b,sZ P w β hp q.1 b→I' b)→∀ρ m,ρ=h'.pl++m→Bi P w β hp ρ μ hp0→∀rest,ao P w I' μ hp0 v (iT l (d++rest)):=
  fun hk hs hx=>⟨_,_,_,_,hk,Ext.leaf h _,hs.symm,fun I' μ hp0 _ _ _ _ _ _ rest=>hx I' μ hp0 rest⟩
 have nP: ∀{jB:List Nat},(k h).run C hp=some (r,jB)→l.size=0→(∀I' μ hp0 rest,ao P w I' μ hp0 v (iT l rest))→∃h' e8 d u,(k h').run C hp=some (r,e8)∧Ext P w I β hp h h' d u∧d.length=l.size∧
   ∀(I':Nat→Prop) (μ:Nat→Option Nat) (hp0:Nat→Option an),(∀b,I b→I' b)→(∀q∈u,∀b,sZ P w β hp q.1 b→I' b)→∀ρ m,ρ=h'.pl++m→Bi P w β hp ρ μ hp0→∀rest,ao P w I' μ hp0 v (iT l (d++rest)):=
  fun hk hs hx=>⟨_,_,_,_,hk,Ext.refl h,by simp[hs],fun I' μ hp0 _ _ _ _ _ _ rest=>hx I' μ hp0 rest⟩
 unfold Fc at hr
 cases l with
 | qV=>exact nP hr rfl fun _ _ _ _=> .undef
 | int kd=>
  cases x<;>simp only at hr<;>first|(cases hr;done)|skip
  obtain ⟨h1,U⟩:=aK hr
  simp only[dW] at h1
  subst h1
  obtain rfl:=hv.et
  exact plain U rfl fun _ _ _ _=> .int
 | bool=>
  cases x<;>simp only at hr<;>first|(cases hr;done)|skip
  obtain rfl:=hv.kA
  exact plain hr rfl fun _ _ _ _=> .bool
 | str=>
  cases x<;>simp only at hr<;>first|(cases hr;done)|skip
  obtain ⟨s,rfl,hl⟩:=hv.mG
  exact plain hr rfl fun _ _ _ _=> .str hl
 | nilS e=>
  cases x<;>simp only at hr<;>first|(cases hr;done)|skip
  obtain ⟨h1,U⟩:=aK hr
  cases hv with
  | nilS=>exact nP U rfl fun _ _ _ _=> .nilS
 | dA=>
  cases x<;>simp only at hr<;>first|(cases hr;done)|skip
  cases hv with
  | dA=>exact nP hr rfl fun _ _ _ _=> .dA
 | row e j cs=>
  cases x<;>simp only at hr<;>first|(cases hr;done)|skip
  rename_i e' id ver path
  obtain ⟨e0,es,aq,l0,ab,p1,p2,p3,hr⟩:=oQ hr
  obtain ⟨h1,U⟩:=aK hr
  simp only[aN,a8,eb] at h1
  obtain ⟨rfl,oS,hp3⟩:=h1
  have:=xV oS
  subst this
  obtain ⟨jU,a,b,c⟩:=va (P:=P) (w:=w) (I:=I) (β:=β) U (path.map fun p=>dF p.1)
  refine ⟨_,_,path.map fun p=>dF p.1,[],a,c,by simp[LS.size],fun I' μ hp0 i1 i2 ρ m dB df rest=> ?_⟩
  obtain ⟨blk,k1,k2⟩:=df j _ (by rw[dB];exact oZ b)
  obtain ⟨bb,q,i,cc,t,l,rfl,hb,ht,hc⟩:=hv.PW ab p1 p2 p3
  have rr:blk= .nest e0 es [0,0,0]∧μ j=β id:=by
   generalize μ j=o at k2
   cases k2 with
   | var h=>rw[ab] at h;cases h
   | arr h=>rw[ab] at h;cases h
   | map h=>rw[ab] at h;cases h
   | nest h=>rw[ab] at h;cases h;exact ⟨rfl,rfl⟩
  obtain ⟨rfl,jV⟩:=rr
  simp only[iT,F8]
  have hq:q.length<3:=by rw[cz,List.length_singleton] at hp3;omega
  refine .row k1 (jV.trans hb) (by simpa using hq) ?_ ht hc
  match q.length,hq with
  | 0,_=>rfl
  | 1,_=>rfl
  | 2,_=>rfl
 | cK j cs c=>cases hr
 | EW k n=>cases hr
 | EX b=>cases hr
 | dE t=>
  cases x<;>simp only at hr<;>first|(cases hr;done)|skip
  obtain ⟨h1,U⟩:=aK hr
  cases hv with
  | dE=>exact nP U rfl fun _ _ _ _=> .dE
 | cD t j=>
  cases x<;>simp only at hr<;>first|(cases hr;done)|skip
  rename_i t' id
  obtain ⟨h1,U⟩:=aK hr
  rw[a8] at h1
  subst h1
  obtain ⟨jU,a,b,c⟩:=va (P:=P) (w:=w) (I:=I) (β:=β) U []
  refine ⟨_,_,[],[],a,by simpa using c,rfl,fun I' μ hp0 i1 i2 ρ m dB df rest=> ?_⟩
  obtain ⟨blk,k1,k2⟩:=df j _ (by rw[dB];exact oZ b)
  exact ab3 hv k2 k1 rfl
 | list e=>
  obtain ⟨⟨y,u⟩,l1,l2,h1,U⟩:=lg hr
  cases y<;>simp only at U<;>first|(cases U;done)|skip
  rename_i e' es
  obtain ⟨h3,h4⟩:=aK U
  rw[a8] at h3
  subst h3
  obtain ⟨p1,p2⟩:=Fs S.h.rel h1 hv
  exact ⟨_,_,[.list e es],u,h4,⟨rfl,rfl,p1,⟨[],by simp⟩,id⟩,rfl,fun I' μ hp0 i1 i2 _ _ _ _ rest=> .list (p2 I' i1 i2)⟩
 | whole e j=>
  cases x<;>simp only at hr<;>first|(cases hr;done)|skip
  ·rename_i e' id
   obtain ⟨h1,U⟩:=aK hr
   rw[a8] at h1
   subst h1
   obtain ⟨jU,a,b,c⟩:=va (P:=P) (w:=w) (I:=I) (β:=β) U []
   refine ⟨_,_,[],[],a,by simpa using c,rfl,fun I' μ hp0 i1 i2 ρ m dB df rest=> ?_⟩
   obtain ⟨blk,k1,k2⟩:=df j _ (by rw[dB];exact oZ b)
   exact ab2 hv k2 k1 rfl
  ·rename_i e' id ver path
   obtain ⟨h1,U⟩:=aK hr
   rw[a8] at h1
   subst h1
   obtain ⟨jU,a,b,c⟩:=va (P:=P) (w:=w) (I:=I) (β:=β) U []
   refine ⟨_,_,[],[],a,by simpa using c,rfl,fun I' μ hp0 i1 i2 ρ m dB df rest=> ?_⟩
   obtain ⟨blk,k1,k2⟩:=df j _ (by rw[dB];exact oZ b)
   exact ab6 S hv k2 k1 rfl
 | sub e j=>
  cases x<;>simp only at hr<;>first|(cases hr;done)|skip
  rename_i e' id o n
  obtain ⟨h1,U⟩:=aK hr
  rw[a8] at h1
  subst h1
  obtain ⟨jU,a,b,c⟩:=va (P:=P) (w:=w) (I:=I) (β:=β) U [dF o,dF n]
  refine ⟨_,_,[dF o,dF n],[],a,c,rfl,fun I' μ hp0 i1 i2 ρ m dB df rest=> ?_⟩
  obtain ⟨blk,k1,k2⟩:=df j _ (by rw[dB];exact oZ b)
  simpa[iT,V.nth] using ab4 (I':=I') hv k2 k1 rfl
 | ptr j=>
  cases x<;>simp only at hr<;>first|(cases hr;done)|skip
  rename_i id i c
  obtain ⟨jU,a,b,c'⟩:=va (P:=P) (w:=w) (I:=I) (β:=β) hr [dF i,dF c]
  refine ⟨_,_,[dF i,dF c],[],a,c',rfl,fun I' μ hp0 i1 i2 ρ m dB df rest=> ?_⟩
  obtain ⟨blk,k1,k2⟩:=df j _ (by rw[dB];exact oZ b)
  simpa[iT,V.nth] using Rf (I':=I') hv k2 k1 rfl
 | aY j i c=>
  cases x<;>simp only at hr<;>first|(cases hr;done)|skip
  rename_i id i' c'
  obtain ⟨h1,U⟩:=aK hr
  simp only[aN,a8] at h1
  obtain ⟨rfl,rfl⟩:=h1
  obtain ⟨jU,a,b,c'⟩:=va (P:=P) (w:=w) (I:=I) (β:=β) U []
  refine ⟨_,_,[],[],a,by simpa using c',rfl,fun I' μ hp0 i1 i2 ρ m dB df rest=> ?_⟩
  obtain ⟨blk,k1,k2⟩:=df j _ (by rw[dB];exact oZ b)
  exact Rf hv k2 k1 rfl
end
section
variable {P:Program} {A:cP} {w w':World} {I I' I2:Nat→Prop} {μ β β':Nat→Option Nat} {hp hp' hp0:Nat→Option an} {C:ae} {B:Nat} {M:Nat→Prop} {w0:Start}
def mN (P:Program) (w:World) (I:Nat→Prop) (β:Nat→Option Nat) (hp:Nat→Option an) (h':Hand) (u:List (Nat × an)) (K:(Nat→Prop)→(Nat→Option Nat)→(Nat→Option an)→Prop):Prop:=
 ∀(I':Nat→Prop) (μ:Nat→Option Nat) (hp0:Nat→Option an),(∀b,I b→I' b)→(∀q∈u,∀b,sZ P w β hp q.1 b→I' b)→∀ρ m,ρ=h'.pl++m→Bi P w β hp ρ μ hp0→K I' μ hp0
theorem mN.later {h h':Hand} {d:List V} {u u':List (Nat × an)} {K:(Nat→Prop)→(Nat→Option Nat)→(Nat→Option an)→Prop} (t:mN P w I β hp h u K) (e:Ext P w I β hp h h' d u'):mN P w I β hp h' (u++u') K:=by
 obtain ⟨m1,e1⟩:=e.pl
 exact fun I' μ hp0 i1 i2 ρ m dB df=>t I' μ hp0 i1 (fun q hq=>i2 q (eM.2 (.inl hq))) ρ (m1++m) (by rw[dB,e1,cv]) df
theorem mN.more {h:Hand} {u u':List (Nat × an)} {K:(Nat→Prop)→(Nat→Option Nat)→(Nat→Option an)→Prop} (t:mN P w I β hp h u K):mN P w I β hp h (u'++u) K:=
 fun I' μ hp0 i1 i2 ρ m dB df=>t I' μ hp0 i1 (fun q hq=>i2 q (eM.2 (.inr hq))) ρ m dB df
theorem Gb (S:aI P w I β hp B M w0) {α:Type}: ∀{ls:List LS} {xs:List V} {h:Hand} {k:Hand→Rd α} {r:α} {rd:List Nat} {vs:List Value},(xo P ls xs h k).run C hp=some (r,rd)→vs.length=xs.length→
  (∀(j:Nat) v x,vs[j]? =some v→xs[j]? =some x→ao P w I β hp v x)→
  ∃h' e8 d u,(k h').run C hp=some (r,e8)∧Ext P w I β hp h h' d u∧d.length=ko ls∧ls.length=xs.length∧
   mN P w I β hp h' u fun I' μ hp0=> ∀rest,(iw ls (d++rest)).length=xs.length∧∀(j:Nat) v y,vs[j]? =some v→(iw ls (d++rest))[j]? =some y→ao P w I' μ hp0 v y
 | [],[],h,k,r,rd,vs,hr,hl,hv=>⟨h,rd,[],[],hr,Ext.refl h,rfl,rfl,fun I' μ hp0 _ _ _ _ _ _ rest=>⟨rfl,fun j v y _ hy=>by simp[iw] at hy⟩⟩
 | [],_::_,h,k,r,rd,vs,hr,hl,hv=>by cases hr
 | _::_,[],h,k,r,rd,vs,hr,hl,hv=>by cases hr
 | l::ls,x::xs,h,k,r,rd,vs,hr,hl,hv=>by
  cases vs with
  | nil=>simp at hl
  | cons v vs=>
   simp only[xo] at hr
   obtain ⟨h1,jB,d1,u1,a1,a2,a3,a4⟩:=Rg S hr (hv 0 v x rfl rfl)
   obtain ⟨U,td,d2,u2,b1,b2,b3,b5,b4⟩:=Gb S a1 (by simpa using hl) (vs:=vs) (fun j v x hj hx=>hv (j+1) v x (by simpa using hj) (by simpa using hx))
   have a4':mN P w I β hp h1 u1 fun I' μ hp0=> ∀rest,ao P w I' μ hp0 v (iT l (d1++rest)):=a4
   refine ⟨U,td,d1++d2,u1++u2,b1,a2.trans b2,by simp only[cz,ko];omega,by simp[b5],fun I' μ hp0 i1 i2 ρ m dB df rest=> ?_⟩
   have k1:=(a4'.later b2) I' μ hp0 i1 i2 ρ m dB df (d2++rest)
   obtain ⟨k2,k3⟩:=b4.more I' μ hp0 i1 i2 ρ m dB df rest
   simp only[iw]
   rw[show (d1++d2++rest).drop l.size=d2++rest by rw[cv];exact nS a3,cv]
   refine ⟨by simp[k2],fun j v' y hj hy=> ?_⟩
   cases j with
   | zero=>simp at hj hy;subst hj;subst hy;exact k1
   | succ j=>exact k3 j v' y (by simpa using hj) (by simpa using hy)
theorem ab8 (S:aI P w I β hp B M w0) {α:Type} {s:VS} {x:V} {h:Hand} {k:Hand→Rd α} {r:α} {rd:List Nat} {v:Value} (hr:(Ay P s x h k).run C hp=some (r,rd)) (hv:ao P w I β hp v x):
  ∃h' e8 d u,(k h').run C hp=some (r,e8)∧Ext P w I β hp h h' d u∧d.length=s.size∧
   mN P w I β hp h' u fun I' μ hp0=> ∀rest,ao P w I' μ hp0 v (lb s (d++rest)):=by
 cases s with
 | one l=>
  simp only[Ay] at hr
  obtain ⟨h1,jB,d1,u1,a1,a2,a3,a4⟩:=Rg S hr hv
  exact ⟨h1,jB,d1,u1,a1,a2,a3,a4⟩
 | agg ls=>
  cases x<;>simp only[Ay] at hr<;>first|(cases hr;done)|skip
  rename_i xs
  obtain ⟨cs,rfl,e1,e2⟩:=hv.lh
  obtain ⟨h1,jB,d1,u1,a1,a2,a3,a5,a4⟩:=Gb S hr (vs:=cs.toList) (by simpa using e1) (fun j v x hj hx=>e2 j v x (by simpa using hj) hx)
  refine ⟨h1,jB,d1,u1,a1,a2,a3,fun I' μ hp0 i1 i2 ρ m dB df rest=> ?_⟩
  obtain ⟨k1,k2⟩:=a4 I' μ hp0 i1 i2 ρ m dB df rest
  exact .agg (by rw[k1];exact e1) fun j v y hj hy=>k2 j v y (by simpa using hj) hy
 | bm ls=>cases x<;>cases hr
 | pref ts ls=>cases x<;>cases hr
 | fn f a b=>
  cases x<;>simp only[Ay] at hr<;>first|(cases hr;done)|skip
  rename_i f' xs ys
  obtain ⟨hc,vb⟩:=aK hr
  clear hr
  rw[a8] at hc
  subst hc
  cases hv with
  | @fn _ fs cs _ _ q1 q2 q3 q4=>
   obtain ⟨h1,jB,d1,u1,a1,a2,a3,a5,a4⟩:=Gb S vb (vs:=fs.toList) (by simpa using q1) (fun j v x hj hx=>q2 j v x (by simpa using hj) hx)
   obtain ⟨U,td,d2,u2,b1,b2,b3,b5,b4⟩:=Gb S a1 (vs:=cs.toList) (by simpa using q3) (fun j v x hj hx=>q4 j v x (by simpa using hj) hx)
   refine ⟨U,td,d1++d2,u1++u2,b1,a2.trans b2,by simp only[cz,VS.size];omega,fun I' μ hp0 i1 i2 ρ m dB df rest=> ?_⟩
   obtain ⟨k1,k2⟩:=(a4.later b2) I' μ hp0 i1 i2 ρ m dB df (d2++rest)
   obtain ⟨k3,k4⟩:=b4.more I' μ hp0 i1 i2 ρ m dB df rest
   simp only[lb]
   rw[show (d1++d2++rest).drop (ko a)=d2++rest by rw[cv];exact nS a3,cv]
   exact .fn (by rw[k1];exact q1) (fun j v y hj hy=>k2 j v y (by simpa using hj) hy) (by rw[k3];exact q3) (fun j v y hj hy=>k4 j v y (by simpa using hj) hy)
theorem KY (S:aI P w I β hp B M w0) {α:Type}: ∀{ls:List VS} {xs:List V} {h:Hand} {k:Hand→Rd α} {r:α} {rd:List Nat} {vs:List Value},(Az P ls xs h k).run C hp=some (r,rd)→vs.length=xs.length→
  (∀(j:Nat) v x,vs[j]? =some v→xs[j]? =some x→ao P w I β hp v x)→
  ∃h' e8 d u,(k h').run C hp=some (r,e8)∧Ext P w I β hp h h' d u∧d.length=sQ ls∧ls.length=xs.length∧
   mN P w I β hp h' u fun I' μ hp0=> ∀rest,(fG ls (d++rest)).length=xs.length∧∀(j:Nat) v y,vs[j]? =some v→(fG ls (d++rest))[j]? =some y→ao P w I' μ hp0 v y
 | [],[],h,k,r,rd,vs,hr,hl,hv=>⟨h,rd,[],[],hr,Ext.refl h,rfl,rfl,fun I' μ hp0 _ _ _ _ _ _ rest=>⟨rfl,fun j v y _ hy=>by simp[fG] at hy⟩⟩
 | [],_::_,h,k,r,rd,vs,hr,hl,hv=>by cases hr
 | _::_,[],h,k,r,rd,vs,hr,hl,hv=>by cases hr
 | l::ls,x::xs,h,k,r,rd,vs,hr,hl,hv=>by
  cases vs with
  | nil=>simp at hl
  | cons v vs=>
   simp only[Az] at hr
   obtain ⟨h1,jB,d1,u1,a1,a2,a3,a4⟩:=ab8 S hr (hv 0 v x rfl rfl)
   obtain ⟨U,td,d2,u2,b1,b2,b3,b5,b4⟩:=KY S a1 (by simpa using hl) (vs:=vs) (fun j v x hj hx=>hv (j+1) v x (by simpa using hj) (by simpa using hx))
   refine ⟨U,td,d1++d2,u1++u2,b1,a2.trans b2,by simp only[cz,sQ];omega,by simp[b5],fun I' μ hp0 i1 i2 ρ m dB df rest=> ?_⟩
   have k1:=(a4.later b2) I' μ hp0 i1 i2 ρ m dB df (d2++rest)
   obtain ⟨k2,k3⟩:=b4.more I' μ hp0 i1 i2 ρ m dB df rest
   simp only[fG]
   rw[show (d1++d2++rest).drop l.size=d2++rest by rw[cv];exact nS a3,cv]
   refine ⟨by simp[k2],fun j v' y hj hy=> ?_⟩
   cases j with
   | zero=>simp at hj hy;subst hj;subst hy;exact k1
   | succ j=>exact k3 j v' y (by simpa using hj) (by simpa using hy)
def Gc:List BS→Nat
 | []=>0
 | b::l=>b.size+Gc l
theorem Rh: ∀{b:Nat} {e e':TypeId} {es:List V} {v:V},(∀q b' e' m,At P w b e es q b' e' m→jx P w I b' e' m)→∀(path:Path),kj P e path=some e'→c9 P e es path=some v→0<v.toList.length→
  ∃b1,At P w b e es path b1 e' v.toList
 | b,e,e',es,v,cM,[],ht,hv,hl=>by
  simp only[kj,ec] at ht
  simp only[c9,ec] at hv
  subst ht;subst hv
  exact ⟨b,.here⟩
 | b,e,e',es,v,cM,(i,c)::q,ht,hv,hl=>by
  simp only[kj] at ht
  simp only[c9] at hv
  obtain ⟨x,hx,hv⟩:=bind_some hv
  cases KZ:(kj.Ao P e)[c]? with
  | none=>rw[KZ] at ht;cases ht
  | some t=>
   rw[KZ] at ht
   simp only at ht
   have Ge:(ba P e)[c]? =some t:=KZ
   cases hu:P.underlying t with
   | none=>rw[hu] at ht;cases ht
   | some d=>
    rw[hu] at ht
    cases d<;>simp only at ht<;>first|(cases ht;done)|skip
    rename_i e1
    rw[nG Ge] at hv
    have hR:=cM _ _ _ _ .here
    obtain ⟨Ca,c1,c2,c3⟩:=hR.cells
    have uN:c<P.cellsOf e:=by rw[←fK hR.ok];exact (bu.1 Ge).1
    obtain ⟨u,d1,d2⟩:=c3 i c x t hx Ge uN
    rw[d2.s5] at hv
    generalize hy:bQ P e x c=y at d2 hv
    cases d2 with
    | fX a p=>unfold fU at a;rw[hu] at a;cases a
    | @emp e2 a cap mM ha=>
     rw[hu] at mM;cases mM
     simp only at hv
     cases q with
     | nil=>simp only[c9,ec] at hv;subst hv;simp[V.toList] at hl
     | cons a q=>simp[c9] at hv
    | @row e2 cf b2 cap mM jR bd cg nJ=>
     rw[hu] at mM;cases mM
     simp only at hv
     have eG: ∀{q b' e' aP},At P w b2 e1 cf q b' e' aP→At P w b e es ((i,c)::q) b' e' aP:=fun h=> .step c1 hx Ge hu hy jR d1 h
     obtain ⟨b1,lZ⟩:=Rh (fun q b' e' m h=>cM _ _ _ _ (eG h)) q ht hv hl
     exact ⟨b1,eG lZ⟩
theorem Ri (S:aI P w I β hp B M w0) {α:Type}: ∀{bs:List BS} {j:Nat} {h:Hand} {k:Hand→Rd α} {r:α} {rd:List Nat},(qX P bs j h k).run C hp=some (r,rd)→
  ∃h' e8 d u,(k h').run C hp=some (r,e8)∧Ext P w I β hp h h' d u∧d.length=Gc bs∧
   ∀rest,(eO bs (d++rest)).length=bs.length∧∃o:Nat→Option Nat,
    (∀(i:Nat) blk,(eO bs (d++rest))[i]? =some blk→∃p,en h'.pl (j+i)=some p∧ef P w β hp p (o i) blk)∧
    mN P w I β hp h' u fun I' μ hp0=> ∀(i:Nat) blk,(eO bs (d++rest))[i]? =some blk→(∀b,bC P w (o i) blk b→¬I' b)→ed P w I' μ hp0 (o i) blk
 | [],j,h,k,r,rd,hr=>⟨h,rd,[],[],hr,Ext.refl h,rfl,fun rest=>⟨rfl,fun _=>none,fun i blk hb=>by simp[eO] at hb,fun I' μ hp0 _ _ _ _ _ _ i blk hb=>by simp[eO] at hb⟩⟩
 | b::bs,j,h,k,r,rd,hr=>by
  simp only[qX] at hr
  have fin: ∀{h1:Hand} {jB:List Nat} {d1:List V} {u1:List (Nat × an)} {o1:Option Nat} {p:Place},(qX P bs (j+1) h1 k).run C hp=some (r,jB)→Ext P w I β hp h h1 d1 u1→d1.length=b.size→en h.pl j=some p→
    (∀rest,ef P w β hp p o1 (fV b (d1++rest)))→(∀rest,mN P w I β hp h1 u1 fun I' μ hp0=>(∀bb,bC P w o1 (fV b (d1++rest)) bb→¬I' bb)→ed P w I' μ hp0 o1 (fV b (d1++rest)))→
    ∃h' e8 d u,(k h').run C hp=some (r,e8)∧Ext P w I β hp h h' d u∧d.length=Gc (b::bs)∧
     ∀rest,(eO (b::bs) (d++rest)).length=(b::bs).length∧∃o:Nat→Option Nat,
      (∀(i:Nat) blk,(eO (b::bs) (d++rest))[i]? =some blk→∃p,en h'.pl (j+i)=some p∧ef P w β hp p (o i) blk)∧
      mN P w I β hp h' u fun I' μ hp0=> ∀(i:Nat) blk,(eO (b::bs) (d++rest))[i]? =some blk→(∀b,bC P w (o i) blk b→¬I' b)→ed P w I' μ hp0 (o i) blk:=by
   intro h1 jB d1 u1 o1 p hk he hd bx hl ht
   obtain ⟨U,td,d2,u2,b1,b2,b3,b4⟩:=Ri S hk
   refine ⟨U,td,d1++d2,u1++u2,b1,he.trans b2,by simp only[cz,Gc];omega,fun rest=> ?_⟩
   obtain ⟨c1,o,c2,c3⟩:=b4 rest
   simp only[eO]
   rw[show (d1++d2++rest).drop b.size=d2++rest by rw[cv];exact nS hd,cv]
   refine ⟨by simp[c1],fun i=>match i with|0=>o1|i+1=>o i,fun i blk hb=> ?_,fun I' μ hp0 i1 i2 ρ m dB df i blk hb cV=> ?_⟩
   ·cases i with
    | zero=>
     simp at hb
     subst hb
     exact ⟨p,b2.look (he.look bx),hl _⟩
    | succ i=>
     obtain ⟨q,e1,e2⟩:=c2 i blk (by simpa using hb)
     exact ⟨q,by rw[show j+(i+1)=j+1+i by omega];exact e1,e2⟩
   ·cases i with
    | zero=>
     simp at hb
     subst hb
     exact ((ht _).later b2) I' μ hp0 i1 i2 ρ m dB df cV
    | succ i=>exact c3.more I' μ hp0 i1 i2 ρ m dB df i blk (by simpa using hb) cV
  cases bx:en h.pl j with
  | none=>rw[bx] at hr;cases hr
  | some p=>
   rw[bx] at hr
   cases p with
   | blk id=>
    obtain ⟨l1,hr⟩:=run_get hr
    cases ab:hp id with
    | none=>rw[ab] at hr;cases hr
    | some blk=>
     rw[ab] at hr
     cases blk with
     | dead=>cases hr
     | var T0 cs=>
      cases b<;>simp only at hr<;>first|(cases hr;done)|skip
      rename_i T1 ss
      obtain ⟨hT,hr1⟩:=aK hr
      clear hr
      rw[a8] at hT
      subst hT
      have cL:=S.h.rel id _ ab
      generalize ho:β id=o at cL
      cases cL with
      | @var _ bb Ca T hb hh hs hI hx gr=>
       obtain ⟨h1,jB,d1,u1,a1,a2,a3,a5,a4⟩:=KY S hr1 (vs:=Ca.toList) (by simpa using hs) (fun j v x hj cE=>hx j v x (by simpa using hj) cE)
       refine fin (o1:=β id) a1 a2 a3 bx (fun rest=> .var ab) fun rest I' μ hp0 i1 i2 ρ m dB df cV=> ?_
       obtain ⟨k1,k2⟩:=a4 I' μ hp0 i1 i2 ρ m dB df rest
       exact .var (ho.trans hb) hh (by rw[k1];exact hs) (cV _ (.root (by simp[fV]) (ho.trans hb))) (fun i v y hi hy=>k2 i v y (by simpa using hi) hy) gr
     | arr e' es fz=>
      cases fz with
      | true=>cases hr
      | false=>
       cases b with
       | arr e fz=>
        cases fz with
        | true=>cases hr
        | false=>
         obtain ⟨hc,vb⟩:=aK hr
         clear hr
         rw[a8] at hc
         subst hc
         refine fin (d1:=[.list e es]) (o1:=β id) vb (Ext.leaf h _) rfl bx (fun rest=>ef.arr ab) fun rest I' μ hp0 i1 i2 ρ m dB df cV=> ?_
         change ed P w I' μ hp0 (β id) (.arr e es false)
         have cL:=S.h.rel id _ ab
         generalize ho:β id=o at cL cV⊢
         cases cL with
         | dQ hb=>exact .dQ hb
         | arr a1 a2 a3 a4 a5 a6 a7=>
          refine .arr a1 a2 a3 a4 (fun h=>by cases h) (fun _=>cV _ (.root (by simp[fV]) a2)) fun i j x t' y1 y2 y3=> ?_
          obtain ⟨v,z1,z2⟩:=a7 i j x t' y1 y2 y3
          exact ⟨v,z1,z2.mono i1 fun _ _=>rfl⟩
       | _=>cases hr
     | nest e' es aq=>
      cases b with
      | nest e=>
       obtain ⟨hc,vb⟩:=aK hr
       clear hr
       rw[a8] at hc
       subst hc
       refine fin (d1:=[.list e es]) (o1:=β id) vb (Ext.leaf h _) rfl bx (fun rest=>ef.nest ab) fun rest I' μ hp0 i1 i2 ρ m dB df cV=> ?_
       have Rj: ∀bb,bC P w (β id) (.nest e es [0,0,0]) bb→¬I' bb:=cV
       change ed P w I' μ hp0 (β id) (.nest e es [0,0,0])
       have cL:=S.h.rel id _ ab
       generalize ho:β id=o at cL Rj⊢
       cases cL with
       | nest hb cM oT=>
        refine .nest hb (fun q b' e1 m1 hq=> ?_) oT
        obtain ⟨ok,⟨Ca,c1,c2,c3⟩,nI⟩:=cM q b' e1 m1 hq
        refine ⟨ok,⟨Ca,c1,c2,fun i j x t' y1 y2 y3=> ?_⟩,Rj _ (.row hb hq)⟩
        obtain ⟨v,z1,z2⟩:=c3 i j x t' y1 y2 y3
        exact ⟨v,z1,z2.mono i1 (fun _ _=>rfl) fun _ _ _ _ _=>rfl⟩
      | _=>cases hr
     | map t' es=>
      cases b with
      | map t=>
       obtain ⟨hc,vb⟩:=aK hr
       clear hr
       rw[a8] at hc
       subst hc
       refine fin (d1:=[.list t es]) (o1:=β id) vb (Ext.leaf h _) rfl bx (fun rest=>ef.map ab) fun rest I' μ hp0 i1 i2 ρ m dB df cV=> ?_
       change ed P w I' μ hp0 (β id) (.map t es)
       have cL:=S.h.rel id _ ab
       generalize ho:β id=o at cL cV⊢
       cases cL with
       | map a1 a2 a3 a4 a5 a6 a7=>exact .map a1 a2 a3 a4 (cV _ (.root (by simp[fV]) a2)) a6 a7
      | _=>cases hr
   | row id ver path=>
    obtain ⟨e0,es,aq,l1,k1,k2,k3,k4,k5⟩:=oQ hr
    obtain ⟨e',vv,m1,m2,m3⟩:=xz k5
    cases b with
    | arr e fz=>
     cases fz with
     | true=>cases m3
     | false=>
      obtain ⟨hc,m4⟩:=aK m3
      clear m3
      simp only[aN,a8,jH] at hc
      obtain ⟨rfl,Bj,jR⟩:=hc
      have cL:=S.h.rel id _ k1
      cases hb:β id with
      | none=>
       rw[hb] at cL
       cases cL with
       | nest aB _ _=>cases aB
      | some b0=>
       rw[hb] at cL
       cases cL with
       | nest aB cM oT=>
        cases aB
        obtain ⟨b1,dr⟩:=Rh cM path m1 m2 jR
        refine fin (d1:=[.list e vv.toList]) (o1:=some b1) m4 (Ext.leaf h _) rfl bx (fun rest=>ef.row k1 hb dr Bj k2 k3 k4 jR) fun rest I' μ hp0 i1 i2 ρ m dB df cV=> ?_
        change ed P w I' μ hp0 (some b1) (.arr e vv.toList false)
        obtain ⟨ok,⟨Ca,c1,c2,c3⟩,nI⟩:=cM _ _ _ _ dr
        refine .arr ok rfl c1 c2 (fun h=>by cases h) (fun _=>cV _ (.root (by simp[fV]) rfl)) fun i j x t' y1 y2 y3=> ?_
        obtain ⟨v,z1,z2⟩:=c3 i j x t' y1 y2 y3
        refine ⟨v,z1,?_⟩
        generalize bQ P e x j=y at z2⊢
        cases z2 with
        | fX _ p=>exact p.mono i1 fun _ _=>rfl
        | emp hu _=>exact absurd hu (Rk Bj y2 _)
        | row hu _ _ _ _=>exact absurd hu (Rk Bj y2 _)
    | _=>cases m3
where
 Rk {e t:TypeId} {j:Nat} (h:Au P e=true) (ht:(ba P e)[j]? =some t) (e':TypeId):P.underlying t≠some (.slice e'):=by
  intro hu
  have U:=fc.1 h t (jJ ht)
  rw[hu] at U
  cases U
end
end Go.AM
