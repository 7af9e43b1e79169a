/-
  Functions of the program, lifted to plain data.
-/
import Derived.Great.BuildSlice
import Derived.Maps.Keyed
import Derived.WideKeyArr
import Derived.MapKept
import Derived.ChangeMaps4
import Derived.Carry
import Derived.Lib.AppendStr
import Derived.Laws.BytesString
import Derived.Lib.Builder
import Derived.Lib.UnsafeStr
import Derived.Test.YtppefogdkedaiaaP1
set_option linter.unusedVariables false
set_option linter.unusedSimpArgs false
namespace Go.AM
section
variable {P:Program} {w w':World} {I I':Nat→Prop} {β β':Nat→Option Nat} {hp hp':Nat→Option an} {C:ag} {B:Nat} {M:Nat→Prop} {w0:Start}
theorem Wa (S:aE P w I β hp B M w0) {t:TypeId} {a v:Value} {xa x:V} {r:R} {rd:List Nat} (ha:ao P w I β hp a xa) (hv:ao P w I β hp v x)
  (h:(Gm P t xa x).run C hp=some (r,rd)):oS P ((Instr.storeAt t a v).run P w) w I β hp B M w0 r:=by
 unfold Gm at h
 obtain ⟨h0,h⟩:=aF h
 simp only[aI,aQ] at h0
 obtain ⟨ht,hn⟩:=h0
 cases xa with
 | ptr id i c=>
  obtain ⟨l,h⟩:=run_get h
  cases ab:hp id with
  | none=>rw[ab] at h;cases h
  | some blk=>
   rw[ab] at h
   cases blk with
   | dead=>cases h
   | var T0 cs=>
    obtain ⟨Mx,h⟩:=aF h
    have lO:oJ P T0=true→0<c:=fun b9=>by
     rw[b9] at Mx
     simpa using Mx
    obtain ⟨b,hb,rfl⟩:=ha.gE ab (by simp)
    simp only[an.sz,Nat.mul_zero,fS]
    cases oR:(yq P t cs&&eD P t x) with
    | true=>
     dsimp only at h
     rw[oR] at h
     simp only[cond_true] at h
     obtain ⟨hc,h⟩:=aF h
     obtain rfl:=aL h
     simp only[aI,jK] at hc oR
     obtain ⟨o1,o2⟩:=Mq hv oR.2
     have k9:=VO oR.2
     refine Mo S ab hb ht hn (by rw[o2,k9];rfl) lO (fun j u y hu hy=> ?_) (by rw[o2];simp[o1]) (by rw[k9];simp;omega) (Mn _ _ _ _) (fun j y hy hj u hu=> ?_) (fun j y hy hj u hu=> ?_)
     ·rw[o2] at hu
      rw[k9] at hy
      cases j with
      | zero=>simp at hu hy;subst hu;subst hy;exact hv
      | succ j=>simp at hy
     ·rw[G3] at hy
      cases vM:cs[j]? with
      | none=>rw[vM] at hy;cases hy
      | some y0=>
       rw[vM] at hy
       simp only[Option.map_some,dG] at hy
       rw[k9] at hj
       simp only[List.length_singleton] at hj
       have bu:Nat.beq c (0+j)=false:=by
        cases hq:Nat.beq c (0+j) with
        | false=>rfl
        | true=>rw[aQ] at hq;omega
       rw[bu] at hy
       have:=Mc (c:=false) hv (hu y0 vM)
       rw[←hy]
       simpa using this
     ·rw[k9] at hj hu
      have Wb:j=0:=by simpa using hj
      subst Wb
      rw[G3] at hy
      cases vM:cs[c+0]? with
      | none=>rw[vM] at hy;cases hy
      | some y0=>
       rw[vM] at hy
       simp only[Option.map_some,dG] at hy
       have heq:Nat.beq c (0+(c+0))=true:=by rw[aQ];omega
       rw[heq] at hy
       have U:ao P w I β hp u x:=hu x rfl
       have:ru true x y0=x:=VP x y0
       rw[←hy,this]
       exact U
    | false=>
     dsimp only at h
     rw[oR] at h
     simp only[cond_false] at h
     obtain ⟨hc,h⟩:=aF h
     simp only[aI,dN] at hc
     obtain ⟨e1,e2⟩:=G1 hv h
     obtain ⟨h1,l2,h⟩:=CN h (vs:=v.cells.toList) (by simpa using e1) (fun j u y a b=>e2 j u y (by simpa using a) b)
     obtain rfl:=aL h
     refine Mo S ab hb ht hn e1 lO e2 h1 hc.2 (yZ _ _ _ hc.2) (fun j y hy hj u hu=> ?_) (fun j y hy hj u hu=> ?_)
     ·unfold fk at hy
      rw[mL _ _ _ _ hc.2] at hy
      rcases hj with hj|hj
      ·rw[aj hj] at hy;exact hu y hy
      ·rw[ai (by omega),ai (by omega)] at hy;exact hu y hy
     ·unfold fk at hy
      rw[mL _ _ _ _ hc.2,ai (by omega),aj (by omega)] at hy
      rw[show c+j-c=j by omega] at hy
      exact hu y hy
   | arr e es fz=>
    cases fz with
    | true=>cases h
    | false=>
    obtain ⟨b,hb,rfl⟩:=ha.gE ab (by simp)
    obtain ⟨au,h⟩:=aF h
    obtain ⟨⟨ys,fr⟩,l1,l2,bm,h⟩:=kA h
    obtain ⟨hc,h⟩:=aF h
    obtain ⟨x0,qj,h⟩:=kZ h
    obtain rfl:=aL h
    simp only[aI,ki,dN] at hc
    obtain ⟨dw,Wc,iw⟩:=hc
    have oU:v.cells.size=x.cells.length∧∀(j:Nat) u y,v.cells.toList[j]? =some u→x.cells[j]? =some y→ao P w I β hp u y:=by
     cases x with
     | agg xs=>
      obtain ⟨cs,rfl,h1,U⟩:=hv.kB
      exact ⟨h1,fun j u y a b=>U j u y (by simpa[Value.cells] using a) b⟩
     | _=>
      simp only[V.cells] at bm iw⊢
      simp only[rr] at bm
      obtain ⟨⟨y1,u1⟩,l3,l4,hq,bm⟩:=kA bm
      obtain ⟨q1,q2⟩:=CA S.h.rel hq hv
      obtain ⟨⟨y2,u2⟩,l5,l6,zb,bm⟩:=kA bm
      cases zb
      have:=aL bm
      cases this
      obtain ⟨tl,tg⟩:=ti iw
      have fc:=tg 0 _ y1 (bx (by rw[tl];exact Nat.one_pos)) rfl
      have b7:=q2 (iz P w I β hp u1) (fun _ h=> .inl h) (fun p hp b h=> .inr ⟨p,hp,h⟩)
      have ho:=b7.pure fc
      have Hg:v.cells= #[v]:=by cases ho<;>rfl
      rw[Hg]
      refine ⟨rfl,fun j u y hu hy=> ?_⟩
      cases j with
      | zero=>simp at hu hy;subst hu;subst hy;exact hv
      | succ j=>simp at hy
    obtain ⟨k1,k2,k3⟩:=GU S.h.rel bm (vs:=v.cells.toList) (by simpa using oU.1) oU.2
    obtain ⟨qh,S1⟩:=yT S k2
    have za:bE hp fr id=some (.arr e es false):=by
     rcases ta (hp:=hp) (l:=fr) (id:=id) with h|⟨b',hm,_⟩
     ·exact h.trans ab
     ·exfalso
      have Wd:jN (fr.map (·.1)) id=true:=vG (gx.2 ⟨_,hm,rfl⟩)
      rw[Wd] at dw;cases dw
    have My:=k3 (iz P w I β hp fr) (fun _ h=> .inl h) (fun p hp b h=> .inr ⟨p,hp,h⟩)
    obtain ⟨tl,tg⟩:=ti iw
    have vA:=(jV au).1
    have tm:ys.length=v.cells.size:=by rw[k1,oU.1]
    have hcn:c+v.cells.size≤P.cellsOf e:=by rw[oU.1];exact Wc
    have hr:=S1.h.rel id _ za
    cases hr with
    | dv az=>simp at qj
    | @arr _ _ _ b' Ca G0 az hh hs hf dR hx=>
     rw[hb] at az
     cases az
     have la:i<es.length:=(br.1 qj).1
     have hbound:i*P.cellsOf e+P.cellsOf e≤Ca.size:=by
      have:(i+1)*P.cellsOf e≤es.length*P.cellsOf e:=dp _ la
      rw[dc] at this
      omega
     simp only[an.sz]
     have rM:i*P.cellsOf e+c+v.cells.size≤Ca.size:=by omega
     have cJ: ¬iz P w I β hp fr b:=dR rfl
     have h1: ∀u∈v.cells.toList,u.oneCell'=true:=by
      intro u hu
      obtain ⟨j,hj⟩:=rj hu
      have b8:j<ys.length:=by rw[tm];simpa using (br.1 hj).1
      have nT:j<(((flat P e).drop c).take x.cells.length).length:=by rw[tl];exact b8
      exact (My j u ys[j] hj (bx b8)).one (tg j _ ys[j] (bx nT) (bx b8))
     have cR:=G2 (t:=t) (o:=i*P.cellsOf e+c) (v:=v) ht (by rw[oU.1];exact hn.symm) hh rM h1
     have hlen:(Ca.toList.take (i*P.cellsOf e+c)++(v.cells.toList++Ca.toList.drop (i*P.cellsOf e+c+v.cells.toList.length))).length=Ca.size:=by
      rw[yZ _ _ _ (by simpa using rM)];simp
     have b7:(parts P e x0).length=P.cellsOf e:=by rw[vD];exact fb au
     have y4:=CO S1 (blk':= .arr e (es.set i (ct P e (fk (parts P e x0) c ys))) false)
      (Cb:=(Ca.toList.take (i*P.cellsOf e+c)++(v.cells.toList++Ca.toList.drop (i*P.cellsOf e+c+v.cells.toList.length))).toArray) za (by simp) ⟨rfl,by simp⟩ hb cJ (by simp) hh (by simpa using hlen)
      (fun hle eF=> .arr au rfl eF (by simp only[pH,nz];omega) (fun h=>by cases h) (fun _=>cJ) fun i' j z t' hz nT hj=>by
       simp only[mu]
       rw[mL _ _ _ _ (by simpa using rM)]
       simp only[Array.length_toList]
       rw[List.getElem?_set] at hz
       by_cases iD:i=i'
       ·subst iD
        rw[aj rfl,aj la] at hz
        cases hz
        have CX:j<(parts P e x0).length:=by omega
        have tn:(fk (parts P e x0) c ys)[j]? =if j<c then (parts P e x0)[j]? else if j<c+ys.length then ys[j-c]? else (parts P e x0)[j]? :=by
         unfold fk;exact mL _ _ _ _ (by omega)
        by_cases qc:j<c
        ·rw[aj (by omega)]
         rw[aj qc] at tn
         obtain ⟨u,t2,a1,a2,a3⟩:=CK hx au qj (bx CX)
         rw[nT] at a1;cases a1
         refine ⟨u,by simpa using a2,?_⟩
         rw[qd (tn.trans (bx CX)) nT]
         exact a3.mono hle.c9 hle.b6
        ·rw[ai qc] at tn
         by_cases fM:j<c+ys.length
         ·rw[aj fM] at tn
          rw[ai (by omega),aj (by omega)]
          have oV:j-c<ys.length:=by omega
          have Mz:j-c<v.cells.toList.length:=by simp;omega
          have ahp:j-c<v.cells.size:=by omega
          refine ⟨v.cells.toList[j-c],?_,?_⟩
          ·rw[show i*P.cellsOf e+j-(i*P.cellsOf e+c)=j-c by omega]
           exact bx Mz
          ·rw[qd (tn.trans (bx oV)) nT]
           have We:(((flat P e).drop c).take x.cells.length)[j-c]? =some t':=by
            rw[eJ (by omega),gQ,show c+(j-c)=j by omega,←rJ]
            exact nT
           exact ((My (j-c) _ ys[j-c] (bx Mz) (bx oV)).pure (tg (j-c) t' ys[j-c] We (bx oV))).mono hle.c9 hle.b6
         ·rw[ai fM] at tn
          rw[ai (by omega),ai (by omega)]
          obtain ⟨u,t2,a1,a2,a3⟩:=CK hx au qj (bx CX)
          rw[nT] at a1;cases a1
          refine ⟨u,by simpa using a2,?_⟩
          rw[qd (tn.trans (bx CX)) nT]
          exact a3.mono hle.c9 hle.b6
       ·rw[ai iD] at hz
        obtain ⟨u,a2,a3⟩:=hx i' j z t' hz nT hj
        have bu:i'*P.cellsOf e+j<i*P.cellsOf e+c∨i*P.cellsOf e+c+v.cells.size≤i'*P.cellsOf e+j:=by
         rcases oE i' i with aO|oW
         ·left
          have:(i'+1)*P.cellsOf e≤i*P.cellsOf e:=dp _ aO
          rw[dc] at this
          omega
         ·right
          have:(i+1)*P.cellsOf e≤i'*P.cellsOf e:=dp _ (by omega)
          rw[dc] at this
          omega
        refine ⟨u,?_,a3.mono hle.c9 hle.b6⟩
        rcases bu with bu|bu
        ·rw[aj bu];simpa using a2
        ·rw[ai (by omega),ai (by omega)];simpa using a2)
     exact ⟨_,_,_,cR,qh.trans y4.1,y4.2,rfl⟩
   | map _ _=>cases h
   | nest e es aq=>
    obtain ⟨b,hb,rfl⟩:=ha.gE ab (by simp)
    exact Mw S ht hn hv ab hb .here h
 | cz id ver path i c=>
  obtain ⟨e0,es,aq,l,ab,h1,U,h3,h⟩:=nO h
  obtain ⟨b,b1,e1,l1,hb,da,rfl⟩:=ha.L9 ab h1 U h3
  exact Mw S ht hn hv ab hb da h
 | _=>cases h
end
section
variable {P:Program} {w w':World} {I I':Nat→Prop} {β β':Nat→Option Nat} {hp hp':Nat→Option an} {C:ag} {B:Nat} {M:Nat→Prop} {w0:Start}
theorem Hh: ∀{ts:List TypeId} {vs:List Value} {j:Nat} {y:V},(iQ P ts vs)[j]? =some y→∃t v,ts[j]? =some t∧vs[j]? =some v∧y=oI P t v
 | [],vs,j,y,h=>by simp[iQ] at h
 | _::_,[],j,y,h=>by simp[iQ] at h
 | t::ts,v::vs,0,y,h=>by simp[iQ] at h;exact ⟨t,v,rfl,rfl,h.symm⟩
 | t::ts,v::vs,j+1,y,h=>by
  simp only[iQ,List.getElem?_cons_succ] at h
  obtain ⟨t',v',a,b,c⟩:=Hh h
  exact ⟨t',v',by simpa using a,by simpa using b,c⟩
theorem MA: ∀{ts:List TypeId} {vs:List Value},ts.length=vs.length→(iQ P ts vs).length=vs.length
 | [],[],_=>rfl
 | [],_::_,h=>by simp at h
 | _::_,[],h=>by simp at h
 | t::ts,v::vs,h=>by simp[iQ,MA (ts:=ts) (vs:=vs) (by simpa using h)]
theorem jY {e:TypeId} (h:cK P e=true): ∃i z,P.info? e=some i∧i.zero=some z∧i.size=P.cellsOf e∧z.cells.size=P.cellsOf e∧zeroCells P e=iQ P (flat P e) z.cells.toList:=by
 unfold cK at h
 simp only[aI,aQ,jK] at h
 obtain ⟨h1,U,_,h3⟩:=h
 cases hi:P.info? e with
 | none=>rw[hi] at h3;cases h3
 | some i=>
  rw[hi] at h3
  simp only[Option.bind_some] at h3
  cases hz:i.zero with
  | none=>rw[hz] at h3;cases h3
  | some z=>
   rw[hz] at h3
   simp only[aQ] at h3
   exact ⟨i,z,rfl,hz,by simp[Program.cellsOf,hi],h3,by simp[zeroCells,hi,hz]⟩
theorem MB {e:TypeId} (h:cK P e=true): ∃i z,P.info? e=some i∧i.zero=some z∧z.cells.size=(zeroCells P e).length∧z.cells.size=P.cellsOf e∧
  ∀(j:Nat) v x,z.cells[j]? =some v→(zeroCells P e)[j]? =some x→ao P w I β hp v x:=by
 obtain ⟨i,z,h1,U,h3,h4,h5⟩:=jY h
 have hl:(flat P e).length=z.cells.toList.length:=by rw[(jV h).1];simpa using h4.symm
 refine ⟨i,z,h1,U,?_,h4,fun j v x hv hx=> ?_⟩
 ·rw[h5,MA hl];simp
 ·rw[h5] at hx
  obtain ⟨t,v',_,vE,rfl⟩:=Hh hx
  have:v'=v:=by
   have e1:z.cells[j]? =some v':=by simpa using vE
   rw[hv] at e1;exact (cY e1).symm
  subst this
  exact ao.const t v'
theorem mM {nb:Nat} {b:an} {v:V} {upd:List (Nat × an)} {r:R} {rd:List Nat} (h:(iR nb b v upd).run C hp=some (r,rd)):hp nb=none∧r=⟨v,(nb,b)::upd⟩:=by
 obtain ⟨l,h⟩:=run_get h
 cases hn:hp nb with
 | none=>rw[hn] at h;exact ⟨rfl,(aL h).symm⟩
 | some x=>rw[hn] at h;cases h
theorem MC (S:aE P w I β hp B M w0) {nb:Nat} {xs:List V} {C0:Array Value} {T:TypeId} (hn:hp nb=none) (hs:C0.size=xs.length)
  (hx: ∀(j:Nat) v x,C0[j]? =some v→xs[j]? =some x→ao P w I β hp v x) (fL:L4 P w.heap.size T C0):
  Le P w I β hp (w.alloc (.cells C0 T)) I (aG β nb (some w.heap.size)) (aG hp nb (some (.var T xs)))∧aE P (w.alloc (.cells C0 T)) I (aG β nb (some w.heap.size)) (aG hp nb (some (.var T xs))) B M w0∧
  ao P (w.alloc (.cells C0 T)) I (aG β nb (some w.heap.size)) (aG hp nb (some (.var T xs))) (.pointer (some ⟨w.heap.size,0,none⟩)) (.ptr nb 0 0):=by
 obtain ⟨h1,U⟩:=GW S (blk:= .var T xs) (c:=C0) (T:=T) hn (fun b' h=>(cY (h.flat (by simp))).symm) (fun hle eF cJ=> .var rfl eF hs cJ (fun j v x a b=>(hx j v x a b).mono hle) fL)
 refine ⟨h1,U,?_⟩
 have:=ao.ptr (P:=P) (w:=w.alloc (.cells C0 T)) (I:=I) (β:=aG β nb (some w.heap.size)) (hp:=aG hp nb (some (.var T xs))) (i:=0) (c:=0) (blk:= .var T xs) (cQ _ _ _) (by simp) (cQ _ _ _)
 simpa using this
theorem Wf (S:aE P w I β hp B M w0) {e:TypeId} {nb:Nat} {r:R} {rd:List Nat}
  (h:(Rd.aA (cK P e&&(!(oJ P e)||LY (zeroCells P e))) (iR nb (.var e (zeroCells P e)) (.ptr nb 0 0) [])).run C hp=some (r,rd)):cU P ((Instr.alloc e true (.tuple #[])).run P w) w I β hp B M w0 r:=by
 obtain ⟨au,h⟩:=aF h
 rw[aI] at au
 obtain ⟨au,lO⟩:=au
 obtain ⟨hn,rfl⟩:=mM h
 obtain ⟨i,z,h1,U,h3,h4,h5⟩:=MB (w:=w) (I:=I) (β:=β) (hp:=hp) au
 obtain ⟨a,b,c⟩:=MC S (T:=e) hn h3 h5 fun b9=>by
  rw[b9,pI,Bool.false_or] at lO
  cases hz:zeroCells P e with
  | nil=>rw[hz] at lO;cases lO
  | cons y l=>
   rw[hz] at lO h3 h5
   cases y<;>first|(cases lO;done)|skip
   have aO:0<z.cells.size:=by rw[h3];simp
   have:=h5 0 z.cells[0] .c8 (kj aO) rfl
   left
   rw[kj aO]
   generalize z.cells[0]=u at this
   cases this;rfl
 exact ⟨_,_,_,_,by simp[Instr.alloc,zeroValue,typeInfo,h1,U,newVar,newRow],a,b,c⟩
theorem Wg (S:aE P w I β hp B M w0) {e:TypeId} {nb:Nat} {x:V} {v:Value} {r:R} {rd:List Nat} (hv:ao P w I β hp v x)
  (h:(Rd.aA (!(oJ P e)) <| kU x.cells (iR nb (.var e x.cells) (.ptr nb 0 0) [])).run C hp=some (r,rd)):cU P ((Instr.box e v).run P w) w I β hp B M w0 r:=by
 obtain ⟨lO,h⟩:=aF h
 obtain ⟨e1,e2⟩:=G1 hv h
 obtain ⟨_,l,h⟩:=CN h (vs:=v.cells.toList) (by simpa using e1) (fun j u y a b=>e2 j u y (by simpa using a) b)
 obtain ⟨hn,rfl⟩:=mM h
 obtain ⟨a,b,c⟩:=MC S (T:=e) hn e1 e2 fun b9=>by rw[b9] at lO;cases lO
 exact ⟨_,_,_,_,by simp[Instr.box,newVar,newRow],a,b,c⟩
theorem foldl_set (off:Nat): ∀(vs:List Value) (k:Nat) (cs:Array Value) (i:Nat),off+k+vs.length≤cs.size→
  ((vs.zipIdx k).foldl (fun cs p=>cs.setIfInBounds (off+p.2) p.1) cs)[i]? =if i<off+k then cs[i]? else if i<off+k+vs.length then vs[i-(off+k)]? else cs[i]?
 | [],k,cs,i,h=>by simp;intro h1 U;omega
 | v::vs,k,cs,i,h=>by
  simp only[List.zipIdx_cons,List.foldl_cons]
  simp only[List.length_cons] at h⊢
  rw[foldl_set off vs (k+1) _ i (by simp;omega)]
  by_cases h1:i<off+k
  ·rw[aj (by omega),aj h1]
   rw[BR (by omega)]
  ·rw[ai h1]
   by_cases U:i=off+k
   ·subst U
    rw[aj (by omega),aj (by omega)]
    rw[Gj (by omega)]
    simp
   ·rw[ai (by omega)]
    by_cases h3:i<off+k+(vs.length+1)
    ·rw[aj (by omega),aj h3,show i-(off+k)=(i-(off+(k+1)))+1 by omega]
     simp
    ·rw[ai (by omega),ai h3,BR (by omega)]
theorem MD (off:Nat): ∀(vs:List Value) (k:Nat) (cs:Array Value),((vs.zipIdx k).foldl (fun cs p=>cs.setIfInBounds (off+p.2) p.1) cs).size=cs.size
 | [],k,cs=>rfl
 | v::vs,k,cs=>by
  simp only[List.zipIdx_cons,List.foldl_cons]
  rw[MD off vs (k+1)]
  simp
theorem ME {cells:Array Value} {off:Nat} {v:Value} (h:off+v.cells.size≤cells.size) (i:Nat):
  (v.cells.zipIdx.foldl (fun cs (p:Value × Nat)=>cs.setIfInBounds (off+p.2) p.1) cells)[i]? =if i<off then cells[i]? else if i<off+v.cells.size then v.cells[i-off]? else cells[i]? :=by
 have:=foldl_set off v.cells.toList 0 cells i (by simpa using h)
 rw[←BT]
 simpa[Array.toList_zipIdx] using this
theorem MF {cells:Array Value} {off:Nat} {v:Value}:(v.cells.zipIdx.foldl (fun cs (p:Value × Nat)=>cs.setIfInBounds (off+p.2) p.1) cells).size=cells.size:=by
 have:=MD off v.cells.toList 0 cells
 rw[←BT]
 simpa[Array.toList_zipIdx] using this
inductive vN (P:Program) (w:World) (I:Nat→Prop) (β:Nat→Option Nat) (hp:Nat→Option an):List (Nat × Value)→List (Nat × V)→Prop
 | nil:vN P w I β hp [] []
 | cons {i:Nat} {v:Value} {x:V} {vs:List (Nat × Value)} {xs:List (Nat × V)}:v.cells.size=x.cells.length→(∀(j:Nat) u y,v.cells[j]? =some u→x.cells[j]? =some y→ao P w I β hp u y)→
   vN P w I β hp vs xs→vN P w I β hp ((i,v)::vs) ((i,x)::xs)
theorem MG (place:Nat→Option (Nat × Nat)): ∀{vs:List (Nat × Value)} {px:List (Nat × V)} {cells:Array Value} {xs ys:List V},vN P w I β hp vs px→cells.size=xs.length→
  (∀(j:Nat) v x,cells[j]? =some v→xs[j]? =some x→ao P w I β hp v x)→sU place xs px=some ys→
  ∃oX:Array Value,Instr.fill place cells vs=some oX∧oX.size=ys.length∧∀(j:Nat) v x,oX[j]? =some v→ys[j]? =some x→ao P w I β hp v x
 | _,_,cells,xs,ys,.nil,hs,hx,h=>by
  simp only[sU,dG] at h
  subst h
  exact ⟨cells,by simp[Instr.fill],hs,hx⟩
 | _,_,cells,xs,ys,@vN.cons _ _ _ _ _ i v x vs px h1 U h3,hs,hx,h=>by
  simp only[sU] at h
  cases b7:place i with
  | none=>rw[b7] at h;cases h
  | some os=>
   obtain ⟨off,size⟩:=os
   rw[b7] at h
   simp only at h
   cases hc:(Nat.beq x.cells.length size&&Nat.ble (off+size) xs.length) with
   | false=>rw[hc] at h;cases h
   | true=>
    rw[hc] at h
    simp only[cond_true] at h
    simp only[aI,aQ,dN] at hc
    have hv:off+v.cells.size≤cells.size:=by omega
    have hb:off+x.cells.length≤xs.length:=by omega
    have hl:(fk xs off x.cells).length=xs.length:=yZ _ _ _ hb
    obtain ⟨oX,f1,f2,f3⟩:=MG place (cells:=v.cells.zipIdx.foldl (fun cs (p:Value × Nat)=>cs.setIfInBounds (off+p.2) p.1) cells) (xs:=fk xs off x.cells) h3 (by rw[MF,hl,hs])
     (fun j u y hu hy=>by
      rw[ME hv] at hu
      unfold fk at hy
      rw[mL _ _ _ _ hb] at hy
      by_cases j1:j<off
      ·rw[aj j1] at hu hy;exact hx j u y hu hy
      ·rw[ai j1] at hu hy
       by_cases j2:j<off+x.cells.length
       ·rw[aj (by omega)] at hu
        rw[aj j2] at hy
        exact U (j-off) u y hu hy
       ·rw[ai (by omega)] at hu
        rw[ai j2] at hy
        exact hx j u y hu hy) h
    refine ⟨oX,?_,f2,f3⟩
    simp only[Instr.fill,b7]
    rw[ai (by simp;omega)]
    exact f1
theorem Wh {t:TypeId} {parts:Array (Nat × Value)} {cells:Array Value} {z:Value} {i:TypeInfo} (hi:P.info? t=some i) (hz:i.zero=some z) (h:Instr.fill (placeOf P t) z.cells parts.toList=some cells) (ha:bD P t=true)
  (b7: ∀fs,P.underlying t=some (.struct fs)→(fs.toList.mapM fun f=>(P.info? f.type).map fun i=>(f.offset,i.size)).isSome=true) (qk: ∀n e,P.underlying t=some (.array n e)→(P.info? e).isSome=true):
  (Instr.build t parts).run P w= .ok (.agg cells) w:=by
 refine run_build w t parts cells ?_
 unfold Program.built
 unfold bD at ha
 rw[hi]
 split at ha
 ·rename_i fs hu
  have:=b7 fs hu
  cases hm:fs.toList.mapM fun f=>(P.info? f.type).map fun i=>(f.offset,i.size) with
  | none=>rw[hm] at this;cases this
  | some GA=>
   simp only[hu,hz,hm]
   have hq:placeOf P t=fun i=>GA[i]? :=by simp[placeOf,hu,hm]
   rw[hq] at h
   simpa using h
 ·rename_i n e hu
  have:=qk n e hu
  cases jw:P.info? e with
  | none=>rw[jw] at this;cases this
  | some ie=>
   simp only[hu,hz,jw]
   have hq:placeOf P t=fun i=>some (i*ie.size,ie.size):=by simp[placeOf,hu,jw]
   rw[hq] at h
   exact h
 ·cases ha
theorem MH {α:Type}: ∀(xs ys:List V) (k:Rd α),kU (xs++ys) k=kU xs (kU ys k)
 | [],_,_=>rfl
 | x::xs,ys,k=>by simp only[List.cons_append,kU,MH xs ys k]
theorem MI {a:Act} {sl:Nat→V} (hs:kz P w I β hp a sl) {G:Nat→V} (hg:fR P G w I) (t:TypeId) {α:Type}: ∀{l:List (Nat × Operand)} {k:Rd α} {r:α} {rd:List Nat},
  (kU ((l.map fun p=>(aM P G t sl p.2).cells).flatten) k).run C hp=some (r,rd)→
  vN P w I β hp (l.map fun p=>(p.1,a.eval p.2)) (l.map fun p=>(p.1,aM P G t sl p.2))∧∃eG,k.run C hp=some (r,eG)
 | [],k,r,rd,h=>⟨.nil,rd,h⟩
 | (i,x)::l,k,r,rd,h=>by
  simp only[cO,List.flatten_cons,MH] at h
  obtain ⟨e1,e2⟩:=G1 (hs.ev hg t x) h
  obtain ⟨_,l1,h⟩:=CN h (vs:=(a.eval x).cells.toList) (by simpa using e1) (fun j u y a b=>e2 j u y (by simpa using a) b)
  obtain ⟨h1,U⟩:=MI hs hg t h
  exact ⟨.cons e1 e2 h1,U⟩
theorem Wi (S:aE P w I β hp B M w0) {a:Act} {sl:Nat→V} (hs:kz P w I β hp a sl) {G:Nat→V} (hg:fR P G w I) {t ty:TypeId} {ps:Array (Nat × Operand)} {r:R} {rd:List Nat}
  (h:(Rd.aA (cK P t&&(bD P t&&Cl P t)) (kU ((ps.toList.map fun p=>(aM P G ty sl p.2).cells).flatten)
   (vh (sU (placeOf P t) (zeroCells P t) (ps.toList.map fun p=>(p.1,aM P G ty sl p.2))) fun cs=> .ret ⟨.agg cs,[]⟩))).run C hp=some (r,rd)):
  cU P ((Instr.build t (ps.map fun (i,x)=>(i,a.eval x))).run P w) w I β hp B M w0 r:=by
 obtain ⟨au,h⟩:=aF h
 simp only[aI] at au
 obtain ⟨h1,l,h⟩:=MI hs hg ty h
 cases hf:sU (placeOf P t) (zeroCells P t) (ps.toList.map fun p=>(p.1,aM P G ty sl p.2)) with
 | none=>rw[hf] at h;cases h
 | some cs=>
  rw[hf] at h
  obtain rfl:=aL h
  obtain ⟨i,z,hi,hz,h3,h4,h5⟩:=MB (w:=w) (I:=I) (β:=β) (hp:=hp) au.1
  obtain ⟨cells,f1,f2,f3⟩:=MG (placeOf P t) h1 h3 h5 hf
  have MJ:=au.2.2
  refine .same S (v:= .agg cells) (Wh hi hz (by simpa using f1) au.2.1 (fun fs hu=> ?_) (fun n e hu=> ?_)) (.agg f2 f3)
  ·simpa[Cl,hu] using MJ
  ·simpa[Cl,hu] using MJ
theorem Wj (cC: ∀id blk,hp id=some blk→dI P w I β hp (β id) blk) {x:V} {v:Value} {ys:List V} {fr:List (Nat × an)} {rd:List Nat} {ts:List TypeId} (hv:ao P w I β hp v x)
  (h:(rr P x.cells).run C hp=some ((ys,fr),rd)) (ht:pN P ts ys=true):
  v.cells.size=x.cells.length∧∀(j:Nat) u y,v.cells.toList[j]? =some u→x.cells[j]? =some y→ao P w I β hp u y:=by
 cases x with
 | agg xs=>
  obtain ⟨cs,rfl,h1,U⟩:=hv.kB
  exact ⟨h1,fun j u y a b=>U j u y (by simpa[Value.cells] using a) b⟩
 | _=>
  simp only[V.cells] at h⊢
  simp only[rr] at h
  obtain ⟨⟨y1,u1⟩,l3,l4,hq,h⟩:=kA h
  obtain ⟨q1,q2⟩:=CA cC hq hv
  obtain ⟨⟨y2,u2⟩,l5,l6,zb,h⟩:=kA h
  cases zb
  have:=aL h
  cases this
  obtain ⟨tl,tg⟩:=ti ht
  have fc:=tg 0 _ y1 (bx (by rw[tl];exact Nat.one_pos)) rfl
  have b7:=q2 (iz P w I β hp u1) (fun _ h=> .inl h) (fun p hp b h=> .inr ⟨p,hp,h⟩)
  have ho:=b7.pure fc
  have Hg:v.cells= #[v]:=by cases ho<;>rfl
  rw[Hg]
  refine ⟨rfl,fun j u y hu hy=> ?_⟩
  cases j with
  | zero=>simp at hu hy;subst hu;subst hy;exact hv
  | succ j=>simp at hy
def vO (P:Program) (w:World) (I:Nat→Prop) (e:TypeId) (cells:Array Value) (es:List V):Prop:=
 cells.size=es.length*P.cellsOf e∧∀(i j:Nat) (x:V) (t':TypeId),es[i]? =some x→(aS P e)[j]? =some t'→j<P.cellsOf e→∃v,cells[i*P.cellsOf e+j]? =some v∧Pure P w I t' v (bH P e x j)
theorem vO.set {e:TypeId} {cells:Array Value} {es ys:List V} {i:Nat} {v:Value} (h:vO P w I e cells es) (hi:i<es.length) (hv:v.cells.size=P.cellsOf e) (hy:ys.length=P.cellsOf e)
  (hr: ∀(j:Nat) (t':TypeId) (u:Value) (y:V),(aS P e)[j]? =some t'→v.cells[j]? =some u→ys[j]? =some y→Pure P w I t' u y):
  vO P w I e (v.cells.zipIdx.foldl (fun cs (p:Value × Nat)=>cs.setIfInBounds (i*P.cellsOf e+p.2) p.1) cells) (es.set i (ct P e ys)):=by
 obtain ⟨h1,U⟩:=h
 have hb:i*P.cellsOf e+v.cells.size≤cells.size:=by
  have:(i+1)*P.cellsOf e≤es.length*P.cellsOf e:=dp _ hi
  rw[dc] at this
  omega
 refine ⟨by rw[MF,nz,h1],fun i' j x t' hx ht hj=> ?_⟩
 rw[ME hb]
 rw[List.getElem?_set] at hx
 by_cases iD:i=i'
 ·subst iD
  rw[aj rfl,aj hi] at hx
  cases hx
  rw[ai (by omega),aj (by omega),show i*P.cellsOf e+j-i*P.cellsOf e=j by omega]
  have h3:j<v.cells.size:=by omega
  have h4:j<ys.length:=by omega
  refine ⟨v.cells[j],kj h3,?_⟩
  rw[qd (bx h4) ht]
  exact hr j t' _ _ ht (kj h3) (bx h4)
 ·rw[ai iD] at hx
  have bu:i'*P.cellsOf e+j<i*P.cellsOf e∨i*P.cellsOf e+v.cells.size≤i'*P.cellsOf e+j:=by
   rcases oE i' i with aO|oW
   ·left
    have:(i'+1)*P.cellsOf e≤i*P.cellsOf e:=dp _ aO
    rw[dc] at this
    omega
   ·right
    have:(i+1)*P.cellsOf e≤i'*P.cellsOf e:=dp _ (by omega)
    rw[dc] at this
    omega
  rcases bu with bu|bu
  ·rw[aj bu];exact U i' j x t' hx ht hj
  ·rw[ai (by omega),ai (by omega)];exact U i' j x t' hx ht hj
theorem Wk {t':TypeId} {v:Value} (fc:eD P t' (va (oI P t' v))=true):Pure P w I t' v (va (oI P t' v)):=by
 have hc:=ao.const (P:=P) (w:=w) (I:=I) (β:=fun _=>none) (hp:=fun _=>none) t' v
 cases tp:oI P t' v<;>rw[tp] at fc hc<;>simp only[va] at fc⊢
 case int k n=>rw[hc.dJ];exact Plain.pure (v:= .int k n) (y:= .int k n) rfl fc
 case bool b=>rw[hc.jW];exact Plain.pure (v:= .bool b) (y:= .bool b) rfl fc
 case str l=>obtain ⟨s,e1,e2⟩:=hc.lN;rw[e1];exact Plain.pure (v:= .string s) (y:= .str l) ⟨s,rfl,e2⟩ fc
 case nilS e'=>
  cases hc
  exact Plain.pure (y:= .list e' []) (iv.any fun _=>rfl) fc
 case list e' es=>
  cases hc with
  | list hp=>exact Plain.pure (y:= .list e' es) hp fc
 all_goals (unfold eD at fc;split at fc<;>simp_all)
theorem zc {e:TypeId} (h:lG P e=true): ∃i z,P.info? e=some i∧i.zero=some z∧i.size=P.cellsOf e∧z.cells.size=P.cellsOf e∧
  ∀(j:Nat) (t':TypeId),(aS P e)[j]? =some t'→j<P.cellsOf e→∃v,z.cells[j]? =some v∧Pure P w I t' v (bH P e (ct P e (ei P e)) j):=by
 unfold lG at h
 simp only[aI] at h
 obtain ⟨i,z,h1,U,h3,h4,h5⟩:=jY h.1
 refine ⟨i,z,h1,U,h3,h4,fun j t' ht hj=> ?_⟩
 obtain ⟨tl,tg⟩:=ti h.2
 have b8:j<(ei P e).length:=by rw[←tl,(jV h.1).1];exact hj
 have hz:=bx b8
 have fc:=tg j t' _ (by rw[←rJ];exact ht) hz
 refine ⟨z.cells[j],kj (by omega),?_⟩
 rw[qd hz ht]
 have tq:(ei P e)[j]=va (oI P t' z.cells[j]):=by
  have:(ei P e)[j]? =((zeroCells P e)[j]?).map va:=by simp[ei]
  rw[hz] at this
  cases hc:(zeroCells P e)[j]? with
  | none=>rw[hc] at this;cases this
  | some y=>
   rw[hc] at this
   simp only[Option.map_some,dG] at this
   rw[h5] at hc
   obtain ⟨t2,v2,a1,a2,rfl⟩:=Hh hc
   have Wl:t2=t':=by
    rw[←rJ,ht] at a1;exact (cY a1).symm
   have p6:v2=z.cells[j]:=by
    have Wm:j<z.cells.size:=by omega
    have:z.cells.toList[j]? =some z.cells[j]:=by simp[Wm]
    rw[this] at a2;exact (cY a2).symm
   rw[this,Wl,p6]
 rw[tq] at fc⊢
 exact Wk fc
end
section
variable {P:Program} {w w':World} {I I':Nat→Prop} {β β':Nat→Option Nat} {hp hp':Nat→Option an} {C:ag} {B:Nat} {M:Nat→Prop} {w0:Start}
theorem vP (S:aE P w I β hp B M w0) {nb cap:Nat} {e:TypeId} {es:List V} {C0:Array Value} (au:cK P e=true) (hn:hp nb=none) (hs:C0.size=cap*P.cellsOf e) (hl:es.length≤cap) (hm:cap≤maxLen)
  (hx: ∀(i j:Nat) (x:V) (t':TypeId),es[i]? =some x→(aS P e)[j]? =some t'→j<P.cellsOf e→∃v,C0[i*P.cellsOf e+j]? =some v∧Pure P w I t' v (bH P e x j)):
  Le P w I β hp (w.alloc (.cells C0 e)) I (aG β nb (some w.heap.size)) (aG hp nb (some (.arr e es false)))∧aE P (w.alloc (.cells C0 e)) I (aG β nb (some w.heap.size)) (aG hp nb (some (.arr e es false))) B M w0∧
  ao P (w.alloc (.cells C0 e)) I (aG β nb (some w.heap.size)) (aG hp nb (some (.arr e es false))) (.slice (some ⟨w.heap.size,0,none⟩) es.length cap) (.whole e nb):=by
 obtain ⟨h1,U⟩:=GW S (blk:= .arr e es false) (c:=C0) (T:=e) hn (fun b' h=>(cY (h.flat (by simp))).symm) (fun hle eF cJ=> .arr au rfl eF (by rw[hs];exact dp _ hl) (fun h=>by cases h) (fun _=>cJ) fun i j x t' a b c=>by
  obtain ⟨v,hv,hp⟩:=hx i j x t' a b c
  exact ⟨v,hv,hp.mono hle.c9 hle.b6⟩)
 refine ⟨h1,U,.whole (cQ _ _ _) (cQ _ _ _) ?_ hl hm⟩
 rw[mH (heap_alloc_new w (.cells C0 e)),hs]
theorem At.only {b b':Nat} {e e':TypeId} {es aH:List V} {q:Path} (hz: ∀(i j:Nat) x t' e1 l,es[i]? =some x→(aS P e)[j]? =some t'→bH P e x j= .list e1 l→l=[])
  (h:At P w b e es q b' e' aH):q=[]∧b'=b∧e'=e∧aH=es:=by
 cases h with
 | here=>exact ⟨rfl,rfl,rfl,rfl⟩
 | step h1 U h3 h4 h5 h6=>have:=hz _ _ _ _ _ _ U h3 h5;subst this;simp at h6
theorem lM.pY {t:TypeId} {v:Value} {x:V} (h:Pure P w I t v x) (hz: ∀e1 l,x= .list e1 l→l=[]):lM P w I t v x:=by
 cases h with
 | int h=>exact .ft (by unfold fm;rw[h]) (.int h)
 | bool h=>exact .ft (by unfold fm;rw[h]) (.bool h)
 | str h hl=>exact .ft (by unfold fm;rw[h]) (.str h hl)
 | nil h=>exact .emp h fun _=>rfl
 | emp h=>exact .emp h fun h=>by cases h
 | list g hu hl _ _ _ _=>
  have:=hz _ _ rfl
  subst this
  simp at hl
  subst hl
  exact .emp hu fun h=>by cases h
theorem Wn (S:aE P w I β hp B M w0) {nb cap:Nat} {e:TypeId} {es:List V} {C0:Array Value} (au:cK P e=true) (hn:hp nb=none) (hs:C0.size=cap*P.cellsOf e) (hl:es.length≤cap) (hm:cap≤maxLen)
  (hx: ∀(i j:Nat) (x:V) (t':TypeId),es[i]? =some x→(aS P e)[j]? =some t'→j<P.cellsOf e→∃v,C0[i*P.cellsOf e+j]? =some v∧Pure P w I t' v (bH P e x j))
  (hz: ∀(i j:Nat) x t' e1 l,es[i]? =some x→(aS P e)[j]? =some t'→bH P e x j= .list e1 l→l=[]):
  Le P w I β hp (w.alloc (.cells C0 e)) I (aG β nb (some w.heap.size)) (aG hp nb (some (.nest e es [0,0,0])))∧aE P (w.alloc (.cells C0 e)) I (aG β nb (some w.heap.size)) (aG hp nb (some (.nest e es [0,0,0]))) B M w0∧
  ao P (w.alloc (.cells C0 e)) I (aG β nb (some w.heap.size)) (aG hp nb (some (.nest e es [0,0,0]))) (.slice (some ⟨w.heap.size,0,none⟩) es.length cap) (.whole e nb):=by
 obtain ⟨h1,U⟩:=GW S (blk:= .nest e es [0,0,0]) (c:=C0) (T:=e) hn (fun b' h=>by
   cases h with
   | root _ h=>exact (cY h).symm
   | row h ha=>cases h;exact (At.only hz ha).2.1)
  (fun hle eF cJ=> .nest rfl (fun q b' e' aH ha=>by
   obtain ⟨rfl,rfl,rfl,rfl⟩:=At.only hz ha
   refine ⟨au,⟨C0,eF,by rw[hs];exact dp _ hl,fun i j x t' a b c=> ?_⟩,cJ⟩
   obtain ⟨v,hv,hp⟩:=hx i j x t' a b c
   exact ⟨v,hv,.pY (hp.mono hle.c9 hle.b6) fun e1 l h=>hz i j x t' e1 l a b h⟩)
   fun q1 q2 b' e1 cg e2 bS a1 a2=>(At.only hz a1).1.trans (At.only hz a2).1.symm)
 refine ⟨h1,U,.dZ (cQ _ _ _) (cQ _ _ _) ?_ hl hm⟩
 rw[mH (heap_alloc_new w (.cells C0 e)),hs]
theorem MK (cC: ∀id blk,hp id=some blk→dI P w I β hp (β id) blk) {a:Act} {sl:Nat→V} (hs:kz P w I β hp a sl) {G:Nat→V} (hg:fR P G w I) {e:TypeId} {len:Nat}: ∀{l:List (Nat × Operand)} {ps:List (Nat × V)} {upd:List (Nat × an)} {rd:List Nat},
  (yv P e len (l.map fun p=>(p.1,aM P G e sl p.2))).run C hp=some ((ps,upd),rd)→cK P e=true→(∀p∈upd,yP hp p)∧∀I':Nat→Prop,(∀b,I b→I' b)→(∀p∈upd,∀b,rI P w β hp p.1 b→I' b)→
   ∀(cells:Array Value) (es:List V),es.length=len→vO P w I' e cells es→∃oX,Instr.fill (fun i=>some (i*P.cellsOf e,P.cellsOf e)) cells (l.map fun p=>(p.1,a.eval p.2))=some oX∧vO P w I' e oX (yu es ps)∧(yu es ps).length=len
 | [],ps,upd,rd,h,_=>by
  cases h
  exact ⟨by simp,fun I' _ _ cells es hl he=>⟨cells,by simp[Instr.fill],he,hl⟩⟩
 | (i,x)::l,ps,upd,rd,h,au=>by
  simp only[cO,yv] at h
  obtain ⟨⟨ys,u1⟩,l1,l2,h1,h⟩:=kA h
  obtain ⟨hc,h⟩:=aF h
  obtain ⟨⟨ps',u2⟩,l3,l4,U,h⟩:=kA h
  have:=aL h
  cases this
  simp only[aI,jK] at hc
  obtain ⟨hi,fc⟩:=hc
  obtain ⟨tl,tg⟩:=ti fc
  have vF:=hs.ev hg e x
  obtain ⟨v1,v2⟩:=Wj cC vF h1 fc
  obtain ⟨k1,k2,k3⟩:=GU cC h1 (vs:=(a.eval x).cells.toList) (by simpa using v1) v2
  obtain ⟨m1,m2⟩:=MK cC hs hg U au
  refine ⟨fun p hp=> ?_,fun I' i1 i2 cells es hl he=> ?_⟩
  ·rcases eh.1 hp with h|h
   ·exact k2 p h
   ·exact m1 p h
  ·have b7:=k3 I' i1 (fun p hp=>i2 p (eh.2 (.inl hp)))
   have aU:=(jV au).1
   have tm:ys.length=P.cellsOf e:=by rw[←tl,aU]
   have Mp:(a.eval x).cells.size=P.cellsOf e:=by rw[v1,←k1,tm]
   have gF:=he.set (i:=i) (ys:=ys) (by omega) Mp tm (fun j t' u y ht hu hy=>by
    exact (b7 j u y (by simpa using hu) hy).pure (tg j t' y (by rw[←rJ];exact ht) hy))
   obtain ⟨oX,f1,f2,f3⟩:=m2 I' i1 (fun p hp=>i2 p (eh.2 (.inr hp))) _ (es.set i (ct P e ys)) (by simpa using hl) gF
   refine ⟨oX,?_,f2,f3⟩
   have hb:i*P.cellsOf e+P.cellsOf e≤cells.size:=by
    rw[he.1,hl]
    have:(i+1)*P.cellsOf e≤len*P.cellsOf e:=dp _ hi
    rw[dc] at this
    omega
   simp only[cO,Instr.fill]
   rw[ai (by simp;omega)]
   exact f1
theorem ML {z:Array Value} {n k:Nat} (hk:k<n) (hz:0<z.size):((Array.range n).map (z[· %z.size]!))[k]? =z[k %z.size]? :=by
 have hm:k %z.size<z.size:=Nat.mod_lt _ hz
 simp[hk,hm]
theorem CY {e:TypeId} (h:lG P e=true) {i:TypeInfo} {z:Value} (hi:P.info? e=some i) (hz:i.zero=some z) (n m:Nat) (kS:n≤m):
  ∀(k j:Nat) (x:V) (t':TypeId),(List.replicate n (ct P e (ei P e)))[k]? =some x→(aS P e)[j]? =some t'→j<P.cellsOf e→
   ∃v,((Array.range (m*P.cellsOf e)).map (z.cells[· %z.cells.size]!))[k*P.cellsOf e+j]? =some v∧Pure P w I t' v (bH P e x j):=by
 intro k j x t' hx ht hj
 obtain ⟨i2,z2,h1,U,h3,h4,h5⟩:=zc (w:=w) (I:=I) h
 rw[hi] at h1;cases h1
 rw[hz] at U;cases U
 rw[List.getElem?_replicate] at hx
 split at hx
 ·rename_i hk
  cases hx
  obtain ⟨v,hv,hp⟩:=h5 j t' ht hj
  refine ⟨v,?_,hp⟩
  have hb:k*P.cellsOf e+j<m*P.cellsOf e:=by
   have:(k+1)*P.cellsOf e≤m*P.cellsOf e:=dp _ (by omega)
   rw[dc] at this
   omega
  rw[ML hb (by omega),h4,show (k*P.cellsOf e+j) %P.cellsOf e=j by rw[nA,Nat.mul_add_mod];exact Nat.mod_eq_of_lt hj]
  exact hv
 ·cases hx
theorem Wo {P:Program} (w:World) (t e:TypeId) (len:Nat) (parts:Array (Nat × Value)) (cells:Array Value) (ie:TypeInfo) (z:Value)
  (hu:P.underlying t=some (.slice e)) (jw:P.info? e=some ie) (hz:ie.zero=some z) (Wp: ¬len*ie.size>2^24)
  (h:Instr.fill (fun i=>some (i*ie.size,ie.size)) ((Array.range (len*ie.size)).map (z.cells[· %z.cells.size]!)) parts.toList=some cells):
  (Instr.buildSlice t len parts).run P w= .ok (.slice (some ⟨w.heap.size,0,none⟩) len len) (w.alloc (.cells cells e)):=by
 by_cases kS:len*ie.size=0
 ·have h0: ∀g:Nat→Value,(Array.range (len*ie.size)).map g= #[]:=by intro g;exact Array.eq_empty_of_size_eq_zero (by simp[kS])
  have hp: ∀(u:Array Value),(Pure.pure u:Sem (Array Value)).run P w= .ok u w:=fun _=>rfl
  rw[h0] at h
  simp only[Instr.buildSlice,Sem.run_bind,run_underlying hu,Result.andThen_ok,sizeOf,typeInfo,jw]
  have h1:(Array.range (len*ie.size)).map (fun _:Nat=>(default:Value))= #[]:=h0 _
  have hs: ¬16777216<len*ie.size:=by omega
  simp[jw,hs,kS]
  simp only[kS] at h1
  simp[h1,h,newRow]
 ·exact run_buildSlice w t e len parts cells ie z hu jw hz Wp kS h
theorem Wq (S:aE P w I β hp B M w0) {a:Act} {sl:Nat→V} (hs:kz P w I β hp a sl) {G:Nat→V} (hg:fR P G w I) {t e:TypeId} {len nb:Nat} {ps:Array (Nat × Operand)} {r:R} {rd:List Nat} (hu:P.underlying t=some (.slice e))
  (h:(Rd.aA (lG P e&&Nat.ble (len*P.cellsOf e) (2^24)) ((yv P e len (ps.toList.map fun p=>(p.1,aM P G e sl p.2))).bind fun r=>
    iR nb (.arr e (yu (List.replicate len (ct P e (ei P e))) r.1) false) (.whole e nb) r.2)).run C hp=some (r,rd)):
  cU P ((Instr.buildSlice t len (ps.map fun (i,x)=>(i,a.eval x))).run P w) w I β hp B M w0 r:=by
 obtain ⟨hc,h⟩:=aF h
 simp only[aI,dN] at hc
 obtain ⟨cM,vq⟩:=hc
 have au:cK P e=true:=by
  unfold lG at cM;simp only[aI] at cM;exact cM.1
 obtain ⟨⟨pv,upd⟩,l1,l2,h1,h⟩:=kA h
 obtain ⟨hn,rfl⟩:=mM h
 obtain ⟨m1,m2⟩:=MK S.h.rel hs hg h1 au
 obtain ⟨qh,S1⟩:=yT S m1
 obtain ⟨i,z,hi,hz,h3,h4,_⟩:=zc (w:=w) (I:=I) cM
 have iW:=(jV au).2
 have h0:vO P w (iz P w I β hp upd) e ((Array.range (len*P.cellsOf e)).map (z.cells[· %z.cells.size]!)) (List.replicate len (ct P e (ei P e))):=
  ⟨by simp,CY cM hi hz len len (cf _)⟩
 obtain ⟨cells,f1,f2,f3⟩:=m2 (iz P w I β hp upd) (fun _ h=> .inl h) (fun p hp b h=> .inr ⟨p,hp,h⟩) _ _ (by simp) h0
 have jZ:bE hp upd nb=none:=by
  rcases ta (hp:=hp) (l:=upd) (id:=nb) with h|⟨b',hm,_⟩
  ·exact h.trans hn
  ·obtain ⟨e1,cg,_,h5⟩:=m1 _ hm
   simp only[hn] at h5
   rcases h5 with ⟨_,h5⟩|⟨_,h5⟩<;>cases h5
 have nP:len≤maxLen:=by
  have:len*1≤len*P.cellsOf e:=sK _ iW
  simp only[maxLen]
  omega
 obtain ⟨n1,n2,n3⟩:=vP S1 (cap:=len) au jZ (by rw[f2.1,f3]) (by rw[f3];exact cf _) nP f2.2
 have cR:=Wo w t e len (ps.map fun (i,x)=>(i,a.eval x)) cells i z hu hi hz (by rw[h3];omega) (by rw[h3];simpa using f1)
 refine ⟨_,_,_,_,cR,qh.trans n1,n2,?_⟩
 rw[f3] at n3
 exact n3
theorem MM (S:aE P w I β hp B M w0) {t e:TypeId} {nb:Nat} {kl kc:IntKind} {n m:Int} {r:R} {rd:List Nat} (hu:P.underlying t=some (.slice e))
  (h:(Rd.aA (lG P e&&(decide (0≤n)&&(decide (n≤m)&&Nat.ble (m.toNat*P.bytesOf e) cI)))
    (iR nb (.arr e (List.replicate n.toNat (ct P e (ei P e))) false) (.whole e nb) [])).run C hp=some (r,rd)):
  cU P ((Instr.makeSlice t (.int kl n) (.int kc m)).run P w) w I β hp B M w0 r:=by
 obtain ⟨hc,h⟩:=aF h
 simp only[aI,dN,dF] at hc
 obtain ⟨cM,h0,kS,dE⟩:=hc
 have au:cK P e=true:=by
  unfold lG at cM;simp only[aI] at cM;exact cM.1
 obtain ⟨hn,rfl⟩:=mM h
 obtain ⟨i,z,hi,hz,h3,h4,_⟩:=zc (w:=w) (I:=I) cM
 have lQ:P.bytesOf e=i.bytes:=by simp[Program.bytesOf,hi]
 have Hi:m≤9223372036854775807:=by
  have h1:m.toNat*1≤m.toNat*P.bytesOf e:=sK _ (vu au)
  simp only[cI] at dE
  omega
 have cR:=run_make (P:=P) w t e i z hu hi hz kl kc n m h0 kS (by
  rw[lQ] at dE
  simp only[cI] at dE
  have:(i.bytes:Int)*m=((m.toNat*i.bytes:Nat):Int):=by
   rw[Int.natCast_mul,Int.toNat_of_nonneg (by omega),Int.mul_comm]
  rw[this]
  omega) Hi
 have hlen:(List.replicate n.toNat (ct P e (ei P e))).length=n.toNat:=by simp
 obtain ⟨n1,n2,n3⟩:=vP S (cap:=m.toNat) (es:=List.replicate n.toNat (ct P e (ei P e))) (C0:=madeCells z.cells (m.toNat*i.size)) au hn (by rw[size_madeCells,h3]) (by rw[hlen];omega) (by simp only[maxLen];omega)
  (by rw[h3];exact CY cM hi hz n.toNat m.toNat (by omega))
 refine ⟨_,_,_,_,cR,n1,n2,?_⟩
 rw[hlen] at n3
 exact n3
theorem Hj: ∀{l:List V} {j:Nat} {e1:TypeId} {k:List V},yF l=true→V.nth l j= .list e1 k→k=[]
 | [],j,e1,k,_,h=>by cases j<;>cases h
 | x::l,0,e1,k,hn,h=>by
  simp only[V.nth] at h
  subst h
  cases k with
  | nil=>rfl
  | cons _ _=>cases hn
 | x::l,j+1,e1,k,hn,h=>by
  refine Hj (l:=l) (j:=j) ?_ h
  cases x with
  | list e2 k2=>
   cases k2 with
   | nil=>exact hn
   | cons _ _=>cases hn
  | _=>exact hn
theorem Wr {e:TypeId} {n:Nat} (au:cK P e=true) (h:yF (ei P e)=true):
  ∀(i j:Nat) x t' e1 l,(List.replicate n (ct P e (ei P e)))[i]? =some x→(aS P e)[j]? =some t'→bH P e x j= .list e1 l→l=[]:=by
 intro i j x t' e1 l hx ht hl
 have:=List.eq_of_mem_replicate (jm hx)
 subst this
 unfold bH ct at hl
 cases ha:bD P e with
 | true=>rw[ha] at hl;exact Hj h hl
 | false=>rw[ha] at hl;exact Hj h hl
theorem Ws (S:aE P w I β hp B M w0) {t e:TypeId} {nb:Nat} {kl kc:IntKind} {n m:Int} {r:R} {rd:List Nat} (hu:P.underlying t=some (.slice e))
  (h:(Rd.aA (lG P e&&(decide (0≤n)&&(decide (n≤m)&&Nat.ble (m.toNat*P.bytesOf e) cI)))
    (Rd.aA (yF (ei P e)) (iR nb (.nest e (List.replicate n.toNat (ct P e (ei P e))) [0,0,0]) (.whole e nb) []))).run C hp=some (r,rd)):
  cU P ((Instr.makeSlice t (.int kl n) (.int kc m)).run P w) w I β hp B M w0 r:=by
 obtain ⟨hc,h⟩:=aF h
 simp only[aI,dN,dF] at hc
 obtain ⟨cM,h0,kS,dE⟩:=hc
 have au:cK P e=true:=by
  unfold lG at cM;simp only[aI] at cM;exact cM.1
 obtain ⟨Wt,h⟩:=aF h
 obtain ⟨hn,rfl⟩:=mM h
 obtain ⟨i,z,hi,hz,h3,h4,_⟩:=zc (w:=w) (I:=I) cM
 have lQ:P.bytesOf e=i.bytes:=by simp[Program.bytesOf,hi]
 have Hi:m≤9223372036854775807:=by
  have h1:m.toNat*1≤m.toNat*P.bytesOf e:=sK _ (vu au)
  simp only[cI] at dE
  omega
 have cR:=run_make (P:=P) w t e i z hu hi hz kl kc n m h0 kS (by
  rw[lQ] at dE
  simp only[cI] at dE
  have:(i.bytes:Int)*m=((m.toNat*i.bytes:Nat):Int):=by
   rw[Int.natCast_mul,Int.toNat_of_nonneg (by omega),Int.mul_comm]
  rw[this]
  omega) Hi
 have hlen:(List.replicate n.toNat (ct P e (ei P e))).length=n.toNat:=by simp
 obtain ⟨n1,n2,n3⟩:=Wn S (cap:=m.toNat) (es:=List.replicate n.toNat (ct P e (ei P e))) (C0:=madeCells z.cells (m.toNat*i.size)) au hn (by rw[size_madeCells,h3]) (by rw[hlen];omega) (by simp only[maxLen];omega)
  (by rw[h3];exact CY cM hi hz n.toNat m.toNat (by omega))
  (Wr au Wt)
 refine ⟨_,_,_,_,cR,n1,n2,?_⟩
 rw[hlen] at n3
 exact n3
theorem Pure.one {t:TypeId} {v:Value} {x:V} (h:Pure P w I t v x):v.oneCell'=true:=by cases h<;>rfl
structure Row (P:Program) (w:World) (I:Nat→Prop) (e:TypeId) (v:Value) (xs:List V) (a:Addr) (c:Nat) (news:List Value):Prop where
 val:v= .slice (some a) xs.length c
 len:news.length=xs.length*P.cellsOf e
 cell: ∀(j:Nat) u,news[j]? =some u→w.cell? (a.add j)=some u
 el: ∀(i j:Nat) (x:V) (t':TypeId),xs[i]? =some x→(aS P e)[j]? =some t'→j<P.cellsOf e→∃u,news[i*P.cellsOf e+j]? =some u∧Pure P w I t' u (bH P e x j)
theorem Row.one {e:TypeId} {v:Value} {xs:List V} {a:Addr} {c:Nat} {news:List Value} (h:Row P w I e v xs a c news) (au:cK P e=true): ∀u∈news,u.oneCell'=true:=by
 intro u hu
 obtain ⟨k,hk⟩:=rj hu
 have hU:=(br.1 hk).1
 have iW:=(jV au).2
 rw[h.len] at hU
 have hi:k/P.cellsOf e<xs.length:=Nat.div_lt_of_lt_mul (by rw[nA];exact hU)
 have hj:k %P.cellsOf e<P.cellsOf e:=Nat.mod_lt _ iW
 have fZ:k %P.cellsOf e<(aS P e).length:=by rw[fb au];exact hj
 obtain ⟨u',fv,hp⟩:=h.el (k/P.cellsOf e) (k %P.cellsOf e) _ _ (bx hi) (bx fZ) hj
 rw[Nat.div_add_mod'] at fv
 rw[hk] at fv
 cases fv
 exact hp.one
theorem MN {e:TypeId} {es:List V} {b:Nat} {Ca:Array Value} {off len cap o:Nat} (hh:w.heap[b]? =some (.cells Ca e (0,0))) (hs:es.length*P.cellsOf e≤Ca.size)
  (hx: ∀(i j:Nat) (x:V) (t':TypeId),es[i]? =some x→(aS P e)[j]? =some t'→j<P.cellsOf e→∃v,Ca[i*P.cellsOf e+j]? =some v∧Pure P w I t' v (bH P e x j))
  (ky:off+len≤es.length) (ho:0<len→o=off*P.cellsOf e):
  Row P w I e (.slice (some ⟨b,o,none⟩) len cap) ((es.drop off).take len) ⟨b,o,none⟩ cap ((Ca.toList.drop (off*P.cellsOf e)).take (len*P.cellsOf e)):=by
 have hlen:((es.drop off).take len).length=len:=by simp;omega
 have hb:(off+len)*P.cellsOf e≤Ca.size:=lE (dp _ ky) hs
 rw[dc] at hb
 refine ⟨by rw[hlen],by rw[hlen];simp;omega,fun j u hj=> ?_,fun i j x t' fX ht hj=> ?_⟩
 ·have b8:=(br.1 hj).1
  have Hk:j<len*P.cellsOf e:=by
   rw[fj] at b8;omega
  have jt:0<len:=by
   rcases Nat.eq_zero_or_pos len with h|h
   ·rw[h] at Hk;simp at Hk
   ·exact h
  rw[eJ Hk,gQ] at hj
  rw[mK,cell?_cells hh,ho jt]
  simpa using hj
 ·have hi:i<len:=by rw[←hlen];exact (br.1 fX).1
  rw[eJ hi,gQ] at fX
  obtain ⟨u,hu,hp⟩:=hx (off+i) j x t' fX ht hj
  refine ⟨u,?_,hp⟩
  have:i*P.cellsOf e+j<len*P.cellsOf e:=by
   have:(i+1)*P.cellsOf e≤len*P.cellsOf e:=dp _ hi
   rw[dc] at this
   omega
  rw[eJ this,gQ]
  rw[dc] at hu
  rw[←ny]
  simpa using hu
theorem CZ (cC: ∀id blk,hp id=some blk→dI P w I β hp (β id) blk) {e:TypeId} {v:Value} {x:V} {k:List V→Rd R} {r:R} {rd:List Nat} (au:cK P e=true) (hv:ao P w I β hp v x)
  (h:(rz e x k).run C hp=some (r,rd)): ∃xs,(((∃a,v= .slice a 0 0)∧xs=[])∨∃a c news,Row P w I e v xs a c news)∧∃l,(k xs).run C hp=some (r,l):=by
 cases hv with
 | list hp'=>
  obtain ⟨hc,U⟩:=aF h
  clear h
  rw[aQ] at hc
  subst hc
  cases hp' with
  | nil=>exact ⟨[],.inl ⟨⟨_,rfl⟩,rfl⟩,rd,U⟩
  | @emp a cap=>exact ⟨[],.inr ⟨a,cap,[],⟨rfl,by simp,fun j u hj=>by simp at hj,fun i j x t' hx _ _=>by simp at hx⟩⟩,rd,U⟩
  | @list b o len cap es g hl bU hI fK hx=>
   refine ⟨_,.inr ⟨⟨b,o,none⟩,cap,(List.range (len*P.cellsOf e)).map fun k=>g (k/P.cellsOf e) (k %P.cellsOf e),⟨by rw[hl],by rw[hl];simp,fun j u hj=> ?_,fun i j x t' fX ht hj=> ?_⟩⟩,rd,U⟩
   ·obtain ⟨b8,hG⟩:=br.1 hj
    simp at b8 hG
    have iW:=(jV au).2
    have hi:j/P.cellsOf e<len:=Nat.div_lt_of_lt_mul (by rw[nA];exact b8)
    have fM:j %P.cellsOf e<P.cellsOf e:=Nat.mod_lt _ iW
    rw[mK,←hG]
    have:=fK (j/P.cellsOf e) (j %P.cellsOf e) hi fM
    rwa [Nat.div_add_mod'] at this
   ·have hi:i<len:=by rw[←hl];exact (br.1 fX).1
    have hb:i*P.cellsOf e+j<len*P.cellsOf e:=by
     have:(i+1)*P.cellsOf e≤len*P.cellsOf e:=dp _ hi
     rw[dc] at this
     omega
    refine ⟨g i j,?_,hx i j x t' fX ht⟩
    have e1:(i*P.cellsOf e+j)/P.cellsOf e=i:=by
     rw[nA,Nat.mul_add_div (jV au).2,Nat.div_eq_of_lt hj,Nat.add_zero]
    have e2:(i*P.cellsOf e+j) %P.cellsOf e=j:=by
     rw[nA,Nat.mul_add_mod];exact Nat.mod_eq_of_lt hj
    simp[hb,e1,e2]
 | nilS=>
  obtain ⟨hc,h⟩:=aF h
  exact ⟨[],.inl ⟨⟨_,rfl⟩,rfl⟩,rd,h⟩
 | dt ab hb=>
  obtain ⟨l,h⟩:=run_get h
  simp only[ab] at h
  obtain ⟨hc,h⟩:=aF h
  exact ⟨[],.inl ⟨⟨_,rfl⟩,rfl⟩,l,h⟩
 | @whole e' id es fz b cap ab hb aU bU hm=>
  obtain ⟨l,h⟩:=run_get h
  simp only[ab] at h
  obtain ⟨hc,U⟩:=aF h
  clear h
  simp only[aI,aQ] at hc
  obtain ⟨rfl,_⟩:=hc
  have hr:=cC _ _ ab
  cases hr with
  | dv az=>rw[az] at hb;cases hb
  | arr G0 az hh hs hf dR hx=>
   rw[hb] at az;cases az
   have:=MN (cap:=cap) (off:=0) (len:=es.length) (o:=0) hh hs hx (by omega) (fun _=>by simp)
   exact ⟨es,.inr ⟨_,_,_,by simpa using this⟩,l,U⟩
 | fu ab hb=>
  obtain ⟨l,h⟩:=run_get h
  simp only[ab] at h
  obtain ⟨hc,h⟩:=aF h
  exact ⟨[],.inl ⟨⟨_,rfl⟩,rfl⟩,l,by simpa using h⟩
 | @sub e' id off len es fz b o cap ab hb ky bU ho=>
  obtain ⟨l,h⟩:=run_get h
  simp only[ab] at h
  obtain ⟨hc,U⟩:=aF h
  clear h
  simp only[aI,aQ] at hc
  obtain ⟨rfl,_⟩:=hc
  have hr:=cC _ _ ab
  cases hr with
  | dv az=>rw[az] at hb;cases hb
  | arr G0 az hh hs hf dR hx=>
   rw[hb] at az;cases az
   exact ⟨_,.inr ⟨_,_,_,MN (cap:=cap) hh hs hx ky ho⟩,l,U⟩
 | dQ ab=>
  obtain ⟨l,h⟩:=run_get h
  simp only[ab] at h
  cases h
 | fJ ab=>
  obtain ⟨l,h⟩:=run_get h
  simp only[ab] at h
  cases h
 | undef=>cases h
 | int=>cases h
 | bool=>cases h
 | str=>cases h
 | agg=>cases h
 | bc=>cases h
 | c8=>cases h
 | fn=>cases h
 | pref=>cases h
 | jT=>cases h
 | ptr=>cases h
 | jq=>cases h
 | jr=>cases h
 | row=>cases h
 | cz=>cases h
 | dh=>cases h
 | gZ=>cases h
 | cp=>cases h
 | dZ ab=>
  obtain ⟨l,h⟩:=run_get h
  simp only[ab] at h
  cases h
theorem MO {t ty e:TypeId} {i:TypeInfo} (ht:P.underlying t=some (.slice e)) (hi:P.info? e=some i) (a:Option Addr) (n cap:Nat) (x:Value) (hx: ∃a c,x= .slice a 0 c) (hn:n≤cap):
  (Builtin.append_ #[t,t] ty #[.slice a n cap,x]).run P w= .ok (.slice a n cap) w:=by
 obtain ⟨a',c,rfl⟩:=hx
 cases a' with
 | none=>cases a<;>simp[Builtin.append_,run_underlying ht,sizeOf,typeInfo,hi,Builtin.lenOf,Builtin.firstCells,hn,storeCells]
 | some a'=>cases a<;>simp[Builtin.append_,run_underlying ht,sizeOf,typeInfo,hi,Builtin.lenOf,Builtin.firstCells,hn,storeCells,loadCells,loadCellsFrom]
theorem C2 {e:TypeId} {es xs:List V} {n:Nat} {c:List Value} {news:List Value} (hn:es.length=n)
  (h1: ∀(i j:Nat) (x:V) (t':TypeId),es[i]? =some x→(aS P e)[j]? =some t'→j<P.cellsOf e→∃v,c[i*P.cellsOf e+j]? =some v∧Pure P w I t' v (bH P e x j))
  (U: ∀(i j:Nat) (x:V) (t':TypeId),xs[i]? =some x→(aS P e)[j]? =some t'→j<P.cellsOf e→∃v,news[i*P.cellsOf e+j]? =some v∧Pure P w I t' v (bH P e x j))
  (hb:n*P.cellsOf e≤c.length) (rest:List Value):
  ∀(i j:Nat) (x:V) (t':TypeId),(es++xs)[i]? =some x→(aS P e)[j]? =some t'→j<P.cellsOf e→∃v,(c.take (n*P.cellsOf e)++news++rest)[i*P.cellsOf e+j]? =some v∧Pure P w I t' v (bH P e x j):=by
 intro i j x t' hx ht hj
 have hl:(c.take (n*P.cellsOf e)).length=n*P.cellsOf e:=by simp;omega
 by_cases hi:i<n
 ·rw[ij (by omega)] at hx
  obtain ⟨v,hv,hp⟩:=h1 i j x t' hx ht hj
  have:i*P.cellsOf e+j<n*P.cellsOf e:=by
   have:(i+1)*P.cellsOf e≤n*P.cellsOf e:=dp _ hi
   rw[dc] at this
   omega
  exact ⟨v,by rw[cm,ij (by omega),eJ this];exact hv,hp⟩
 ·rw[ik (by omega),hn] at hx
  obtain ⟨v,hv,hp⟩:=U (i-n) j x t' hx ht hj
  have gG:i-n<xs.length:=(br.1 hx).1
  have e1:i*P.cellsOf e+j-n*P.cellsOf e=(i-n)*P.cellsOf e+j:=by
   rw[Nat.sub_mul]
   have:n*P.cellsOf e≤i*P.cellsOf e:=dp _ (by omega)
   omega
  have h3:(i-n)*P.cellsOf e+j<news.length:=(br.1 hv).1
  refine ⟨v,?_,hp⟩
  have h4:n*P.cellsOf e≤i*P.cellsOf e+j:=by
   have:n*P.cellsOf e≤i*P.cellsOf e:=dp _ (by omega)
   omega
  rw[cm,ik (by omega),hl,e1,ij h3]
  exact hv
theorem Pure.drew {t:TypeId} {v:Value} {x:V} (h:Pure P w I t v x):Pure P w.drew I t v x:=Pure.mono (w:=w) (w':=w.drew) (fun _ h=>h) (fun _ _=>rfl) h
theorem Wu (w:World) (t ty e:TypeId) (i:TypeInfo) (z:Value) (ht:P.underlying t=some (.slice e)) (hi:P.info? e=some i) (hz:i.zero=some z)
  (a0:Option Addr) (a:Addr) (n c:Nat) (news:List Value) (hl:news.length=n*i.size) (C3: ∀j v,news[j]? =some v→w.cell? (a.add j)=some v)
  (h0:0<n) (C4:(n:Int)≤9223372036854775807) (C6:n*i.bytes≤281474976710656):
  (Builtin.append_ #[t,t] ty #[.slice a0 0 0,.slice (some a) n c]).run P w=
   .ok (.slice (some ⟨w.heap.size,0,none⟩) n (grownCap w n 0 e)) (w.drew.alloc (.cells (news.toArray++Builtin.zeroCells z.cells (grownCap w n 0 e-n)) e)):=by
 cases a0 with
 | none=>exact run_append_nil w t ty e i z ht hi hz a n c news hl C3 h0 C4 C6
 | some b=>
  have:=run_append_grow (P:=P) w t ty e i z ht hi hz b 0 0 [] (by simp) (by simp) a n c news hl C3 (by omega) (by omega) (by rw[fS,nextslicecap_zero h0];omega)
  simpa using this
theorem Hl (S:aE P w I β hp B M w0) {t ty e:TypeId} {nb:Nat} {x:Value} {xs:List V} (hu:P.underlying t=some (.slice e)) (au:cK P e=true) (hn:hp nb=none)
  (dE:xs.length*P.bytesOf e≤cI) {a0:Option Addr} (hx:((∃a,x= .slice a 0 0)∧xs=[])∨∃a c news,Row P w I e x xs a c news):
  ∃v w' β',(Builtin.append_ #[t,t] ty #[.slice a0 0 0,x]).run P w= .ok v w'∧Le P w I β hp w' I β' (aG hp nb (some (.arr e xs false)))∧aE P w' I β' (aG hp nb (some (.arr e xs false))) B M w0∧
   ao P w' I β' (aG hp nb (some (.arr e xs false))) v (.whole e nb):=by
 obtain ⟨i,z,hi,hz,h3,h4,_⟩:=jY au
 have tt:=vu au
 have lQ:P.bytesOf e=i.bytes:=by simp[Program.bytesOf,hi]
 have hlen:xs.length≤2^45:=by
  have:xs.length*1≤xs.length*P.bytesOf e:=sK _ tt
  simp only[cI] at dE
  omega
 have empty:xs=[]→(∃a c,x= .slice a 0 c)→∃v w' β',(Builtin.append_ #[t,t] ty #[.slice a0 0 0,x]).run P w= .ok v w'∧Le P w I β hp w' I β' (aG hp nb (some (.arr e xs false)))∧aE P w' I β' (aG hp nb (some (.arr e xs false))) B M w0∧
   ao P w' I β' (aG hp nb (some (.arr e xs false))) v (.whole e nb):=by
  intro ga Hm
  subst ga
  obtain ⟨a1,a2⟩:=CD S e hn
  exact ⟨_,_,_,MO hu hi a0 0 0 x Hm (cf _),a1,a2,.dt (cQ _ _ _) (cQ _ _ _)⟩
 rcases hx with ⟨⟨_,rfl⟩,rfl⟩|⟨a,c,news,hr⟩
 ·exact empty rfl ⟨_,_,rfl⟩
 ·by_cases h0:xs.length=0
  ·have ga:xs=[]:=kQ h0
   refine empty ga ⟨some a,c,?_⟩
   rw[hr.val,h0]
  ·have cR:=Wu (P:=P) w t ty e i z hu hi hz a0 a xs.length c news (by rw[hr.len,h3]) hr.cell (by omega) (by omega) (by rw[←lQ];simp only[cI] at dE;omega)
   have oW:=grownCap_ge w xs.length 0 e
   have tu:grownCap w xs.length 0 e≤maxLen:=grownCap_le_maxLen w xs.length 0 e (by simp only[maxLen];omega)
   obtain ⟨n1,n2,n3⟩:=vP S.drew (nb:=nb) (cap:=grownCap w xs.length 0 e) (es:=xs) (C0:=news.toArray++Builtin.zeroCells z.cells (grownCap w xs.length 0 e-xs.length)) au hn
    (by simp only[BU,pH,size_zeroCells,h4,hr.len,←dc];congr 1;omega) oW tu
    (fun i' j y t' hy ht hj=>by
     obtain ⟨u,fv,hp⟩:=hr.el i' j y t' hy ht hj
     have aO:=(br.1 fv).1
     refine ⟨u,?_,Pure.drew hp⟩
     rw[Array.getElem?_append_left (by simpa using aO)]
     simpa using fv)
   rw[hr.val]
   exact ⟨_,_,_,cR,(Le.drew w I β hp).trans n1,n2,n3⟩
theorem Wv (S:aE P w I β hp B M w0) {t ty e:TypeId} {nb:Nat} {s x:Value} {sv xv:V} {r:R} {rd:List Nat} (hu:P.underlying t=some (.slice e)) (hs:ao P w I β hp s sv) (hx:ao P w I β hp x xv)
  (h:(vg P nb e sv xv).run C hp=some (r,rd)):cU P ((Builtin.append_ #[t,t] ty #[s,x]).run P w) w I β hp B M w0 r:=by
 unfold vg at h
 obtain ⟨au,h⟩:=aF h
 obtain ⟨xs,lh,l0,h⟩:=CZ S.h.rel au hx h
 cases sv with
 | nilS e'=>
  obtain ⟨hc,h⟩:=aF h
  simp only[aI,aQ,dN] at hc
  obtain ⟨hn,rfl⟩:=mM h
  obtain ⟨a0,rfl⟩: ∃a0,s= .slice a0 0 0:=by cases hs;exact ⟨_,rfl⟩
  obtain ⟨v,w',β',a1,a2,a3,a4⟩:=Hl (ty:=ty) S hu au hn hc.2 lh
  exact ⟨v,w',I,β',a1,a2,a3,a4⟩
 | whole e' id=>
  obtain ⟨l,h⟩:=run_get h
  cases ab:hp id with
  | none=>rw[ab] at h;cases h
  | some blk=>
   rw[ab] at h
   cases blk with
   | dead=>cases h
   | var _=>cases h
   | nest _ _ _=>cases h
   | map _ _=>cases h
   | arr dq es fz=>
    cases fz with
    | true=>cases h
    | false=>
     obtain ⟨hc,h⟩:=aF h
     obtain ⟨hn,rfl⟩:=mM h
     simp only[aI,aQ,dN] at hc
     obtain ⟨Hn,Ho,dE⟩:=hc
     subst Hn
     subst Ho
     have bu:nb≠id:=fun e=>by rw[e,ab] at hn;cases hn
     obtain ⟨k1,k2⟩:=CE S ab
     have jZ:aG hp id (some an.dead) nb=none:=by rw[dS _ _ bu];exact hn
     cases hs with
     | dQ hd=>rw[ab] at hd;cases hd
     | dZ hd=>rw[ab] at hd;cases hd
     | dt hd hb=>
      rw[ab] at hd
      cases hd
      simp only[List.length_nil,fS] at dE
      have Ww:((∃a,x= .slice a 0 0)∧xs=[])∨∃a c news,Row P w I e x xs a c news:=lh
      obtain ⟨v,w',β',a1,a2,a3,a4⟩:=Hl (ty:=ty) k2 hu au jZ dE Ww
      exact ⟨v,w',I,β',a1,k1.trans a2,a3,a4⟩
     | @whole _ _ aH mD b cap hd hb aU bU hm=>
      rw[ab] at hd
      cases hd
      have hr:=S.h.rel id _ ab
      cases hr with
      | dv az=>rw[az] at hb;cases hb
      | @arr _ _ _ b' Ca _ az hh oY hf dR lR=>
       rw[hb] at az
       cases az
       obtain ⟨i,z,hi,hz,h3,h4,_⟩:=jY au
       have tt:=vu au
       have lQ:P.bytesOf e=i.bytes:=by simp[Program.bytesOf,hi]
       have hlen:es.length+xs.length≤2^45:=by
        have:(es.length+xs.length)*1≤(es.length+xs.length)*P.bytesOf e:=sK _ tt
        simp only[cI] at dE
        omega
       rw[mH hh] at aU
       have p9: ∀aC blk',aG hp id (some an.dead) aC=some blk'→¬bt P w (β aC) blk' b:=by
        intro aC blk' h1 U
        by_cases iD:aC=id
        ·subst iD;rw[cQ] at h1;cases h1;exact U.alive rfl
        ·rw[dS _ _ iD] at h1
         exact iD (S.h.inj aC id blk' _ b h1 ab U (.root (by simp) hb))
       have Hp:=S.h.rG id _ b ab (by simp) hb
       have room: ∀(C':Array Value) (w':World) (ys:List V),w'.heap[b]? =some (.cells C' e (0,0))→C'.size=Ca.size→(∀b',b'≠b→w'.heap[b']? =w.heap[b']?)→w.heap.size≤w'.heap.size→(w'.os=w.os∧w'.output=w.output)→ys.length≤cap→
         (∀(i j:Nat) (y:V) (t':TypeId),ys[i]? =some y→(aS P e)[j]? =some t'→j<P.cellsOf e→∃v,C'[i*P.cellsOf e+j]? =some v∧Pure P w I t' v (bH P e y j))→
         Le P w I β hp w' I (aG β nb (some b)) (aG (aG hp id (some .dead)) nb (some (.arr e ys false)))∧aE P w' I (aG β nb (some b)) (aG (aG hp id (some .dead)) nb (some (.arr e ys false))) B M w0∧
         ao P w' I (aG β nb (some b)) (aG (aG hp id (some .dead)) nb (some (.arr e ys false))) (.slice (some ⟨b,0,none⟩) ys.length cap) (.whole e nb):=by
        intro C' w' ys hC nU Wx Wy Wz tm hy
        obtain ⟨a1,a2⟩:=yU k2 (blk:= .arr e ys false) (w':=w') jZ p9 (dR rfl) (fun b' h _=>Wx b' h) Wy Wz Hp
         (fun b' h=>(cY (h.flat (by simp))).symm) (fun hle=> .arr au rfl hC (by rw[nU,←aU];exact dp _ tm) (fun h=>by cases h) (fun _=>dR rfl) fun i j y t' a b c=>by
          obtain ⟨v,hv,hp⟩:=hy i j y t' a b c
          exact ⟨v,hv,hp.mono hle.c9 hle.b6⟩)
        refine ⟨k1.trans a1,a2,.whole (cQ _ _ _) (cQ _ _ _) ?_ tm hm⟩
        rw[mH hC,nU,aU]
       have same:xs=[]→(∃a c,x= .slice a 0 c)→cU P ((Builtin.append_ #[t,t] ty #[.slice (some ⟨b,0,none⟩) es.length cap,x]).run P w) w I β hp B M w0 ⟨.whole e nb,[(nb,.arr e (es++xs) false),(id,.dead)]⟩:=by
        intro ga Hm
        subst ga
        rw[dH]
        obtain ⟨a1,a2,a3⟩:=room Ca w es hh rfl (fun _ _=>rfl) (cf _) ⟨rfl,rfl⟩ bU lR
        exact ⟨_,_,_,_,MO hu hi _ _ _ x Hm bU,a1,a2,a3⟩
       rcases lh with ⟨⟨_,rfl⟩,rfl⟩|⟨a,c,news,cD⟩
       ·exact same rfl ⟨_,_,rfl⟩
       ·have h1:=cD.one au
        have lg:es.length*P.cellsOf e≤Ca.toList.length:=by simpa using oY
        by_cases rP:es.length+xs.length≤cap
        ·have zd:es.length*P.cellsOf e+news.length≤Ca.size:=by rw[cD.len,←dc,←aU];exact dp _ rP
         have cR:=run_append_room (P:=P) w t ty e i hu hi b es.length cap Ca hh a xs.length c news (by rw[cD.len,h3]) cD.cell h1 rP (by rw[h3];exact zd)
         rw[h3] at cR
         have cM:=C2 (P:=P) (w:=w) (I:=I) (n:=es.length) (c:=Ca.toList) rfl (fun i j y t' a b c=>by
          obtain ⟨v,hv,hp⟩:=lR i j y t' a b c
          exact ⟨v,by simpa using hv,hp⟩) cD.el lg (Ca.toList.drop (es.length*P.cellsOf e+news.length))
         obtain ⟨a1,a2,a3⟩:=room (Ca.toList.take (es.length*P.cellsOf e)++news++Ca.toList.drop (es.length*P.cellsOf e+news.length)).toArray (w.setRow b _) (es++xs)
          (setRow_heap w b Ca _ e _ hh) (by simp;omega) (fun b' az=>setRow_other w b b' _ az) (by simp) ⟨rfl,rfl⟩ (by simpa using rP)
          (fun i j y t' a b c=>by
           obtain ⟨v,hv,hp⟩:=cM i j y t' a b c
           exact ⟨v,by simpa using hv,hp⟩)
         rw[cD.val]
         rw[cv] at a3
         exact ⟨_,_,_,_,cR,a1,a2,a3⟩
        ·have hold: ∀(j:Nat) v,(Ca.toList.take (es.length*P.cellsOf e))[j]? =some v→w.cell? ((⟨b,0,none⟩:Addr).add j)=some v:=by
          intro j v hj
          have b8:=(br.1 hj).1
          have fM:j<es.length*P.cellsOf e:=by rw[fj] at b8;omega
          rw[eJ fM] at hj
          rw[mK,cell?_cells hh,fS]
          simpa using hj
         have cR:=run_append_grow (P:=P) w t ty e i z hu hi hz ⟨b,0,none⟩ es.length cap (Ca.toList.take (es.length*P.cellsOf e)) (by rw[h3];simp;omega) hold a xs.length c news (by rw[cD.len,h3]) cD.cell (by omega) (by omega)
          (growslice_fits (by omega) (by rw[←lQ];simp only[cI] at dE;omega))
         have oW:=grownCap_ge w (es.length+xs.length) cap e
         have tu:grownCap w (es.length+xs.length) cap e≤maxLen:=grownCap_le_maxLen w _ cap e (by simp only[maxLen];omega)
         have cM:=C2 (P:=P) (w:=w) (I:=I) (n:=es.length) (c:=Ca.toList) rfl (fun i j y t' a b c=>by
          obtain ⟨v,hv,hp⟩:=lR i j y t' a b c
          exact ⟨v,by simpa using hv,hp⟩) cD.el lg (Builtin.zeroCells z.cells (grownCap w (es.length+xs.length) cap e-(es.length+xs.length))).toList
         obtain ⟨n1,n2,n3⟩:=vP k2.drew (nb:=nb) (cap:=grownCap w (es.length+xs.length) cap e) (es:=es++xs)
          (C0:=(Ca.toList.take (es.length*P.cellsOf e)).toArray++news.toArray++Builtin.zeroCells z.cells (grownCap w (es.length+xs.length) cap e-(es.length+xs.length))) au jZ
          (by
           have e1:(Ca.toList.take (es.length*P.cellsOf e)).length=es.length*P.cellsOf e:=by simp;omega
           simp only[BU,pH,size_zeroCells,h4,cD.len,e1,←dc];congr 1;omega) (by simpa using oW) tu
          (fun i j y t' a b c=>by
           obtain ⟨v,hv,hp⟩:=cM i j y t' a b c
           refine ⟨v,?_,Pure.drew hp⟩
           rw[←rk]
           simpa using hv)
         rw[cD.val]
         rw[cv] at n3
         exact ⟨_,_,_,_,cR,(k1.trans (Le.drew w I β _)).trans n1,n2,n3⟩
 | _=>cases h
end
section
variable {P:Program} {w w':World} {I I':Nat→Prop} {β β':Nat→Option Nat} {hp hp':Nat→Option an} {C:ag} {B:Nat} {M:Nat→Prop} {w0:Start}
theorem run_copy_none (w:World) {dT sT ty elem:TypeId} {i:TypeInfo} (a0:Option Addr) (MP WA:Nat) (a1:Option Addr) (MQ WB:Nat) (hu:P.underlying dT=some (.slice elem)) (hi:P.info? elem=some i) (h0:Nat.min MQ MP=0):
  (Builtin.copy_ #[dT,sT] ty #[.slice a0 MP WA,.slice a1 MQ WB]).run P w= .ok (goInt 0) w:=by
 cases a0<;>cases a1<;>simp[Builtin.copy_,run_underlying hu,Builtin.lenOf,Builtin.firstCells,sizeOf,typeInfo,hi,h0,storeCells,loadCells,loadCellsFrom]
theorem WC (S:aE P w I β hp B M w0) {t u ty e:TypeId} {s x:Value} {sv xv:V} {r:R} {rd:List Nat} (hu:P.underlying t=some (.slice e)) (hs:ao P w I β hp s sv) (hx:ao P w I β hp x xv)
  (h:(Gv P e sv xv).run C hp=some (r,rd)):cU P ((Builtin.copy_ #[t,u] ty #[s,x]).run P w) w I β hp B M w0 r:=by
 unfold Gv at h
 obtain ⟨au,h'⟩:=aF h
 clear h
 simp only[aI,aQ] at au
 obtain ⟨au,h1⟩:=au
 obtain ⟨xs,lh,l0,h⟩:=CZ S.h.rel au hx h'
 obtain ⟨i,z,hi,hz,aU,_⟩:=jY au
 cases sv<;>simp only at h<;>first|(cases h;done)|skip
 rename_i e' id
 obtain ⟨l,U⟩:=run_get h
 clear h
 cases ab:hp id with
 | none=>rw[ab] at U;cases U
 | some blk=>
  rw[ab] at U
  cases blk<;>simp only at U<;>first|(cases U;done)|skip
  rename_i e2 es fz
  cases fz with
  | true=>cases U
  | false=>
  obtain ⟨hc,h3⟩:=aF U
  simp only[aI,aQ] at hc
  obtain ⟨rfl,rfl⟩:=hc
  obtain rfl:=aL h3
  have mN:min xs.length es.length=0→(Builtin.copy_ #[t,u] ty #[s,x]).run P w= .ok (goInt 0) w→cU P ((Builtin.copy_ #[t,u] ty #[s,x]).run P w) w I β hp B M w0 ⟨.int .i64 (min xs.length es.length:Nat),[(id,.arr e (xs.take es.length++es.drop xs.length) false)]⟩:=by
   intro h0 hr
   have he:xs.take es.length++es.drop xs.length=es:=by
    rcases Nat.le_total xs.length es.length with hl|hl
    ·have:xs=[]:=kQ (by omega)
     simp[this]
    ·have:es=[]:=kQ (by omega)
     simp[this]
   have fL:bE hp [(id,.arr e (xs.take es.length++es.drop xs.length) false)]=hp:=by
    rw[he];exact GG hp id _ ab
   refine ⟨goInt 0,w,I,β,hr,?_⟩
   simp only[fL,h0]
   exact ⟨Le.refl w I β hp,S,.int⟩
  cases hs with
  | dQ hd=>rw[ab] at hd;cases hd
  | dZ hd=>rw[ab] at hd;cases hd
  | @dt _ _ fz a hd hb=>
   rw[ab] at hd
   cases hd
   refine mN (by simp) ?_
   rcases lh with ⟨⟨a',rfl⟩,rfl⟩|⟨a',c,news,cD⟩
   ·exact run_copy_none w _ _ _ _ _ _ hu hi (by simp)
   ·rw[cD.val];exact run_copy_none w _ _ _ _ _ _ hu hi (by simp)
  | @whole _ _ aH mD b cap hd hb ze bU hm=>
   have ek:=hd
   rw[ab] at hd
   cases hd
   rcases lh with ⟨⟨a',rfl⟩,rfl⟩|⟨a',c,news,cD⟩
   ·exact mN (by simp) (run_copy_none w _ _ _ _ _ _ hu hi (by simp))
   have hr:=S.h.rel id _ ab
   cases hr with
   | dv az=>rw[az] at hb;cases hb
   | @arr _ _ _ b' Ca _ az hh oY hf dR lR=>
    rw[hb] at az
    cases az
    have ld:news.length=xs.length:=by rw[cD.len,h1,mw]
    rw[h1,mw] at oY
    have kE:(news.take es.length).length=Nat.min xs.length es.length:=by
     rw[fj,ld,Nat.min_comm]
    have MR:Nat.min xs.length es.length=min xs.length es.length:=rfl
    have cR:=run_copy_row (P:=P) w t u ty e b 0 es.length cap a' xs.length c Ca e (news.take es.length) hu (by rw[hi];simp[aU,h1]) hh kE
     (fun j v hj=>cD.cell j v (by
      have:=(br.1 hj).1
      rw[fj] at this
      rwa [eJ (by omega)] at hj)) (by rw[kE,MR];omega) (fun v hv=>cD.one au v (List.mem_of_mem_take hv))
    rw[cD.val]
    have hq:(goInt (news.take es.length).length)= .int .i64 ((min xs.length es.length:Nat):Int):=by rw[kE];rfl
    have iY:(xs.take es.length++es.drop xs.length).length=es.length:=by simp;omega
    have nU:(Ca.toList.take 0++news.take es.length++Ca.toList.drop (0+(news.take es.length).length)).toArray.size=Ca.size:=by
     simp only[pH,cv,sL,fj,kE,MR]
     simp
     omega
    obtain ⟨a1,a2⟩:=CO S (blk':= .arr e (xs.take es.length++es.drop xs.length) false) (Cb:=(Ca.toList.take 0++news.take es.length++Ca.toList.drop (0+(news.take es.length).length)).toArray) ab (by simp) ⟨rfl,iY.symm⟩ hb (dR rfl) (by simp) hh nU
     (fun hle eF=> .arr au rfl eF (by rw[nU,iY,h1,mw];exact oY) (fun h=>by cases h) (fun _=>dR rfl) fun i j y t' hy ht hj=>by
      rw[h1] at hj⊢
      obtain rfl:j=0:=by omega
      rw[mw,Nat.add_zero]
      have ql:=(br.1 hy).1
      rw[iY] at ql
      by_cases cq:i<xs.length
      ·rw[ij (by rw[fj];omega),eJ ql] at hy
       obtain ⟨u',k1,k2⟩:=cD.el i 0 y t' hy ht (by omega)
       rw[h1,mw,Nat.add_zero] at k1
       refine ⟨u',?_,k2.mono hle.c9 hle.b6⟩
       simp only[List.take_zero,List.nil_append,mu]
       rw[ij (by rw[fj];omega),eJ ql]
       exact k1
      ·have e1:(xs.take es.length).length=xs.length:=by rw[fj];omega
       rw[ik (by omega),e1,gQ,show xs.length+(i-xs.length)=i by omega] at hy
       obtain ⟨u',k1,k2⟩:=lR i 0 y t' hy ht (by omega)
       rw[h1,mw,Nat.add_zero] at k1
       refine ⟨u',?_,k2.mono hle.c9 hle.b6⟩
       simp only[List.take_zero,List.nil_append,mu,fS]
       have e2:(news.take es.length).length=xs.length:=by rw[fj];omega
       rw[ik (by omega),e2,gQ,show xs.length+(i-xs.length)=i by omega]
       simpa using k1)
    exact ⟨_,_,_,_,cR,a1,a2,by rw[hq];exact .int⟩
theorem WD (S:aE P w I β hp B M w0) {t ty e:TypeId} {x:Value} {xv:V} {r:R} {rd:List Nat} (hu:P.underlying t=some (.slice e)) (hx:ao P w I β hp x xv)
  (h:(Gu P e xv).run C hp=some (r,rd)):cU P ((Builtin.clear_ #[t] ty #[x]).run P w) w I β hp B M w0 r:=by
 unfold Gu at h
 obtain ⟨cM,h'⟩:=aF h
 clear h
 have au:cK P e=true:=by
  unfold lG at cM;simp only[aI] at cM;exact cM.1
 obtain ⟨i,z,hi,hz,aU,zf,WE⟩:=zc (w:=w) (I:=I) cM
 have iW:=(jV au).2
 cases xv<;>simp only at h'<;>first|(cases h';done)|skip
 rename_i e' id off len
 obtain ⟨l,U⟩:=run_get h'
 clear h'
 cases ab:hp id with
 | none=>rw[ab] at U;cases U
 | some blk=>
  rw[ab] at U
  cases blk<;>simp only at U<;>first|(cases U;done)|skip
  rename_i e2 es fz
  cases fz with
  | true=>cases U
  | false=>
  obtain ⟨hc,h3⟩:=aF U
  simp only[aI,aQ] at hc
  obtain ⟨rfl,rfl⟩:=hc
  obtain rfl:=aL h3
  have mN:len=0→(Builtin.clear_ #[t] ty #[x]).run P w= .ok (.tuple #[]) w→cU P ((Builtin.clear_ #[t] ty #[x]).run P w) w I β hp B M w0 ⟨.bc [],[(id,.arr e (es.take off++(List.replicate len (ct P e (ei P e))++es.drop (off+len))) false)]⟩:=by
   intro h0 hr
   subst h0
   have fL:bE hp [(id,.arr e (es.take off++(List.replicate 0 (ct P e (ei P e))++es.drop (off+0))) false)]=hp:=by
    simp only[List.replicate_zero,List.nil_append,Nat.add_zero,BV]
    exact GG hp id _ ab
   refine ⟨.tuple #[],w,I,β,hr,?_⟩
   simp only[fL]
   exact ⟨Le.refl w I β hp,S,.bc rfl fun j v x hj hx=>by simp at hx⟩
  cases hx with
  | fJ hd=>rw[ab] at hd;cases hd
  | @fu _ _ _ a0 hd hb=>exact mN rfl (by cases a0<;>simp[Builtin.clear_,run_underlying hu])
  | @sub _ _ _ _ aH mD b o cap hd hb ky bU ho=>
   by_cases hlen:len=0
   ·refine mN hlen ?_
    subst hlen
    simp[Builtin.clear_,run_underlying hu]
   have WG:0<len:=by omega
   have ek:=hd
   rw[ab] at hd
   cases hd
   have hr:=S.h.rel id _ ab
   cases hr with
   | dv az=>rw[az] at hb;cases hb
   | @arr _ _ _ b' Ca _ az hh oY hf dR lR=>
    rw[hb] at az
    cases az
    have ho:=ho WG
    subst ho
    have tq:(Builtin.zeroCells z.cells len).toList.length=len*P.cellsOf e:=by rw[Array.length_toList,size_zeroCells,zf]
    have hmul:off*P.cellsOf e+len*P.cellsOf e≤es.length*P.cellsOf e:=by rw[←dc];exact dp _ ky
    have qi: ∀v∈(Builtin.zeroCells z.cells len).toList,v.oneCell'=true:=by
     intro v hv
     obtain ⟨k,hk⟩:=rj hv
     have hU:=(br.1 hk).1
     rw[tq] at hU
     have WH:(Builtin.zeroCells z.cells len)[k]? =z.cells[k %z.cells.size]? :=ML (z:=z.cells) (n:=len*z.cells.size) (by rw[zf];exact hU) (by rw[zf];exact iW)
     rw[rk,WH] at hk
     have hm:k %z.cells.size<P.cellsOf e:=by rw[zf];exact Nat.mod_lt _ iW
     have WI:k %z.cells.size<(aS P e).length:=by rw[fb au];exact hm
     obtain ⟨v',vE,hp'⟩:=WE (k %z.cells.size) _ (bx WI) hm
     rw[hk] at vE
     cases vE
     generalize bH P e (ct P e (ei P e)) (k %z.cells.size)=y at hp'
     cases hp'<;>rfl
    have b9:=run_storeCells_at P b (off*P.cellsOf e) e (Builtin.zeroCells z.cells len).toList 0 Ca w hh (by rw[tq];omega) qi
    simp only[Nat.add_zero] at b9
    have cR:(Builtin.clear_ #[t] ty #[.slice (some ⟨b,off*P.cellsOf e,none⟩) len cap]).run P w= .ok (.tuple #[]) (w.setRow b (Ca.toList.take (off*P.cellsOf e)++(Builtin.zeroCells z.cells len).toList++Ca.toList.drop (off*P.cellsOf e+(Builtin.zeroCells z.cells len).toList.length)).toArray):=by
     obtain ⟨n,rfl⟩: ∃n,len=n+1:=⟨len-1,by omega⟩
     simp[Builtin.clear_,run_underlying hu,zeroValue,typeInfo,hi,hz,b9]
    have iY:(es.take off++(List.replicate len (ct P e (ei P e))++es.drop (off+len))).length=es.length:=by simp;omega
    have nU:(Ca.toList.take (off*P.cellsOf e)++(Builtin.zeroCells z.cells len).toList++Ca.toList.drop (off*P.cellsOf e+(Builtin.zeroCells z.cells len).toList.length)).toArray.size=Ca.size:=by
     simp only[pH,cv,sL,fj,tq,Array.length_toList]
     omega
    obtain ⟨a1,a2⟩:=CO S (blk':= .arr e (es.take off++(List.replicate len (ct P e (ei P e))++es.drop (off+len))) false) ab (by simp) ⟨rfl,iY.symm⟩ hb (dR rfl) (by simp) hh nU
     (fun hle eF=> .arr au rfl eF (by rw[nU,iY];exact oY) (fun h=>by cases h) (fun _=>dR rfl) fun i' j y t' hy ht hj=>by
      have gH:=mL es (List.replicate len (ct P e (ei P e))) off i' (by simp;omega)
      rw[sM] at gH
      rw[gH] at hy
      have hC:(Ca.toList.take (off*P.cellsOf e)++(Builtin.zeroCells z.cells len).toList++Ca.toList.drop (off*P.cellsOf e+(Builtin.zeroCells z.cells len).toList.length)).toArray[i'*P.cellsOf e+j]? =
        if i'*P.cellsOf e+j<off*P.cellsOf e then Ca.toList[i'*P.cellsOf e+j]? else if i'*P.cellsOf e+j<off*P.cellsOf e+len*P.cellsOf e then (Builtin.zeroCells z.cells len).toList[i'*P.cellsOf e+j-off*P.cellsOf e]? else Ca.toList[i'*P.cellsOf e+j]? :=by
       have:=mL Ca.toList (Builtin.zeroCells z.cells len).toList (off*P.cellsOf e) (i'*P.cellsOf e+j) (by rw[tq,Array.length_toList];omega)
       rw[mu,cm,this,tq]
      by_cases Hq:i'<off
      ·rw[aj Hq] at hy
       have:(i'+1)*P.cellsOf e≤off*P.cellsOf e:=dp _ Hq
       rw[dc] at this
       rw[aj (by omega)] at hC
       obtain ⟨u,k1,k2⟩:=lR i' j y t' hy ht hj
       exact ⟨u,hC.trans (by simpa using k1),k2.mono hle.c9 hle.b6⟩
      ·rw[ai Hq] at hy
       have h1:off*P.cellsOf e≤i'*P.cellsOf e:=dp _ (by omega)
       rw[ai (by omega)] at hC
       by_cases gG:i'<off+len
       ·rw[aj gG] at hy
        have:(i'+1)*P.cellsOf e≤(off+len)*P.cellsOf e:=dp _ gG
        rw[dc,dc] at this
        rw[aj (by omega)] at hC
        obtain ⟨v,k1,k2⟩:=CY (w:=w) (I:=I) cM hi hz len len (cf _) (i'-off) j y t' hy ht hj
        refine ⟨v,hC.trans ?_,k2.mono hle.c9 hle.b6⟩
        rw[show i'*P.cellsOf e+j-off*P.cellsOf e=(i'-off)*P.cellsOf e+j by rw[Nat.sub_mul];omega,rk]
        unfold Builtin.zeroCells
        rw[zf] at k1⊢
        exact k1
       ·rw[ai gG] at hy
        have:(off+len)*P.cellsOf e≤i'*P.cellsOf e:=dp _ (by omega)
        rw[dc] at this
        rw[ai (by omega)] at hC
        obtain ⟨u,k1,k2⟩:=lR i' j y t' hy ht hj
        exact ⟨u,hC.trans (by simpa using k1),k2.mono hle.c9 hle.b6⟩)
    exact ⟨_,_,_,_,cR,a1,a2,.bc rfl fun j v x hj hx=>by simp at hx⟩
end
section
variable {P:Program} {w w':World} {I I':Nat→Prop} {β β':Nat→Option Nat} {hp hp':Nat→Option an} {C:ag} {B:Nat} {M:Nat→Prop} {w0:Start}
theorem WJ (S:aE P w I β hp B M w0) {s:TypeId} {f:Nat} {v:Value} {x:V} {r:R} {rd:List Nat} (hv:ao P w I β hp v x)
  (h:(Gy P s f x).run C hp=some (r,rd)):cU P ((Instr.field s v f).run P w) w I β hp B M w0 r:=by
 unfold Gy Cd at h
 split at h
 ·rename_i fs hu
  cases hf:fs[f]? with
  | none=>rw[hf] at h;cases h
  | some fd=>
   rw[hf] at h
   simp only[vh] at h
   obtain ⟨ht,h⟩:=aF h
   obtain ⟨d,tv⟩:=yY ht
   obtain ⟨i,hi⟩:=vC tv
   have aU:i.size=P.cellsOf fd.type:=by simp[Program.cellsOf,hi]
   cases x with
   | agg xs=>
    obtain ⟨cs,rfl,h1,U⟩:=hv.kB
    dsimp only at h
    cases ha:bD P fd.type with
    | true=>
     rw[ha] at h
     simp only[cond_true] at h
     obtain ⟨hc,h⟩:=aF h
     obtain rfl:=aL h
     rw[dN] at hc
     refine .same S (v:= .agg (cs.extract fd.offset (fd.offset+P.cellsOf fd.type))) ?_ (.agg (by simp;omega) fun j u y fv hy=> ?_)
     ·simp[Instr.field,run_underlying hu,hf,part,GY tv,ha,asAgg,sizeOf,typeInfo,hi,aU]
     ·have hj:j<P.cellsOf fd.type:=by
       have:=(gR.1 fv).1
       simp at this;omega
      rw[eJ hj,gQ] at hy
      refine U (fd.offset+j) u y ?_ hy
      rw[Array.getElem?_extract] at fv
      split at fv
      ·exact fv
      ·cases fv
    | false=>
     rw[ha] at h
     simp only[cond_false] at h
     obtain ⟨y,hy,h⟩:=kZ h
     obtain rfl:=aL h
     have aO:fd.offset<cs.size:=by rw[h1];exact (br.1 hy).1
     refine .same S (v:=cs[fd.offset]) ?_ (U _ _ _ (kj aO) hy)
     simp[Instr.field,run_underlying hu,hf,part,GY tv,ha,asAgg,aO]
   | _=>cases h
 ·cases h
theorem WK (S:aE P w I β hp B M w0) {i:Nat} {v:Value} {xs:List V} {r:R} {rd:List Nat} (hv:ao P w I β hp v (.bc xs))
  (h:(Rd.opt xs[i]? fun v=> .ret ⟨v,[]⟩).run C hp=some (r,rd)):cU P ((Instr.extract v i).run P w) w I β hp B M w0 r:=by
 obtain ⟨cs,rfl,h1,U⟩:=hv.te
 obtain ⟨y,hy,h⟩:=kZ h
 obtain rfl:=aL h
 have aO:i<cs.size:=by rw[h1];exact (br.1 hy).1
 exact .same S (v:=cs[i]) (by simp[Instr.extract,aO]) (U _ _ _ (kj aO) hy)
theorem WM (S:aE P w I β hp B M w0) {t:TypeId} {s:ByteArray} {l:List UInt8} {k:IntKind} {i:Int} {r:R} {rd:List Nat} (hu:P.underlying t=some .string) (hs:s.data.toList=l)
  (h:(Rd.opt (bif decide (0≤i) then (l[i.toNat]?).map fun b=>V.int .u8 b.toNat else none) fun v=> .ret ⟨.int .u8 v.toInt,[]⟩).run C hp=some (r,rd)):
  cU P ((Instr.index t (.string s) (.int k i)).run P w) w I β hp B M w0 r:=by
 obtain ⟨v,hv,h⟩:=kZ h
 obtain rfl:=aL h
 cases hc:decide (0≤i) with
 | false=>rw[hc] at hv;cases hv
 | true=>
  rw[hc] at hv
  simp only[cond_true] at hv
  have h0:0≤i:=by simpa using hc
  cases hb:l[i.toNat]? with
  | none=>rw[hb] at hv;cases hv
  | some b=>
   rw[hb] at hv
   simp only[Option.map_some,dG] at hv
   subst hv
   have WN:s[i.toNat]? =some b:=by
    subst hs
    obtain ⟨aO,he⟩:=br.1 hb
    have Hr:i.toNat<s.size:=by simpa using aO
    rw[getElem?_pos s i.toNat Hr]
    congr 1
   refine .same S (v:= .int .u8 b.toNat) ?_ .int
   simp[Instr.index,asIntOf,run_underlying hu,h0,WN]
theorem Hs (S:aE P w I β hp B M w0) (mx:Bool): ∀{vs:List Value} {xs:List V} {v:Value} {x:V} {r:R} {rd:List Nat},ao P w I β hp v x→vs.length=xs.length→
  (∀(j:Nat) u y,vs[j]? =some u→xs[j]? =some y→ao P w I β hp u y)→(vi mx x xs).run C hp=some (r,rd)→
  cU P ((vs.foldlM (if mx then Builtin.max2 else Builtin.min2) v).run P w) w I β hp B M w0 r
 | [],[],v,x,r,rd,hv,_,_,h=>by
  have:r=⟨x,[]⟩:=by
   cases x<;>(simp only[vi] at h;exact (aL h).symm)
  subst this
  exact .same S (by simp) hv
 | [],_::_,v,x,r,rd,hv,hl,_,h=>by simp at hl
 | _::_,[],v,x,r,rd,hv,hl,_,h=>by simp at hl
 | u::vs,y::xs,v,x,r,rd,hv,hl,hx,h=>by
  cases x<;>cases y<;>simp only[vi] at h<;>first|(cases h;done)|skip
  rename_i k a k' b
  obtain ⟨hc,h4⟩:=aF h
  clear h
  obtain rfl:k=k':=by simpa using hc
  have hu:=hx 0 u _ rfl rfl
  rw[hv.dJ,hu.dJ]
  have ih:=Hs S mx (vs:=vs) (xs:=xs) (v:= .int k (bif mx then (if b>a then b else a) else (if b<a then b else a))) .int (by simpa using hl)
   (fun j u y h1 U=>hx (j+1) u y (by simpa using h1) (by simpa using U)) h4
  cases mx with
  | true=>simpa[List.foldlM_cons,Builtin.max2] using ih
  | false=>simpa[List.foldlM_cons,Builtin.min2] using ih
theorem qm {n cap:Nat} {isS:Bool} {lo hi:Option V} {lov hiv:Option Value} {k:Nat→Nat→Rd R} {r:R} {rd:List Nat} (hn:n≤cap)
  (iE: ∀x,lo=some x→∃v,lov=some v∧ao P w I β hp v x) (gI: ∀x,hi=some x→∃v,hiv=some v∧ao P w I β hp v x) (mO:lo=none→lov=none) (nV:hi=none→hiv=none)
  (h:(rA n lo hi k).run C hp=some (r,rd)): ∃l u,l≤u∧u≤n∧(Instr.sliceBounds isS n cap lov hiv none).run P w= .ok (l,u,cap) w∧(k l u).run C hp=some (r,rd):=by
 have ok: ∀(kk:IntKind) (i:Int) (y:Nat) (c:BoundsCode),0≤i→i≤y→(Instr.sliceBound (.int kk i) y c).run P w= .ok i.toNat w:=by
  intro kk i y c h1 U
  simp[Instr.sliceBound,asIntOf,h1,U]
 unfold rA at h
 cases lo with
 | none=>
  rw[mO rfl]
  cases hi with
  | none=>
   rw[nV rfl]
   exact ⟨0,n,kh _,cf _,by simp[Instr.sliceBounds],h⟩
  | some x=>
   obtain ⟨v,rfl,hv⟩:=gI x rfl
   cases x<;>simp only at h<;>first|(cases h;done)|skip
   rename_i kk u
   obtain ⟨hc,h⟩:=aF h
   simp only[aI,dF] at hc
   rw[hv.dJ]
   have:=ok kk u cap (if isS then .sliceAcap else .sliceAlen) hc.1 (by omega)
   exact ⟨0,u.toNat,kh _,by omega,by simp[Instr.sliceBounds,this],h⟩
 | some x=>
  obtain ⟨v,rfl,hv⟩:=iE x rfl
  cases hi with
  | none=>
   rw[nV rfl]
   cases x<;>simp only at h<;>first|(cases h;done)|skip
   rename_i kk l
   obtain ⟨hc,h⟩:=aF h
   simp only[aI,dF] at hc
   rw[hv.dJ]
   have:=ok kk l n .sliceB hc.1 (by omega)
   exact ⟨l.toNat,n,by omega,cf _,by simp[Instr.sliceBounds,this],h⟩
  | some y=>
   obtain ⟨v2,rfl,p6⟩:=gI y rfl
   cases x<;>cases y<;>simp only at h<;>first|(cases h;done)|skip
   rename_i kk l WO u
   obtain ⟨hc,h⟩:=aF h
   simp only[aI,dF] at hc
   rw[hv.dJ,p6.dJ]
   have h1:=ok WO u cap (if isS then .sliceAcap else .sliceAlen) (by omega) (by omega)
   have U:=ok kk l u.toNat .sliceB hc.1 (by omega)
   exact ⟨l.toNat,u.toNat,by omega,by omega,by simp[Instr.sliceBounds,h1,U],h⟩
theorem C7 {a:Option Addr} {t e:TypeId} {i:TypeInfo} (hu:P.underlying t=some (.slice e)) (hi:P.info? e=some i) {lov hiv:Option Value}
  (hb:(Instr.sliceBounds true 0 0 lov hiv none).run P w= .ok (0,0,0) w):(Instr.sliceAt t (.slice a 0 0) lov hiv none).run P w= .ok (.slice a 0 0) w:=by
 cases a<;>simp[Instr.sliceAt,Instr.slice,run_underlying hu,hb,sizeOf,typeInfo,hi]
theorem Ht {t e:TypeId} {i:TypeInfo} {b o len cap l u:Nat} (hu:P.underlying t=some (.slice e)) (hi:P.info? e=some i) {lov hiv:Option Value} (huc:u≤cap)
  (hb:(Instr.sliceBounds true len cap lov hiv none).run P w= .ok (l,u,cap) w): ∃o',(0<u-l→o'=o+l*i.size)∧(Instr.sliceAt t (.slice (some ⟨b,o,none⟩) len cap) lov hiv none).run P w= .ok (.slice (some ⟨b,o',none⟩) (u-l) (cap-l)) w:=by
 by_cases hc:cap=l
 ·subst hc
  refine ⟨o,fun h=>by omega,?_⟩
  ·simp[Instr.sliceAt,Instr.slice,run_underlying hu,hb,sizeOf,typeInfo,hi]
 ·refine ⟨o+l*i.size,fun _=>rfl,?_⟩
  simp[Instr.sliceAt,Instr.slice,run_underlying hu,hb,sizeOf,typeInfo,hi,hc,mK]
theorem WQ (s:ByteArray) (l:List UInt8) (h:s.data.toList=l) (a b:Nat):(s.extract a b).data.toList=(l.drop a).take (b-a):=by
 subst h
 simp[ByteArray.data_extract]
theorem WR (S:aE P w I β hp B M w0) {t:TypeId} {v:Value} {x:V} {lo hi:Option V} {lov hiv:Option Value} {r:R} {rd:List Nat} (hv:ao P w I β hp v x)
  (iE: ∀x,lo=some x→∃v,lov=some v∧ao P w I β hp v x) (gI: ∀x,hi=some x→∃v,hiv=some v∧ao P w I β hp v x) (mO:lo=none→lov=none) (nV:hi=none→hiv=none)
  (h:(Cj P t x lo hi).run C hp=some (r,rd)):cU P ((Instr.sliceAt t v lov hiv none).run P w) w I β hp B M w0 r:=by
 unfold Cj at h
 cases hu:P.underlying t with
 | none=>rw[hu] at h;cases h
 | some d=>
  rw[hu] at h
  cases d<;>simp only at h<;>first|(cases h;done)|skip
  case string=>
   cases x<;>simp only at h<;>first|(cases h;done)|skip
   rename_i l
   obtain ⟨s,rfl,hs⟩:=hv.lN
   have aU:l.length=s.size:=by rw[←hs];simp
   obtain ⟨a,u,h1,U,h3,h4⟩:=qm (isS:=false) (cap:=s.size) (by omega) iE gI mO nV h
   obtain rfl:=aL h4
   rw[aU] at h3
   refine .same S (v:= .string (s.extract a u)) ?_ (.str (WQ s l hs a u))
   simp[Instr.sliceAt,Instr.slice,run_underlying hu,h3]
  case slice e=>
   cases x<;>simp only at h<;>first|(cases h;done)|skip
   case list e' es=>
    obtain ⟨hc,h⟩:=aF h
    simp only[aI,aQ] at hc
    obtain ⟨dw,au⟩:=hc
    obtain ⟨i,z,dK,_,aU,_⟩:=jY au
    cases hv with
    | list hp'=>
     cases hp' with
     | nil=>
      obtain ⟨a,u,h1,U,h3,h4⟩:=qm (n:=0) (isS:=true) (cap:=0) (cf _) iE gI mO nV h
      obtain rfl:=aL h4
      obtain rfl:u=0:=by omega
      obtain rfl:a=0:=by omega
      exact .same S (C7 hu dK h3) (by simpa using ao.list iv.nil)
     | @emp ad cap=>
      obtain ⟨a,u,h1,U,h3,h4⟩:=qm (n:=0) (isS:=true) (cap:=cap) (kh _) iE gI mO nV h
      obtain rfl:=aL h4
      obtain rfl:u=0:=by omega
      obtain rfl:a=0:=by omega
      refine .same S (v:= .slice (some ad) 0 cap) ?_ (by simpa using ao.list iv.emp)
      by_cases hc:cap=0
      ·subst hc
       simp[Instr.sliceAt,Instr.slice,run_underlying hu,h3,sizeOf,typeInfo,dK]
      ·simp[Instr.sliceAt,Instr.slice,run_underlying hu,h3,sizeOf,typeInfo,dK,hc,Addr.add]
     | @list b o len cap _ g hl bU hI fK hx=>
      obtain ⟨a,u,h1,U,h3,h4⟩:=qm (isS:=true) (cap:=cap) (by omega) iE gI mO nV h
      obtain rfl:=aL h4
      rw[hl] at U h3
      obtain ⟨o',iX,cR⟩:=Ht (b:=b) (o:=o) hu dK (by omega) h3
      have gb:e=e':=dw
      refine .same S cR (.list ?_)
      rw[←gb]
      rw[←gb] at fK hx hI
      have hlen:((es.drop a).take (u-a)).length=u-a:=by simp;omega
      refine .list (fun i j=>g (a+i) j) hlen (by omega) (fun h=>hI (rf h (dp _ (by omega)))) (fun i j hi hj=> ?_) (fun i j y t' hy ht=> ?_)
      ·have:=fK (a+i) j (by omega) hj
       rw[dc,ny,←ny o] at this
       rw[iX (by omega),aU]
       exact this
      ·have hi:i<u-a:=by rw[←hlen];exact (br.1 hy).1
       rw[eJ hi,gQ] at hy
       exact hx (a+i) j y t' hy ht
   case whole e' id=>
    obtain ⟨l,h⟩:=run_get h
    cases ab:hp id with
    | none=>rw[ab] at h;cases h
    | some blk=>
     rw[ab] at h
     cases blk<;>simp only at h<;>first|(cases h;done)|skip
     rename_i dq es fz
     obtain ⟨hc,h9⟩:=aF h
     clear h
     simp only[aI,aQ] at hc
     obtain ⟨dw,iw,au⟩:=hc
     obtain ⟨i,z,dK,_,aU,_⟩:=jY au
     cases hv with
     | dQ hd=>rw[ab] at hd;cases hd
     | dZ hd=>rw[ab] at hd;cases hd
     | dt hd hb=>
      rw[ab] at hd
      cases hd
      obtain ⟨a,u,h1,U,h3,h4⟩:=qm (n:=0) (isS:=true) (cap:=0) (cf _) iE gI mO nV h9
      obtain rfl:=aL h4
      obtain rfl:u=0:=by omega
      obtain rfl:a=0:=by omega
      exact .same S (C7 hu dK h3) (.fu ab hb)
     | @whole _ _ aH mD b cap hd hb ze bU hm=>
      have ek:=hd
      rw[ab] at hd
      cases hd
      obtain ⟨a,u,h1,U,h3,h4⟩:=qm (isS:=true) (cap:=cap) bU iE gI mO nV h9
      obtain rfl:=aL h4
      obtain ⟨o',iX,cR⟩:=Ht (b:=b) (o:=0) hu dK (by omega) h3
      have gb:e=e':=dw
      exact .same S cR (.sub ek hb (by omega) (by omega) (fun h=>by rw[iX h,aU,gb,fS]))
   case sub e' id off len=>
    obtain ⟨l,h⟩:=run_get h
    cases ab:hp id with
    | none=>rw[ab] at h;cases h
    | some blk=>
     rw[ab] at h
     cases blk<;>simp only at h<;>first|(cases h;done)|skip
     rename_i dq es fz
     obtain ⟨hc,h⟩:=aF h
     simp only[aI,aQ] at hc
     obtain ⟨dw,iw,au⟩:=hc
     obtain ⟨i,z,dK,_,aU,_⟩:=jY au
     cases hv with
     | fJ hd=>rw[ab] at hd;cases hd
     | fu hd hb=>
      have ek:=hd
      obtain ⟨a,u,h1,U,h3,h4⟩:=qm (isS:=true) (cap:=0) (cf _) iE gI mO nV h
      obtain rfl:=aL h4
      obtain rfl:u=0:=by omega
      obtain rfl:a=0:=by omega
      exact .same S (C7 hu dK h3) (.fu ek hb)
     | @sub _ _ _ _ aH mD b o cap hd hb ky bU ho=>
      have ek:=hd
      obtain ⟨a,u,h1,U,h3,h4⟩:=qm (isS:=true) (cap:=cap) bU iE gI mO nV h
      obtain rfl:=aL h4
      obtain ⟨o',iX,cR⟩:=Ht (b:=b) (o:=o) hu dK (by omega) h3
      have gb:e=e':=dw
      exact .same S cR (.sub ek hb (by omega) (by omega) (fun h=>by rw[iX h,aU,ho (by omega),gb,dc]))
theorem WS (S:aE P w I β hp B M w0) {t:TypeId} {v:Value} {x:V} {lo hi mx:Option V} {lov hiv MS:Option Value} {r:R} {rd:List Nat} (hv:ao P w I β hp v x)
  (iE:lo=none→lov=none) (gI: ∀y,hi=some y→∃u,hiv=some u∧ao P w I β hp u y) (nP: ∀y,mx=some y→∃u,MS=some u∧ao P w I β hp u y)
  (h:(Gw P t x lo hi mx).run C hp=some (r,rd)):cU P ((Instr.sliceAt t v lov hiv MS).run P w) w I β hp B M w0 r:=by
 unfold Gw at h
 cases hu:P.underlying t with
 | none=>rw[hu] at h;cases h
 | some d=>
  rw[hu] at h
  cases d<;>(try (cases h;done))
  rename_i e
  cases lo<;>(try (cases h;done))
  cases hi<;>(try (cases h;done))
  rename_i vQ
  cases vQ<;>(try (cases h;done))
  cases mx<;>(try (cases h;done))
  rename_i WU
  cases WU<;>(try (cases h;done))
  obtain ⟨hc,h9⟩:=aF h
  clear h
  have h:=h9
  clear h9
  simp only[aI,dF] at hc
  obtain ⟨rfl,rfl,au⟩:=hc
  obtain ⟨i,z,dK,_,_,_⟩:=jY au
  obtain ⟨u1,rfl,k1⟩:=gI _ rfl
  obtain ⟨u2,rfl,k2⟩:=nP _ rfl
  rw[k1.dJ,k2.dJ,iE rfl]
  have run: ∀{k k2:IntKind} (a:Option Addr) (len cap:Nat),(Instr.sliceAt t (.slice a len cap) none (some (.int k 0)) (some (.int k2 0))).run P w= .ok (.slice a 0 0) w:=by
   intro k k2 a len cap
   cases a<;>simp[Instr.sliceAt,Instr.slice,Instr.sliceBounds,Instr.sliceBound,asIntOf,run_underlying hu,sizeOf,typeInfo,dK]
  cases x<;>(try (cases h;done))
  ·simp only at h
   obtain rfl:=aL h
   cases hv with
   | list hp'=>cases hp'<;>exact .same S (run _ _ _) .nilS
  ·simp only at h
   obtain rfl:=aL h
   cases hv
   exact .same S (run _ _ _) .nilS
  ·rename_i e' id
   simp only at h
   obtain ⟨l,h⟩:=run_get h
   cases ab:hp id with
   | none=>rw[ab] at h;cases h
   | some blk=>
    rw[ab] at h
    cases blk<;>simp only at h<;>first|(cases h;done)|skip
    all_goals
     obtain rfl:=aL h
     cases hv with
     | dQ hd=>rw[ab] at hd;cases hd
     | dZ hd=>exact .same S (run _ _ _) .nilS
     | dt hd hb=>exact .same S (run _ _ _) .nilS
     | whole hd=>exact .same S (run _ _ _) .nilS
theorem WV (S:aE P w I β hp B M w0) {t:TypeId} {v ix:Value} {x y:V} {r:R} {rd:List Nat} (hv:ao P w I β hp v x) (hy:ao P w I β hp ix y)
  (h:(Gz P t x y).run C hp=some (r,rd)):cU P ((Instr.indexAt t v ix).run P w) w I β hp B M w0 r:=by
 unfold Gz at h
 cases hu:P.underlying t with
 | none=>rw[hu] at h;cases h
 | some d=>
  rw[hu] at h
  cases y<;>(try (cases d<;>cases h;done))
  rename_i k i
  rw[hy.dJ]
  cases d<;>simp only at h<;>first|(cases h;done)|skip
  case slice e=>
   have run: ∀(b o len cap:Nat) (ie:TypeInfo),P.info? e=some ie→0≤i→i<(len:Int)→(Instr.indexAt t (.slice (some ⟨b,o,none⟩) len cap) (.int k i)).run P w= .ok (.pointer (some ⟨b,o+i.toNat*ie.size,none⟩)) w:=by
    intro b o len cap ie jw h0 h1
    simp[Instr.indexAt,asIntOf,run_underlying hu,h0,h1,sizeOf,typeInfo,jw,mK]
   cases x<;>simp only at h<;>first|(cases h;done)|skip
   case list e' es=>
    obtain ⟨hc,h⟩:=aF h
    simp only[aI,aQ] at hc
    obtain ⟨dw,au⟩:=hc
    have gb:e=e':=dw
    obtain ⟨ie,z,dK,_,aU,_⟩:=jY au
    obtain ⟨el,cM,h⟩:=kZ h
    obtain rfl:=aL h
    unfold idx at cM
    cases h0:decide (0≤i) with
    | false=>rw[h0] at cM;cases cM
    | true=>
     rw[h0] at cM
     simp only[cond_true] at cM
     have vR:0≤i:=by simpa using h0
     have aO:i.toNat<es.length:=(br.1 cM).1
     cases hv with
     | list hp'=>
      cases hp' with
      | nil=>simp at aO
      | emp=>simp at aO
      | @list b o len cap _ g hl bU hI fK hx=>
       rw[←gb] at fK hx hI
       refine .same S (run b o len cap ie dK vR (by omega)) ?_
       have b7:=vD (P:=P) e el
       have Hu:=fb au
       have MT:(bif bD P e then flat P e else [e])=aS P e:=rfl
       rw[MT]
       refine .pref (by rw[b7]) (fun _=>hI ?_) (fun j t' y' ht yV=> ?_)
       ·have:=Nat.mul_pos (show 0<len by omega) (jV au).2
        exact this
       ·obtain ⟨t2,a1,a2⟩:=GZ yV
        rw[ht] at a1;cases a1
        have hj:j<P.cellsOf e:=by rw[←Hu];exact (br.1 ht).1
        have gC:=hx i.toNat j el t' cM ht
        refine ⟨g i.toNat j,?_,?_⟩
        ·rw[aU,ny];exact fK i.toNat j (by omega) hj
        ·rw[a2,gC.rK];exact gC
   case whole e' id=>
    obtain ⟨l,h⟩:=run_get h
    cases ab:hp id with
    | none=>rw[ab] at h;cases h
    | some blk=>
     rw[ab] at h
     cases blk<;>simp only at h<;>first|(cases h;done)|skip
     rename_i dq es fz
     obtain ⟨hc,h⟩:=aF h
     simp only[aI,aQ] at hc
     obtain ⟨dw,iw⟩:=hc
     obtain ⟨en,h⟩:=aF h
     simp only[aI,dF] at en
     obtain rfl:=aL h
     cases hv with
     | dQ hd=>rw[ab] at hd;cases hd
     | dZ hd=>rw[ab] at hd;cases hd
     | dt hd hb=>rw[ab] at hd;cases hd;simp at en;omega
     | @whole _ _ aH mD b cap hd hb ze bU hm=>
      have ek:=hd
      rw[ab] at hd
      cases hd
      have hr:=S.h.rel id _ ab
      cases hr with
      | dv az=>rw[az] at hb;cases hb
      | arr au az hh hs hf dR hx=>
       have gb:e=e':=dw
       obtain ⟨ie,z,dK,_,aU,_⟩:=jY au
       rw[←gb] at dK aU
       refine .same S (run b 0 _ cap ie dK en.1 en.2) ?_
       have:=ao.ptr (P:=P) (w:=w) (I:=I) (i:=i.toNat) (c:=0) ek (by simp) hb
       simp only[an.sz] at this
       rw[fS,aU,gb]
       simpa using this
     rename_i dq es aq
     obtain ⟨hc,h⟩:=aF h
     simp only[aI,aQ] at hc
     obtain ⟨dw,iw⟩:=hc
     obtain ⟨en,h⟩:=aF h
     simp only[aI,dF] at en
     obtain rfl:=aL h
     cases hv with
     | dQ hd=>rw[ab] at hd;cases hd
     | dt hd hb=>rw[ab] at hd;cases hd
     | whole hd=>rw[ab] at hd;cases hd
     | @dZ _ _ aH vers' b cap hd hb ze bU hm=>
      have ek:=hd
      rw[ab] at hd
      cases hd
      have au:=(S.rows ek hb .here).ok
      have gb:e=e':=dw
      obtain ⟨ie,z,dK,_,aU,_⟩:=jY au
      rw[←gb] at dK aU
      refine .same S (run b 0 _ cap ie dK en.1 en.2) ?_
      have:=ao.ptr (P:=P) (w:=w) (I:=I) (i:=i.toNat) (c:=0) ek (by simp) hb
      simp only[an.sz] at this
      rw[fS,aU,gb]
      simpa using this
   case row e' id ver path=>
    obtain ⟨e0,es,aq,l,ab,h1,U,h3,h⟩:=nO h
    obtain ⟨e2,v',k1,k2,h⟩:=vw h
    obtain ⟨hc,h⟩:=aF h
    simp only[aI,aQ] at hc
    obtain ⟨dw,iw⟩:=hc
    obtain ⟨en,h⟩:=aF h
    simp only[aI,dF] at en
    obtain rfl:=aL h
    cases hv with
    | jq hd hp'=>rw[ab] at hd;cases hd;exact absurd hp' (vy h1 U h3)
    | @row v _ e0 t1 _ ver b i1 c1 q es l1 aq hd hb hq Hc ht fK=>
     have WW:=fK
     obtain ⟨b',e3,aH,Ca,T,f,x,m1,m2,m3,m4,m5,m6⟩:=fK
     have iA:=hd
     rw[ab] at iA
     cases iA
     obtain ⟨n1,n2⟩:=Cz m1 m3 m4 ht m5
     rw[n2] at k2
     cases k2
     simp only[V.toList] at en
     have hR:=S.rows hd hb m1
     obtain ⟨C1,c2,c3,c4⟩:=hR.cells
     rw[m2] at c2
     cases c2
     have hj:c1<P.cellsOf e3:=by
      rw[←fb hR.ok];exact (br.1 m4).1
     obtain ⟨v2,d1,d2⟩:=c4 _ _ _ _ m3 m4 hj
     rw[m6] at d1
     cases d1
     rw[m5] at d2
     cases d2 with
     | ft a _=>unfold fm at a;rw[ht] at a;cases a
     | emp _ _=>simp at en;omega
     | @row _ _ b1 cap _ hl _ _ _=>
      have au:=(S.rows hd hb (m1.snoc m2 m3 m4 ht m5 hl m6)).ok
      have gb:e=e':=dw
      obtain ⟨ie,z,dK,_,aU,_⟩:=jY au
      rw[←gb] at dK aU
      refine .same S (run b1 0 _ cap ie dK en.1 en.2) ?_
      have:=ao.cz (P:=P) (I:=I) (i:=i.toNat) (c:=0) hd hb hq Hc ht hl WW
      rw[fS,aU,gb]
      simpa using this
   case sub e' id off len=>
    obtain ⟨l,h⟩:=run_get h
    cases ab:hp id with
    | none=>rw[ab] at h;cases h
    | some blk=>
     rw[ab] at h
     cases blk<;>simp only at h<;>first|(cases h;done)|skip
     rename_i dq es fz
     obtain ⟨hc,h⟩:=aF h
     simp only[aI,aQ] at hc
     obtain ⟨dw,iw⟩:=hc
     obtain ⟨en,h⟩:=aF h
     simp only[aI,dF] at en
     obtain rfl:=aL h
     cases hv with
     | fJ hd=>rw[ab] at hd;cases hd
     | fu hd hb=>simp at en;omega
     | @sub _ _ _ _ aH mD b o cap hd hb ky bU ho=>
      have ek:=hd
      rw[ab] at hd
      cases hd
      have hr:=S.h.rel id _ ab
      cases hr with
      | dv az=>rw[az] at hb;cases hb
      | arr au az hh hs hf dR hx=>
       have gb:e=e':=dw
       obtain ⟨ie,z,dK,_,aU,_⟩:=jY au
       rw[←gb] at dK aU
       refine .same S (run b o _ cap ie dK en.1 en.2) ?_
       have:=ao.ptr (P:=P) (w:=w) (I:=I) (i:=off+i.toNat) (c:=0) ek (by simp) hb
       simp only[an.sz] at this
       rw[ho (by omega),aU,gb,←dc]
       simpa using this
  case array n e=>
   have run: ∀(b o:Nat) (ie:TypeInfo),P.info? e=some ie→0≤i→i<(n:Int)→(Instr.indexAt t (.pointer (some ⟨b,o,none⟩)) (.int k i)).run P w= .ok (.pointer (some ⟨b,o+i.toNat*ie.size,none⟩)) w:=by
    intro b o ie jw h0 h1
    simp[Instr.indexAt,asIntOf,run_underlying hu,h0,h1,sizeOf,typeInfo,jw,mK,Instr.sureAddr]
   cases x<;>simp only at h<;>first|(cases h;done)|skip
   case ptr id j c=>
    obtain ⟨⟨blk,ab,hd⟩,l,h⟩:=vB h
    obtain ⟨en,h⟩:=aF h
    simp only[aI,dF] at en
    obtain rfl:=aL h
    obtain ⟨b,hb,rfl⟩:=hv.gE ab hd
    obtain ⟨d,tv⟩:=yY en.1
    obtain ⟨ie,jw⟩:=vC tv
    have aU:ie.size=P.cellsOf e:=by simp[Program.cellsOf,jw]
    refine .same S (run b _ ie jw en.2.1 en.2.2) ?_
    rw[aU,ny]
    exact .ptr ab hd hb
   case pref ts cs=>
    obtain ⟨en,h⟩:=aF h
    simp only[aI,dF] at en
    obtain rfl:=aL h
    obtain ⟨b,o,rfl,h1,U,h3⟩:=hv.CI
    obtain ⟨d,tv⟩:=yY en.1
    obtain ⟨ie,jw⟩:=vC tv
    have aU:ie.size=P.cellsOf e:=by simp[Program.cellsOf,jw]
    refine .same S (run b _ ie jw en.2.1 en.2.2) ?_
    rw[aU]
    exact ao.Me h1 U h3
end
end Go.AM
namespace Go.AM
open Go.Maps
section
variable {P:Program} {w w':World} {I I':Nat→Prop} {β β':Nat→Option Nat} {hp hp':Nat→Option an} {C:ag} {B:Nat} {M:Nat→Prop} {w0:Start}
theorem WX (S:aE P w I β hp B M w0) {nb:Nat} {t:TypeId} {v:Value} {x:V} {lo hi:Option V} {lov hiv:Option Value} {r:R} {rd:List Nat} (hv:ao P w I β hp v x)
  (gI: ∀x,hi=some x→∃v,hiv=some v∧ao P w I β hp v x) (mO:lo=none→lov=none)
  (h:(Ck P nb t x lo hi).run C hp=some (r,rd)):cU P ((Instr.sliceAt t v lov hiv none).run P w) w I β hp B M w0 r:=by
 unfold Ck at h
 split at h
 case h_2=>cases h
 rename_i e e' id k hh hu
 obtain ⟨l,h1⟩:=run_get h
 cases ab:hp id with
 | none=>rw[ab] at h1;cases h1
 | some blk=>
  rw[ab] at h1
  cases blk<;>simp only at h1<;>first|(cases h1;done)|skip
  rename_i e2 es fz
  cases fz with
  | true=>cases h1
  | false=>
  obtain ⟨hc,U⟩:=aF h1
  simp only[aI,aQ,dF] at hc
  obtain ⟨rfl,rfl,au,MU,MV⟩:=hc
  obtain ⟨hn,rfl⟩:=mM U
  have iE:=mO rfl
  subst iE
  obtain ⟨Hv,rfl,WY⟩:=gI _ rfl
  obtain rfl:=WY.dJ
  obtain ⟨i,z,dK,_,aU,_⟩:=jY au
  have bu:nb≠id:=fun e=>by rw[e,ab] at hn;cases hn
  obtain ⟨k1,k2⟩:=CE S ab
  have jZ:aG hp id (some an.dead) nb=none:=by rw[dS _ _ bu];exact hn
  have MW: ∀cap,es.length≤cap→(Instr.sliceBounds true es.length cap none (some (.int k hh)) none).run P w= .ok (0,hh.toNat,cap) w:=by
   intro cap bU
   have hb:(rA es.length none (some (.int k hh)) fun l u=> .aA (decide (l=0∧u=hh.toNat)) (.ret (⟨.undef,[]⟩:R))).run C hp=some (⟨.undef,[]⟩,[]):=by
    simp[rA,Rd.run,MU,MV]
   obtain ⟨l,u,b1,b2,b3,b4⟩:=qm (P:=P) (w:=w) (I:=I) (β:=β) (hp:=hp) (n:=es.length) (isS:=true) (cap:=cap) (lov:=none) (hiv:=some (.int k hh)) bU (by simp) (fun x hx=>by cases hx;exact ⟨_,rfl,.int⟩) (fun _=>rfl) (by simp) hb
   obtain ⟨b5,_⟩:=aF b4
   simp only[dF] at b5
   obtain ⟨rfl,rfl⟩:=b5
   exact b3
  cases hv with
  | dQ hd=>rw[ab] at hd;cases hd
  | dZ hd=>rw[ab] at hd;cases hd
  | @dt _ _ _ a0 hd hb=>
   rw[ab] at hd
   cases hd
   have G5:hh=0:=by simpa using Int.le_antisymm MV MU
   subst G5
   have az:=MW 0 (cf _)
   obtain ⟨a1,a2⟩:=CD k2 e jZ
   refine ⟨_,w,I,_,C7 hu dK az,k1.trans a1,a2,.dt (cQ _ _ _) (cQ _ _ _)⟩
  | @whole _ _ aH mD b cap hd hb ze bU hm=>
   have ek:=hd
   rw[ab] at hd
   cases hd
   have hr:=S.h.rel id _ ab
   cases hr with
   | dv az=>rw[az] at hb;cases hb
   | @arr _ _ _ b' Ca _ az C8 oY hf dR lR=>
    rw[hb] at az
    cases az
    have iY:(es.take hh.toNat).length=hh.toNat:=by rw[fj];omega
    have cR:(Instr.sliceAt t (.slice (some ⟨b,0,none⟩) es.length cap) none (some (.int k hh)) none).run P w= .ok (.slice (some ⟨b,0,none⟩) hh.toNat cap) w:=by
     have az:=MW cap bU
     by_cases MX:cap=0
     ·subst MX
      simp[Instr.sliceAt,Instr.slice,run_underlying hu,az,sizeOf,typeInfo,dK]
     ·simp[Instr.sliceAt,Instr.slice,run_underlying hu,az,sizeOf,typeInfo,dK,MX,mK]
    have p9: ∀aC blk',aG hp id (some an.dead) aC=some blk'→¬bt P w (β aC) blk' b:=by
     intro aC blk' h1 U
     by_cases iD:aC=id
     ·subst iD;rw[cQ] at h1;cases h1;exact U.alive rfl
     ·rw[dS _ _ iD] at h1
      exact iD (S.h.inj aC id blk' _ b h1 ab U (.root (by simp) hb))
    obtain ⟨a1,a2⟩:=yU k2 (blk:= .arr e (es.take hh.toNat) false) (w':=w) jZ p9 (dR rfl) (fun _ _ _=>rfl) (cf _) ⟨rfl,rfl⟩ (S.h.rG id _ b ab (by simp) hb)
     (fun b' h=>(cY (h.flat (by simp))).symm) (fun hle=> .arr au rfl C8 (by rw[iY];exact lE (dp _ (by omega)) oY) (fun h=>by cases h) (fun _=>dR rfl) fun i j y t' hy ht hj=>by
      have ql:=(br.1 hy).1
      rw[iY] at ql
      rw[eJ ql] at hy
      obtain ⟨v,hv,hp⟩:=lR i j y t' hy ht hj
      exact ⟨v,hv,hp.mono hle.c9 hle.b6⟩)
    refine ⟨_,w,I,_,cR,k1.trans a1,a2,?_⟩
    have:=ao.whole (P:=P) (w:=w) (I:=I) (β:=aG β nb (some b)) (hp:=aG (aG hp id (some .dead)) nb (some (.arr e (es.take hh.toNat) false))) (cap:=cap) (cQ _ _ _) (cQ _ _ _) ze (by rw[iY];omega) hm
    rw[iY] at this
    exact this
theorem qn {t:TypeId} {x:V} (h:oK P t x=true):
  (∃q n,P.underlying t=some (.int q)∧x= .int q n∧Gq q n=true)∨(∃b,P.underlying t=some .bool∧x= .bool b)∨(∃s,P.underlying t=some .string∧x= .str s∧s.length≤maxLen):=by
 unfold oK at h
 split at h
 ·rename_i q q' n hu
  simp only[aI,dF] at h
  obtain ⟨rfl,h⟩:=h
  exact .inl ⟨_,_,hu,rfl,h⟩
 ·rename_i b hu
  exact .inr (.inl ⟨_,hu,rfl⟩)
 ·rename_i s hu
  exact .inr (.inr ⟨_,hu,rfl,by simpa using h⟩)
 ·cases h
theorem size_data (s:ByteArray):s.data.toList.length=s.size:=by simp
theorem WZ {q:IntKind} {n:Int} (h:Gq q n=true):(Lit.int q n).wf=true:=h
theorem MY {t:TypeId} {x:V} {v:Value} (h:oK P t x=true) (hv:iU v x): ∃l,mapKey P t v=some l∧∀d,P.keyLits (d+1) t [v]=some [l]:=by
 rcases qn h with ⟨q,n,hu,rfl,hn⟩|⟨b,hu,rfl⟩|⟨s,hu,rfl,hs⟩
 ·obtain rfl:v= .int q n:=hv
  have hw:=WZ hn
  exact ⟨.int q n,by simp[mapKey,hu,hw],fun d=>by simp[Program.keyLits,hu,hw]⟩
 ·obtain rfl:v= .bool b:=hv
  exact ⟨.bool b,by simp[mapKey,hu],fun d=>by simp[Program.keyLits,hu]⟩
 ·obtain ⟨s',rfl,Hw⟩:=hv
  have:s'.size≤maxLen:=by rw[←size_data,Hw];exact hs
  exact ⟨.string s'.data.toList,by simp[mapKey,hu,this],fun d=>by simp[Program.keyLits,hu,this]⟩
theorem Hy {t:TypeId}: ∀{xs:List V} {j:Nat} {x:V},pP P t xs=true→xs[j]? =some x→oK P t x=true
 | [],j,x,_,h=>by simp at h
 | y::ys,0,x,h,hx=>by
  simp only[pP,aI] at h
  simp at hx;subst hx;exact h.1
 | y::ys,j+1,x,h,hx=>by
  simp only[pP,aI] at h
  exact Hy (j:=j) h.2 (by simpa using hx)
theorem mapM_some {α β:Type} {f:α→Option β}: ∀{l:List α},(∀a∈l,∃b,f a=some b)→∃bs,l.mapM f=some bs
 | [],_=>⟨[],rfl⟩
 | a::l,h=>by
  obtain ⟨b,hb⟩:=h a (rm ..)
  obtain ⟨bs,gD⟩:=mapM_some (l:=l) fun x hx=>h x (kR _ hx)
  exact ⟨b::bs,by simp[List.mapM_cons,hb,gD]⟩
inductive Hz (P:Program) (t:TypeId) (x:V):Prop
 | one:oK P t x=true→x.cells=[x]→Hz P t x
 | arr {n:Nat} {e:TypeId} {xs:List V}:x= .agg xs→WideMaps.ArrKey P t e n→xs.length=n→0<P.types.size→pP P e xs=true→Hz P t x
theorem vS {t:TypeId} {x:V} (h:mC P t x=true):Hz P t x:=by
 unfold mC at h
 split at h
 ·rename_i n e xs hu
  simp only[aI,aQ] at h
  rw[jK] at h
  exact .arr rfl ⟨hu,h.2.2.2.1,h.2.1,h.2.2.1⟩ h.1 h.2.2.2.2.1 h.2.2.2.2.2
 ·refine .one h ?_
  rcases qn h with ⟨q,n,hu,rfl,hn⟩|⟨b,hu,rfl⟩|⟨s,hu,rfl,hs⟩<;>rfl
theorem pX.one {x:V} {v:Value} (h:pX v x) (hx:x.cells=[x]):iU v x:=by
 cases x<;>first|exact h|skip
 simp only[V.cells] at hx
 rename_i cs
 have:=congrArg List.length hx
 cases cs with
 | nil=>simp at hx
 | cons c cs=>
  simp only[List.cons.injEq] at hx
  have:=congrArg SizeOf.sizeOf hx.1
  simp at this
  omega
theorem C9 {t:TypeId} {x:V} {v:Value} (h:mC P t x=true) (hv:pX v x): ∃l,Go.keyOf P t v=some l:=by
 cases vS h with
 | one h1 hx=>
  obtain ⟨l,hl,_⟩:=MY h1 (hv.one hx)
  refine ⟨l,?_⟩
  rcases qn h1 with ⟨q,n,hu,_⟩|⟨b,hu,_⟩|⟨s,hu,_⟩<;>simp only[Go.keyOf,hu,hl]
 | @arr n e xs hx A hl hp0 hf=>
  subst hx
  obtain ⟨cs,rfl,hs,hc⟩:=hv
  obtain ⟨m,hm⟩: ∃m,P.types.size=m+1:=⟨P.types.size-1,by omega⟩
  have W0:=A.keyType ⟨m,hm⟩
  have hlen:cs.toList.length=P.cellsOf t:=by rw[A.size];simp[hs,hl]
  have W3:(Value.agg cs).formed P t=true:=by simp[Value.formed,A.hu,A.size,hs,hl]
  have hex: ∀i∈List.range n,∃y,P.keyLits (m+1) e (((Value.agg cs).cells.toList.drop (i*P.cellsOf e)).take (P.cellsOf e))=some y:=by
   intro i hi
   have hi:=List.mem_range.1 hi
   rw[A.one]
   have fN:i<cs.size:=by omega
   have cq:i<xs.length:=by omega
   obtain ⟨l,_,U⟩:=MY (Hy hf (bx cq)) (hc i cs[i] xs[i] (kj fN) (bx cq))
   have e1:((Value.agg cs).cells.toList.drop (i*1)).take 1=[cs[i]]:=by
    show (cs.toList.drop (i*1)).take 1=_
    rw[mw,List.drop_eq_getElem_cons (by simpa using fN)]
    simp
   rw[e1]
   exact ⟨_,U m⟩
  obtain ⟨bs,gD⟩:=mapM_some hex
  refine ⟨.string (keyBytes bs.flatten),?_⟩
  have W4:(Value.agg cs).cells.toList.length=P.cellsOf t:=hlen
  unfold Go.keyOf
  rw[A.hu]
  simp only[W0,W3,Bool.and_self,dm]
  unfold Program.keyLits
  rw[A.hu,hm]
  simp only[W4,dm,gD,Option.map_some]
theorem HA {t:TypeId} {x:V} (h:mC P t x=true):Keyed P t:=by
 cases vS h with
 | one h1 hx=>
  rcases qn h1 with ⟨q,n,hu,_⟩|⟨b,hu,_⟩|⟨s,hu,_⟩
  ·exact int_keyed hu
  ·exact bool_keyed hu
  ·exact string_keyed hu
 | arr hx A hl _ hf=>exact Keyed.of_law A.law
theorem MZ {t:TypeId} {x y:V} {v u:Value} (h1:oK P t x=true) (U:oK P t y=true) (hv:iU v x) (hu:iU u y):vf x y=true↔v=u:=by
 rcases qn h1 with ⟨q,n,lS,rfl,_⟩|⟨b,lS,rfl⟩|⟨s,lS,rfl,_⟩<;>
 rcases qn U with ⟨q',n',lT,rfl,_⟩|⟨b',lT,rfl⟩|⟨s',lT,rfl,_⟩<;>
  (rw[lS] at lT;cases lT)
 ·obtain rfl:v= .int q n:=hv
  obtain rfl:u= .int q n':=hu
  simp[vf]
 ·obtain rfl:v= .bool b:=hv
  obtain rfl:u= .bool b':=hu
  simp[vf]
 ·obtain ⟨s1,rfl,e1⟩:=hv
  obtain ⟨s2,rfl,e2⟩:=hu
  simp only[vf,nB,Value.string.injEq,←e1,←e2]
  constructor
  ·intro h
   have:=Array.toList_inj.1 h
   cases s1;cases s2;simp_all
  ·rintro rfl;rfl
theorem M0 {t:TypeId}: ∀{xs ys:List V} {vs us:List Value},pP P t xs=true→pP P t ys=true→xs.length=ys.length→vs.length=xs.length→us.length=ys.length→
  (∀(j:Nat) v x,vs[j]? =some v→xs[j]? =some x→iU v x)→(∀(j:Nat) v x,us[j]? =some v→ys[j]? =some x→iU v x)→(sS xs ys=true↔vs=us)
 | [],[],vs,us,_,_,_,h1,U,_,_=>by
  have e1:=kQ (l:=vs) (by simpa using h1)
  have e2:=kQ (l:=us) (by simpa using U)
  simp[sS,e1,e2]
 | [],_::_,_,_,_,_,h,_,_,_,_=>by simp at h
 | _::_,[],_,_,_,_,h,_,_,_,_=>by simp at h
 | x::xs,y::ys,[],us,_,_,_,h,_,_,_=>by simp at h
 | x::xs,y::ys,v::vs,[],_,_,_,_,h,_,_=>by simp at h
 | x::xs,y::ys,v::vs,u::us,f1,f2,h,h1,U,r1,r2=>by
  simp only[pP,aI] at f1 f2
  have a:=MZ f1.1 f2.1 (r1 0 v x rfl rfl) (r2 0 u y rfl rfl)
  have b:=M0 (vs:=vs) (us:=us) f1.2 f2.2 (by simpa using h) (by simpa using h1) (by simpa using U) (fun j v x hj hx=>r1 (j+1) v x (by simpa using hj) (by simpa using hx)) (fun j v x hj hx=>r2 (j+1) v x (by simpa using hj) (by simpa using hx))
  simp only[sS,aI,a,b,List.cons.injEq]
theorem HB {t:TypeId} {x y:V} {v u:Value} (h1:mC P t x=true) (U:mC P t y=true) (hv:pX v x) (hu:pX u y):lI x y=true↔v=u:=by
 unfold lI
 cases vS h1 with
 | one f1 c1=>
  cases vS U with
  | one f2 c2=>
   rw[c1,c2]
   simp only[sS,Bool.and_true]
   exact MZ f1 f2 (hv.one c1) (hu.one c2)
  | arr hy A hl _ hf=>
   rcases qn f1 with ⟨q,n,lS,_⟩|⟨b,lS,_⟩|⟨s,lS,_⟩<;>(rw[A.hu] at lS;cases lS)
 | arr hx A hl _ hf=>
  cases vS U with
  | one f2 c2=>
   rcases qn f2 with ⟨q,n,lS,_⟩|⟨b,lS,_⟩|⟨s,lS,_⟩<;>(rw[A.hu] at lS;cases lS)
  | arr hy A2 jM _ HC=>
   have gb:=A.hu.symm.trans A2.hu
   cases gb
   subst hx
   subst hy
   obtain ⟨cs,rfl,s1,r1⟩:=hv
   obtain ⟨ds,rfl,s2,r2⟩:=hu
   have:=M0 (vs:=cs.toList) (us:=ds.toList) hf HC (by omega) (by simpa using s1) (by simpa using s2) (fun j v x hj hx=>r1 j v x (by simpa using hj) hx) (fun j v x hj hx=>r2 j v x (by simpa using hj) hx)
   simp only[V.cells,this,Value.agg.injEq]
   exact Array.toList_inj
theorem M1 {k:V}: ∀{es:List V},(∀x∈es,lI k (x.comp 0)=false)→kV k es=false∧(∀z,lJ k es z=z)∧∀v,il k v es=es++[.bc [k,v]]
 | [],_=>⟨rfl,fun _=>rfl,fun _=>rfl⟩
 | e::es,h=>by
  have h0:=h e (rm ..)
  obtain ⟨a,b,c⟩:=M1 (k:=k) (es:=es) fun x hx=>h x (kR _ hx)
  exact ⟨by simp[kV,h0,a],fun z=>by simp[lJ,h0,b],fun v=>by simp[il,h0,c]⟩
theorem M3 {k:V}: ∀{es:List V} {j:Nat} {k' y:V},es[j]? =some (.bc [k',y])→lI k k'=true→(∀i x,i<j→es[i]? =some x→lI k (x.comp 0)=false)→
  kV k es=true∧(∀z,lJ k es z=y)∧∀v,il k v es=es.set j (.bc [k',v])
 | [],j,k',y,h,_,_=>by simp at h
 | e::es,0,k',y,h,he,_=>by
  simp at h
  subst h
  exact ⟨by simp[kV,V.comp,V.nth,he],fun z=>by simp[lJ,V.comp,V.nth,he],fun v=>by simp[il,V.comp,V.nth,he]⟩
 | e::es,j+1,k',y,h,he,aO=>by
  have h0:=aO 0 e (by omega) rfl
  obtain ⟨a,b,c⟩:=M3 (k:=k) (es:=es) (j:=j) (by simpa using h) he fun i x hi hx=>aO (i+1) x (by omega) (by simpa using hx)
  exact ⟨by simp[kV,h0,a],fun z=>by simp[lJ,h0,b],fun v=>by simp[il,h0,c]⟩
theorem M4 {kt vt:TypeId} {E:Array MapEntry} {es:List V} {k:V} {kv:Value} (hs:E.size=es.length) (hx: ∀(j:Nat) (e:MapEntry) (x:V),E[j]? =some e→es[j]? =some x→Cu P kt vt e x)
  (hn:E.toList.Pairwise (fun a b=>a.key≠b.key)) (hk:mC P kt k=true) (Db:pX kv k) (w:World):
  ((Instr.findKey kt kv E.toList).run P w= .ok none w∧(∀e∈E.toList,e.key≠kv)∧kV k es=false∧(∀z,lJ k es z=z)∧∀v,il k v es=es++[.bc [k,v]])∨
  ∃j e k' y,(Instr.findKey kt kv E.toList).run P w= .ok (some (j,e.val)) w∧E[j]? =some e∧e.key=kv∧es[j]? =some (.bc [k',y])∧mC P kt k'=true∧pX kv k'∧eD P vt y=true∧iU e.val y∧
   kV k es=true∧(∀z,lJ k es z=y)∧∀v,il k v es=es.set j (.bc [k',v]):=by
 have K:=HA hk
 obtain ⟨l,hl⟩:=C9 hk Db
 have M5: ∀(j:Nat) x,es[j]? =some x→∃e,E[j]? =some e∧Cu P kt vt e x:=by
  intro j x hj
  have aO:j<E.size:=by rw[hs];exact (br.1 hj).1
  exact ⟨E[j],kj aO,hx j _ x (kj aO) hj⟩
 have keys: ∀e∈E.toList,∃l,Go.keyOf P kt e.key=some l:=by
  intro e he
  obtain ⟨j,hj⟩:=rj he
  have fZ:E[j]? =some e:=by simpa using hj
  have aO:j<es.length:=by rw[←hs];exact (gR.1 fZ).1
  obtain ⟨k',y,_,h1,U,_⟩:=hx j e es[j] fZ (bx aO)
  exact C9 h1 U
 rcases K.find w hl E.toList keys with ⟨h1,U⟩|⟨j,e,h1,U,h3⟩
 ·left
  refine ⟨h1,U,M1 fun x W5=> ?_⟩
  obtain ⟨j,hj⟩:=rj W5
  obtain ⟨e,he,k',y,rfl,f1,f2,_⟩:=M5 j x hj
  cases hq:lI k (V.comp (.bc [k',y]) 0) with
  | false=>rfl
  | true=>
   have:=(HB hk f1 Db f2).1 hq
   exact absurd this.symm (U e (jm (by simpa using he)))
 ·right
  have hE:E[j]? =some e:=by simpa using U
  have aO:j<es.length:=by rw[←hs];exact (gR.1 hE).1
  obtain ⟨k',y,hy,f1,f2,f3,f4⟩:=hx j e es[j] hE (bx aO)
  have hj:=bx aO
  rw[hy] at hj
  rw[h3] at f2
  refine ⟨j,e,k',y,h1,hE,h3,hj,f1,f2,f3,f4,M3 hj ((HB hk f1 Db f2).2 rfl) fun i x hi fX=> ?_⟩
  obtain ⟨e',gF,k2,y2,rfl,g1,g2,_⟩:=M5 i x fX
  cases hq:lI k (V.comp (.bc [k2,y2]) 0) with
  | false=>rfl
  | true=>
   have:=(HB hk g1 Db g2).1 hq
   have i1:i<E.toList.length:=by have:=(br.1 fX).1;simp;omega
   have i2:j<E.toList.length:=by simp;omega
   have:=BW.1 hn i j i1 i2 hi
   have a1:E.toList[i]=e':=by
    have:E.toList[i]? =some e':=by simpa using gF
    rw[bx i1] at this;exact cY this
   have a2:E.toList[j]=e:=by
    have:=U
    rw[bx i2] at this;exact cY this
   rw[a1,a2,h3] at this
   exact absurd (by rw[← ‹kv=e'.key›]) this
theorem ao.M6 {v:Value} {x:V} (h:ao P w I β hp v x) {t:TypeId} (hx:oK P t x=true):iU v x:=by
 rcases qn hx with ⟨q,n,_,rfl,_⟩|⟨b,_,rfl⟩|⟨s,_,rfl,_⟩
 ·exact h.dJ
 ·exact h.jW
 ·exact h.lN
theorem ao.M7 {v:Value} {x:V} (h:ao P w I β hp v x) {t:TypeId} (hx:mC P t x=true):pX v x:=by
 cases vS hx with
 | one f c=>
  have:=h.M6 f
  cases x<;>first|exact this|cases this
 | arr hx A hl _ hf=>
  subst hx
  obtain ⟨cs,rfl,h1,U⟩:=h.kB
  exact ⟨cs,rfl,h1,fun j u y hu hy=>(U j u y hu hy).M6 (Hy hf hy)⟩
theorem M8 {vt:TypeId} {y:V} (h:mapVal P vt=true) (ht:eD P vt y=true):(∃q n,P.underlying vt=some (.int q)∧y= .int q n)∨∃b,P.underlying vt=some .bool∧y= .bool b:=by
 unfold mapVal at h
 unfold eD at ht
 split at h
 ·rename_i q hu
  rw[hu] at ht
  cases y<;>first|(simp at ht;done)|skip
  simp only[dF] at ht
  subst ht
  exact .inl ⟨_,_,hu,rfl⟩
 ·rename_i hu
  rw[hu] at ht
  cases y<;>first|(simp at ht;done)|skip
  exact .inr ⟨_,hu,rfl⟩
 ·cases h
theorem iU.HD {vt:TypeId} {v:Value} {y:V} (h:mapVal P vt=true) (ht:eD P vt y=true) (hv:iU v y):ao P w I β hp v y:=by
 rcases M8 h ht with ⟨q,n,_,rfl⟩|⟨b,_,rfl⟩
 ·obtain rfl:v= .int q n:=hv;exact .int
 ·obtain rfl:v= .bool b:=hv;exact .bool
theorem ao.W6 {vt:TypeId} {v:Value} {y:V} (h:mapVal P vt=true) (ht:eD P vt y=true) (hv:ao P w I β hp v y):iU v y:=by
 rcases M8 h ht with ⟨q,n,_,rfl⟩|⟨b,_,rfl⟩
 ·exact hv.dJ
 ·exact hv.jW
theorem W7 {vt:TypeId} {z:V} (h:Cf P vt=some z) (w:World): ∃v,(zeroValue vt).run P w= .ok v w∧iU v z:=by
 unfold Cf at h
 cases hi:P.info? vt with
 | none=>rw[hi] at h;cases h
 | some i=>
  rw[hi] at h
  simp only[Option.bind_some] at h
  cases hz:i.zero with
  | none=>rw[hz] at h;cases h
  | some v=>
   rw[hz] at h
   refine ⟨v,by simp[zeroValue,typeInfo,hi,hz],?_⟩
   cases v<;>simp only at h<;>first|(cases h;done)|skip
   ·cases h;rfl
   ·cases h;rfl
theorem HE {t kt vt:TypeId} (h:kW P t=some (kt,vt)):P.underlying t=some (.map kt vt):=by
 unfold kW at h
 split at h
 ·rename_i k e hu;cases h;exact hu
 ·cases h
theorem HF (S:aE P w I β hp B M w0) {ok:Bool} {v:Value} {x:V} {b:Bool} {r:R} {rd:List Nat} {res:Result Value} (hv:ao P w I β hp v x)
  (hr:res= .ok (if ok then .tuple #[v,.bool b] else v) w) (h:(Cg ok x b).run C hp=some (r,rd)):cU P res w I β hp B M w0 r:=by
 unfold Cg at h
 obtain rfl:=aL h
 cases ok with
 | false=>exact .same S hr hv
 | true=>
  refine .same S hr (.bc rfl fun j u y hu hy=> ?_)
  match j,hu,hy with
  | 0,hu,hy=>simp at hu hy;subst hu;subst hy;exact hv
  | 1,hu,hy=>simp at hu hy;subst hu;subst hy;exact .bool
  | j+2,hu,hy=>simp at hy
theorem W8 (S:aE P w I β hp B M w0) {t kt vt:TypeId} (ht:kW P t=some (kt,vt)) {m k:Value} {mx kx:V} {ok:Bool} {r:R} {rd:List Nat} (hm:ao P w I β hp m mx) (hk:ao P w I β hp k kx)
  (h:(Gr P t mx kx ok).run C hp=some (r,rd)):cU P ((Instr.lookup t m k ok).run P w) w I β hp B M w0 r:=by
 unfold Gr at h
 rw[ht] at h
 simp only at h
 cases hz:Cf P vt with
 | none=>rw[hz] at h;cases h
 | some z=>
  rw[hz] at h
  obtain ⟨hc,h'⟩:=aF h
  clear h
  have h:=h'
  clear h'
  simp only[aI] at hc
  obtain ⟨oZ,zg,Dc⟩:=hc
  have hu:=HE ht
  have vT:=hk.M7 oZ
  have K:=HA oZ
  obtain ⟨l,hl⟩:=C9 oZ vT
  obtain ⟨zv,M9,Na⟩:=W7 hz w
  cases mx<;>simp only at h<;>first|(cases h;done)|skip
  ·rename_i t' id
   obtain ⟨lf,h'⟩:=aF h
   clear h
   have h:=h'
   clear h'
   rw[aQ] at lf
   subst lf
   obtain ⟨l2,h'⟩:=run_get h
   clear h
   have h:=h'
   clear h'
   cases ab:hp id with
   | none=>rw[ab] at h;cases h
   | some blk=>
    rw[ab] at h
    cases blk<;>simp only at h<;>first|(cases h;done)|skip
    rename_i t2 es
    obtain ⟨lf,h'⟩:=aF h
    clear h
    have h:=h'
    clear h'
    rw[aQ] at lf
    subst lf
    cases hm with
    | gZ hd=>rw[ab] at hd;cases hd
    | @cp _ _ b aH hd hb=>
     rw[ab] at hd
     cases hd
     have hr:=S.h.rel id _ ab
     cases hr with
     | @map _ Nb Nc _ b' clock E fv az hh hs hI hx hn=>
      rw[hb] at az;cases az
      rw[hu] at fv;cases fv
      rcases M4 hs hx hn oZ vT w with ⟨h1,_,h3,h4,_⟩|⟨j,e,k',y,h1,_,_,_,_,_,h6,h7,h3,h4,_⟩
      ·rw[h3,h4,yX Dc] at h
       refine HF S (iU.HD zg Dc Na) ?_ h
       unfold Instr.lookup
       simp only[Sem.run_bind,run_underlying hu,Result.andThen_ok,Go.MapKept.run_getObj_map hh,Sem.run_pure,K.check w E.isEmpty hl,h1,M9]
      ·rw[h3,h4,yX h6] at h
       refine HF S (iU.HD zg h6 h7) ?_ h
       unfold Instr.lookup
       simp only[Sem.run_bind,run_underlying hu,Result.andThen_ok,Go.MapKept.run_getObj_map hh,Sem.run_pure,K.check w E.isEmpty hl,h1]
  ·rename_i t'
   obtain ⟨lf,h⟩:=aF h
   cases hm
   rw[yX Dc] at h
   refine HF S (iU.HD zg Dc Na) ?_ h
   have hf:(Instr.findKey kt k []).run P w= .ok none w:=by
    rcases K.find w hl [] (by simp) with ⟨h1,_⟩|⟨j,e,_,U,_⟩
    ·exact h1
    ·simp at U
   unfold Instr.lookup
   simp[run_underlying hu,K.check w true hl,hf,M9]
theorem W9 (S:aE P w I β hp B M w0) {t:TypeId} {nb:Nat} {r:R} {rd:List Nat} (h:(Rd.aA (kW P t).isSome (iR nb (.map t []) (.cp t nb) [])).run C hp=some (r,rd)):
  cU P ((Instr.makeMap t none).run P w) w I β hp B M w0 r:=by
 obtain ⟨ht,h⟩:=aF h
 obtain ⟨hn,rfl⟩:=mM h
 obtain ⟨⟨kt,vt⟩,ht⟩:=yf.1 ht
 have hu:=HE ht
 have cJ: ¬I w.heap.size:=fun h=>Nat.lt_irrefl _ (S.h.js _ h)
 have eF:(w.alloc (.map #[] 0)).heap[w.heap.size]? =some (.map #[] 0):=heap_alloc_new w _
 obtain ⟨a1,a2⟩:=yU S (w':=w.alloc (.map #[] 0)) (blk:= .map t []) (b:=w.heap.size) hn (fun aC blk' h ho=>Nat.lt_irrefl _ (S.h.lt h ho)) cJ
  (fun b' _ aO=>heap_alloc_old w _ b' aO) (by simp) ⟨rfl,rfl⟩ (.inr S.size) (fun b' h=>(cY (h.flat (by simp))).symm)
  (fun _=> .map hu rfl eF rfl cJ (fun j e x he _=>by simp at he) (by simp))
 exact ⟨_,_,_,_,Go.RowKit.run_makeMap t w,a1,a2,.cp (cQ _ _ _) (cQ _ _ _)⟩
theorem Nd (S:aE P w I β hp B M w0) {t kt vt:TypeId} (ht:kW P t=some (kt,vt)) {m k v:Value} {mx kx vx:V} {r:R} {rd:List Nat} (hm:ao P w I β hp m mx) (hk:ao P w I β hp k kx) (hv:ao P w I β hp v vx)
  (h:(Ch P t mx kx vx).run C hp=some (r,rd)):oS P ((Instr.mapUpdate t m k v).run P w) w I β hp B M w0 r:=by
 unfold Ch at h
 rw[ht] at h
 obtain ⟨hc,h'⟩:=aF h
 clear h
 have h:=h'
 clear h'
 simp only[aI] at hc
 obtain ⟨oZ,zg,tw⟩:=hc
 have hu:=HE ht
 have vT:=hk.M7 oZ
 have vF:=ao.W6 zg tw hv
 have K:=HA oZ
 obtain ⟨l,hl⟩:=C9 oZ vT
 cases mx<;>simp only at h<;>first|(cases h;done)|skip
 rename_i t' id
 obtain ⟨lf,h'⟩:=aF h
 clear h
 have h:=h'
 clear h'
 rw[aQ] at lf
 subst lf
 obtain ⟨l2,h'⟩:=run_get h
 clear h
 have h:=h'
 clear h'
 cases ab:hp id with
 | none=>rw[ab] at h;cases h
 | some blk=>
  rw[ab] at h
  cases blk<;>simp only at h<;>first|(cases h;done)|skip
  rename_i t2 es
  obtain ⟨lf,h'⟩:=aF h
  clear h
  have h:=h'
  clear h'
  rw[aQ] at lf
  subst lf
  obtain rfl:=aL h
  cases hm with
  | gZ hd=>rw[ab] at hd;cases hd
  | @cp _ _ b aH hd hb=>
   rw[ab] at hd
   cases hd
   have hr:=S.h.rel id _ ab
   cases hr with
   | @map _ Nb Nc _ b' clock E fv az hh hs hI hx hn=>
    rw[hb] at az;cases az
    rw[hu] at fv;cases fv
    have aO:b<w.heap.size:=(gR.1 hh).1
    have fin: ∀(E':Array MapEntry) (zh:Nat),(Instr.mapUpdate t (.map (some b)) k v).run P w= .ok () {w with heap:=w.heap.setIfInBounds b (.map E' zh)}→E'.size=(il kx vx es).length→
      (∀(j:Nat) (e:MapEntry) (x:V),E'[j]? =some e→(il kx vx es)[j]? =some x→Cu P kt vt e x)→E'.toList.Pairwise (fun a b=>a.key≠b.key)→
      oS P ((Instr.mapUpdate t (.map (some b)) k v).run P w) w I β hp B M w0 ⟨.undef,[(id,.map t (il kx vx es))]⟩:=by
     intro E' zh cR Hw cu HG
     have eF:({w with heap:=w.heap.setIfInBounds b (.map E' zh)}:World).heap[b]? =some (.map E' zh):=by simp[aO]
     obtain ⟨a1,a2⟩:=CF S (w':={w with heap:=w.heap.setIfInBounds b (.map E' zh)}) (blk':= .map t (il kx vx es)) ab (by simp) rfl hb hI (by simp)
      (fun b' az=>by simp[Array.getElem?_setIfInBounds,Ne.symm az]) (by simp only[bsize,eF,hh]) (by simp) ⟨rfl,rfl⟩ (fun _=> .map hu rfl eF Hw hI cu HG)
     exact ⟨_,I,β,cR,a1,a2,rfl⟩
    rcases M4 hs hx hn oZ vT w with ⟨h1,U,_,_,h5⟩|⟨j,e,k',y,h1,hE,Nf,nW,Xa,Xb,_,_,_,_,h5⟩
    ·have e5:=h5 vx
     refine fin (E.push {key:=k,val:=v,born:=clock}) (clock+1) ?_ (by rw[e5];simp[hs]) (fun j e x he qb=> ?_) ?_
     ·unfold Instr.mapUpdate
      simp only[Sem.run_bind,run_underlying hu,Result.andThen_ok,Go.MapKept.run_getObj_map hh,K.check w false hl,h1,Go.MapKept.run_setObj_map _ hh]
     ·rw[e5] at qb
      rw[Array.getElem?_push] at he
      split at he
      ·rename_i hj
       rw[ik (by omega),hj,hs,Nat.sub_self] at qb
       simp at he qb
       subst he;subst qb
       exact ⟨kx,vx,rfl,oZ,vT,tw,vF⟩
      ·have hj:j<E.size:=(gR.1 he).1
       rw[ij (by omega)] at qb
       exact hx j e x he qb
     ·rw[Array.toList_push,List.pairwise_append]
      refine ⟨hn,by simp,fun a ha b' az=> ?_⟩
      simp only[dW] at az
      subst az
      exact U a ha
    ·have e5:=h5 vx
     have hj:j<E.size:=(gR.1 hE).1
     refine fin (E.modify j fun e=>{e with key:=k,val:=v}) clock ?_ (by rw[e5];simp[hs]) (fun i e' x he fX=> ?_) ?_
     ·have b9:=K.stays w hl
      unfold Instr.mapUpdate
      simp only[Sem.run_bind,run_underlying hu,Result.andThen_ok,Go.MapKept.run_getObj_map hh,K.check w false hl,h1]
      simp only[hE,Option.map_some,Option.getD_some,Nf,b9,Result.andThen_ok,Go.MapKept.run_setObj_map _ hh]
     ·rw[e5] at fX
      rw[yg] at he
      rw[List.getElem?_set] at fX
      split at he
      ·rename_i tx
       subst tx
       rw[aj rfl,aj (by omega)] at fX
       rw[hE] at he
       simp at he fX
       subst he;subst fX
       exact ⟨k',vx,rfl,Xa,Xb,tw,vF⟩
      ·rename_i tx
       rw[ai tx] at fX
       exact hx i e' x he fX
     ·have tz: ∀i (h1:i<(E.modify j fun e=>{e with key:=k,val:=v}).toList.length) (U:i<E.toList.length),((E.modify j fun e=>{e with key:=k,val:=v}).toList[i]).key=(E.toList[i]).key:=by
       intro i h1 U
       simp only[Array.getElem_toList,Array.getElem_modify]
       split
       ·rename_i tx
        subst tx
        have:=(gR.1 hE).2
        rw[this,Nf]
       ·rfl
      rw[BW] at hn⊢
      intro i i' h1 U iD
      have g1:i<E.toList.length:=by simpa using h1
      have g2:i'<E.toList.length:=by simpa using U
      rw[tz i h1 g1,tz i' U g2]
      exact hn i i' g1 g2 iD
theorem Xc (S:aE P w I β hp B M w0) {t ty kt vt:TypeId} {v:Value} {x:V} {r:R} {rd:List Nat} (hu:P.underlying t=some (.map kt vt)) (hv:ao P w I β hp v x)
  (h:(Ci x).run C hp=some (r,rd)):cU P ((Builtin.len_ #[t] ty #[v]).run P w) w I β hp B M w0 r:=by
 unfold Ci at h
 cases x<;>simp only at h<;>first|(cases h;done)|skip
 ·rename_i t' id
  obtain ⟨l2,h'⟩:=run_get h
  clear h
  have h:=h'
  clear h'
  cases ab:hp id with
  | none=>rw[ab] at h;cases h
  | some blk=>
   rw[ab] at h
   cases blk<;>simp only at h<;>first|(cases h;done)|skip
   rename_i t2 es
   obtain rfl:=aL h
   cases hv with
   | gZ hd=>rw[ab] at hd;cases hd
   | @cp _ _ b aH hd hb=>
    rw[ab] at hd
    cases hd
    have hr:=S.h.rel id _ ab
    cases hr with
    | @map _ Nb Nc _ b' clock E fv az hh hs hI hx hn=>
     rw[hb] at az;cases az
     refine .same S (v:= .int .i64 E.size) (by simp[Builtin.len_,run_underlying hu,Go.MapKept.run_getObj_map hh,goInt]) ?_
     rw[hs]
     exact .int
 ·obtain rfl:=aL h
  cases hv
  exact .same S (v:= .int .i64 0) (by simp[Builtin.len_,run_underlying hu,goInt]) .int
theorem ao.HH {v:Value} {t:TypeId} (h:ao P w I β hp v (.dh t)):v= .map none:=by cases h;rfl
theorem ao.Xd {v:Value} {t t':TypeId} {id:Nat} {es:List V} (h:ao P w I β hp v (.cp t id)) (ab:hp id=some (.map t' es)): ∃b,v= .map (some b):=by
 cases h with
 | gZ h=>rw[ab] at h;cases h
 | cp h hb=>exact ⟨_,rfl⟩
theorem Ng (S:aE P w I β hp B M w0) {op:BinOp} {t:TypeId} {a:Option Nat} {r:R} {rd:List Nat} (x y:Operand)
  (h:(Cc P op t a.isNone).run C hp=some (r,rd)):cU P ((do eqGuard op t x y (.map a) (.map none);binOp op t (.map a) (.map none)).run P w) w I β hp B M w0 r:=by
 unfold Cc at h
 split at h
 case h_2=>cases h
 rename_i kt vt hu
 have he:(Op.equal t (.map a) (.map none)).run P w= .ok a.isNone w:=by
  show (Op.equalIn (9999+1) t (.map a) (.map none)).run P w=_
  rw[Op.equalIn]
  cases a<;>simp[Sem.run_bind,run_underlying hu,Result.andThen_ok,Sem.run_pure]
 cases op<;>simp only at h<;>first|(cases h;done)|skip
 ·obtain rfl:=aL h
  exact .same S (by simp[eqGuard,binOp,he]) .bool
 ·obtain rfl:=aL h
  exact .same S (by simp[eqGuard,binOp,he]) .bool
end
end Go.AM
namespace Go.AM
section
variable {P:Program} {w w':World} {I I':Nat→Prop} {β β':Nat→Option Nat} {hp hp':Nat→Option an} {C:ag} {B:Nat} {M:Nat→Prop} {w0:Start}
theorem Xe {e:TypeId} (he:P.underlying e=some (.int .u8)) (hc:P.cellsOf e=1) (s:ByteArray): ∀(i j:Nat) (x:V) (t':TypeId),(s.data.toList.map di)[i]? =some x→(aS P e)[j]? =some t'→j<P.cellsOf e→
  ∃u,(Lib.strCells s)[i*P.cellsOf e+j]? =some u∧Pure P w I t' u (bH P e x j):=by
 intro i j x t' hx ht hj
 have mP:bD P e=false:=by simp[bD,he]
 obtain rfl:j=0:=by omega
 simp only[aS,mP,cond_false,List.getElem?_cons_zero,dG] at ht
 subst ht
 rw[fH] at hx
 cases hb:s.data.toList[i]? with
 | none=>rw[hb] at hx;cases hx
 | some b=>
  rw[hb] at hx
  cases hx
  refine ⟨.int .u8 b.toNat,?_,?_⟩
  ·rw[hc,mw,Nat.add_zero]
   simp only[Lib.strCells,fH,hb,Option.map_some]
  ·simp only[bH,mP,cond_false]
   exact .int he
theorem Xf (w:World) (t u ty e:TypeId) (i:TypeInfo) (z:Value) (ht:P.underlying t=some (.slice e)) (hu:P.underlying u=some .string) (hi:P.info? e=some i) (hz:i.zero=some z)
  (s:ByteArray) (h0:0<s.size) (C4:(s.size:Int)≤9223372036854775807) (C6:s.size*i.bytes≤281474976710656) (a0:Option Addr):
  (Builtin.append_ #[t,u] ty #[.slice a0 0 0,.string s]).run P w=
   .ok (.slice (some ⟨w.heap.size,0,none⟩) s.size (grownCap w s.size 0 e))
    (w.drew.alloc (.cells (s.data.map (fun b=>Value.int .u8 b.toNat)++Builtin.zeroCells z.cells (grownCap w s.size 0 e-s.size)) e)):=by
 cases a0 with
 | none=>exact run_append_nil_string w t u ty e i z ht hu hi hz s h0 C4 C6
 | some b=>
  rw[←run_append_nil_string w t u ty e i z ht hu hi hz s h0 C4 C6]
  have hn:s.size≠0:=by omega
  have Xg: ¬(9223372036854775807<(s.size:Int)):=by omega
  have Xh: ¬(281474976710656<Builtin.nextslicecap s.size 0*i.bytes):=by rw[nextslicecap_zero h0];omega
  simp[Builtin.append_,run_underlying ht,run_underlying hu,sizeOf,typeInfo,zeroValue,hi,hz,Builtin.lenOf,Builtin.firstCells,hn,Xg,Xh,Question.forced,newRow,grownCap,loadCells,loadCellsFrom]
theorem Nh (S:aE P w I β hp B M w0) {t u ty e:TypeId} {nb:Nat} {x:ByteArray} {xs:List V} {i:TypeInfo} {z:Value} (hu:P.underlying t=some (.slice e)) (nX:P.underlying u=some .string) (au:cK P e=true) (hn:hp nb=none)
 (hi:P.info? e=some i) (hz:i.zero=some z) (h3:i.size=P.cellsOf e) (h4:z.cells.size=P.cellsOf e) (vU:i.size=1) (lQ:P.bytesOf e=i.bytes) (dE:xs.length*P.bytesOf e≤cI) (lU:xs.length=x.size) (ld:(Lib.strCells x).length=x.size)
 (cM: ∀(i j:Nat) (y:V) (t':TypeId),xs[i]? =some y→(aS P e)[j]? =some t'→j<P.cellsOf e→∃u,(Lib.strCells x)[i*P.cellsOf e+j]? =some u∧Pure P w I t' u (bH P e y j)):
 ∀a0,∃v w' β',(Builtin.append_ #[t,u] ty #[.slice a0 0 0,.string x]).run P w= .ok v w'∧Le P w I β hp w' I β' (aG hp nb (some (.arr e xs false)))∧aE P w' I β' (aG hp nb (some (.arr e xs false))) B M w0∧
  ao P w' I β' (aG hp nb (some (.arr e xs false))) v (.whole e nb):=by
 intro a0
 have tt:=vu au
 have hlen:xs.length≤2^45:=by
  have:xs.length*1≤xs.length*P.bytesOf e:=sK _ tt
  simp only[cI] at dE
  omega
 by_cases h0:x.size=0
 ·have ga:xs=[]:=kQ (by omega)
  subst ga
  obtain ⟨a1,a2⟩:=CD S e hn
  have hf:=Lib.run_firstCells_string (P:=P) w 1 x
  rw[h0] at hf
  have qg:Lib.strCells x=[]:=kQ (by omega)
  exact ⟨.slice a0 0 0,_,_,by cases a0<;>simp[storeCells,qg,Builtin.append_,run_underlying hu,run_underlying nX,sizeOf,typeInfo,hi,vU,Builtin.lenOf,h0,hf],a1,a2,.dt (cQ _ _ _) (cQ _ _ _)⟩
 ·have cR:=Xf (P:=P) w t u ty e i z hu nX hi hz x (by omega) (by omega) (by rw[←lQ,←lU];simp only[cI] at dE;omega) a0
  have e1:(x.data.map fun b=>Value.int .u8 b.toNat)=(Lib.strCells x).toArray:=by
   apply Array.ext'
   simp[Lib.strCells]
  rw[e1,←lU] at cR
  have oW:=grownCap_ge w xs.length 0 e
  have tu:grownCap w xs.length 0 e≤maxLen:=grownCap_le_maxLen w xs.length 0 e (by simp only[maxLen];omega)
  obtain ⟨n1,n2,n3⟩:=vP S.drew (nb:=nb) (cap:=grownCap w xs.length 0 e) (es:=xs) (C0:=(Lib.strCells x).toArray++Builtin.zeroCells z.cells (grownCap w xs.length 0 e-xs.length)) au hn
   (by
    have:(Lib.strCells x).length=xs.length*P.cellsOf e:=by rw[ld,lU,←h3,vU,mw]
    simp only[BU,pH,size_zeroCells,h4,this,←dc];congr 1;omega) oW tu
   (fun i' j y t' hy ht hj=>by
    obtain ⟨u,fv,hp⟩:=cM i' j y t' hy ht hj
    have aO:=(br.1 fv).1
    refine ⟨u,?_,Pure.drew hp⟩
    rw[Array.getElem?_append_left (by simpa using aO)]
    simpa using fv)
  exact ⟨_,_,_,cR,(Le.drew w I β hp).trans n1,n2,n3⟩
theorem Xi (S:aE P w I β hp B M w0) {t u ty e:TypeId} {nb:Nat} {s:Value} {sv:V} {x:ByteArray} {r:R} {rd:List Nat} (hu:P.underlying t=some (.slice e)) (nX:P.underlying u=some .string) (he:P.underlying e=some (.int .u8)) (hs:ao P w I β hp s sv)
  (h:(vg P nb e sv (.list e (x.data.toList.map di))).run C hp=some (r,rd)):cU P ((Builtin.append_ #[t,u] ty #[s,.string x]).run P w) w I β hp B M w0 r:=by
 unfold vg at h
 obtain ⟨au,h⟩:=aF h
 simp only[rz] at h
 obtain ⟨_,h⟩:=aF h
 have mP:bD P e=false:=by simp[bD,he]
 have dw:P.cellsOf e=1:=by rw[←(jV au).1,yQ mP];rfl
 obtain ⟨i,z,hi,hz,h3,h4,_⟩:=jY au
 have vU:i.size=1:=by rw[h3,dw]
 have tt:=vu au
 have lQ:P.bytesOf e=i.bytes:=by simp[Program.bytesOf,hi]
 have Dd:=Xe (P:=P) (w:=w) (I:=I) he dw x
 have lU:(x.data.toList.map di).length=x.size:=by simp
 have ld:(Lib.strCells x).length=x.size:=Lib.strCells_length x
 have h1:=Lib.strCells_oneCell x
 generalize ga:x.data.toList.map di=xs at*
 cases sv with
 | nilS e'=>
  obtain ⟨hc,h⟩:=aF h
  simp only[aI,aQ,dN] at hc
  obtain ⟨hn,rfl⟩:=mM h
  obtain ⟨a0,rfl⟩: ∃a0,s= .slice a0 0 0:=by cases hs;exact ⟨_,rfl⟩
  obtain ⟨v,w',β',a1,a2,a3,a4⟩:=Nh S hu nX au hn hi hz h3 h4 vU lQ hc.2 lU ld Dd _
  exact ⟨v,w',I,β',a1,a2,a3,a4⟩
 | whole e' id=>
  obtain ⟨l,h⟩:=run_get h
  cases ab:hp id with
  | none=>rw[ab] at h;cases h
  | some blk=>
   rw[ab] at h
   cases blk with
   | dead=>cases h
   | var _=>cases h
   | nest _ _ _=>cases h
   | map _ _=>cases h
   | arr dq es fz=>
    cases fz with
    | true=>cases h
    | false=>
     obtain ⟨hc,h⟩:=aF h
     obtain ⟨hn,rfl⟩:=mM h
     simp only[aI,aQ,dN] at hc
     obtain ⟨Hn,Ho,dE⟩:=hc
     subst Hn
     subst Ho
     have bu:nb≠id:=fun e=>by rw[e,ab] at hn;cases hn
     obtain ⟨k1,k2⟩:=CE S ab
     have jZ:aG hp id (some an.dead) nb=none:=by rw[dS _ _ bu];exact hn
     cases hs with
     | dQ hd=>rw[ab] at hd;cases hd
     | dZ hd=>rw[ab] at hd;cases hd
     | dt hd hb=>
      rw[ab] at hd
      cases hd
      simp only[List.length_nil,fS] at dE
      obtain ⟨v,w',β',a1,a2,a3,a4⟩:=Nh k2 hu nX au jZ hi hz h3 h4 vU lQ dE lU ld Dd _
      exact ⟨v,w',I,β',a1,k1.trans a2,a3,a4⟩
     | @whole _ _ aH mD b cap hd hb aU bU hm=>
      rw[ab] at hd
      cases hd
      have hr:=S.h.rel id _ ab
      cases hr with
      | dv az=>rw[az] at hb;cases hb
      | @arr _ _ _ b' Ca _ az hh oY hf dR lR=>
       rw[hb] at az
       cases az
       have hlen:es.length+xs.length≤2^45:=by
        have:(es.length+xs.length)*1≤(es.length+xs.length)*P.bytesOf e:=sK _ tt
        simp only[cI] at dE
        omega
       rw[mH hh] at aU
       have p9: ∀aC blk',aG hp id (some an.dead) aC=some blk'→¬bt P w (β aC) blk' b:=by
        intro aC blk' h1 U
        by_cases iD:aC=id
        ·subst iD;rw[cQ] at h1;cases h1;exact U.alive rfl
        ·rw[dS _ _ iD] at h1
         exact iD (S.h.inj aC id blk' _ b h1 ab U (.root (by simp) hb))
       have Hp:=S.h.rG id _ b ab (by simp) hb
       have lg:es.length*P.cellsOf e≤Ca.toList.length:=by simpa using oY
       have Ni:(Lib.strCells x).length=xs.length*P.cellsOf e:=by rw[ld,lU,dw,mw]
       by_cases rP:es.length+xs.length≤cap
       ·have zd:es.length*P.cellsOf e+(Lib.strCells x).length≤Ca.size:=by rw[Ni,←dc,←aU];exact dp _ rP
        have cR:=Lib.run_append_room_string (P:=P) w t u ty e i hu nX hi vU b es.length cap Ca hh x (by rw[←lU];exact rP) (by rw[←ld];rw[dw,mw] at zd;exact zd)
        have cM:=C2 (P:=P) (w:=w) (I:=I) (n:=es.length) (c:=Ca.toList) rfl (fun i j y t' a b c=>by
         obtain ⟨v,hv,hp⟩:=lR i j y t' a b c
         exact ⟨v,by simpa using hv,hp⟩) Dd lg (Ca.toList.drop (es.length*P.cellsOf e+(Lib.strCells x).length))
        generalize vL:(Ca.toList.take es.length++Lib.strCells x++Ca.toList.drop (es.length+x.size)).toArray=C' at cR
        have nU:C'.size=Ca.size:=by
         rw[dw,mw] at zd
         rw[←vL];simp;omega
        have Nj:(w.setRow b C').heap[b]? =some (.cells C' e (0,0)):=setRow_heap w b Ca C' e _ hh
        obtain ⟨a1,a2⟩:=yU k2 (blk:= .arr e (es++xs) false) (w':=w.setRow b C') jZ p9 (dR rfl) (fun b' h _=>setRow_other w b b' _ h) (by simp) ⟨rfl,rfl⟩ Hp
         (fun b' h=>(cY (h.flat (by simp))).symm) (fun hle=> .arr au rfl Nj (by rw[nU,←aU];exact dp _ (by simpa using rP)) (fun h=>by cases h) (fun _=>dR rfl) fun i j y t' a b c=>by
          obtain ⟨v,hv,hp⟩:=cM i j y t' a b c
          refine ⟨v,?_,hp.mono hle.c9 hle.b6⟩
          rw[←vL,mu]
          rw[dw] at hv⊢
          simpa[ld] using hv)
        refine ⟨_,_,_,_,cR,k1.trans a1,a2,?_⟩
        have a3:=ao.whole (P:=P) (w:=w.setRow b C') (I:=I) (β:=aG β nb (some b)) (hp:=aG (aG hp id (some .dead)) nb (some (.arr e (es++xs) false))) (cap:=cap) (b:=b) (es:=es++xs) (fz:=false) (id:=nb) (e:=e) (cQ _ _ _) (cQ _ _ _) (by rw[mH Nj,nU,aU]) (by simpa using rP) hm
        rw[cv,lU] at a3
        exact a3
       ·have hold: ∀(j:Nat) v,(Ca.toList.take (es.length*P.cellsOf e))[j]? =some v→w.cell? ((⟨b,0,none⟩:Addr).add j)=some v:=by
         intro j v hj
         have b8:=(br.1 hj).1
         have fM:j<es.length*P.cellsOf e:=by rw[fj] at b8;omega
         rw[eJ fM] at hj
         rw[mK,cell?_cells hh,fS]
         simpa using hj
        have cR:=Lib.run_append_grow_string (P:=P) w t u ty e i z hu nX hi hz ⟨b,0,none⟩ es.length cap (Ca.toList.take (es.length*P.cellsOf e)) (by rw[h3];simp;omega) hold x (by omega) (by omega)
         (growslice_fits (by omega) (by rw[←lQ,←lU];simp only[cI] at dE;omega))
        rw[←lU] at cR
        have oW:=grownCap_ge w (es.length+xs.length) cap e
        have tu:grownCap w (es.length+xs.length) cap e≤maxLen:=grownCap_le_maxLen w _ cap e (by simp only[maxLen];omega)
        have cM:=C2 (P:=P) (w:=w) (I:=I) (n:=es.length) (c:=Ca.toList) rfl (fun i j y t' a b c=>by
         obtain ⟨v,hv,hp⟩:=lR i j y t' a b c
         exact ⟨v,by simpa using hv,hp⟩) Dd lg (Builtin.zeroCells z.cells (grownCap w (es.length+xs.length) cap e-(es.length+xs.length))).toList
        obtain ⟨n1,n2,n3⟩:=vP k2.drew (nb:=nb) (cap:=grownCap w (es.length+xs.length) cap e) (es:=es++xs)
         (C0:=(Ca.toList.take (es.length*P.cellsOf e)).toArray++(Lib.strCells x).toArray++Builtin.zeroCells z.cells (grownCap w (es.length+xs.length) cap e-(es.length+xs.length))) au jZ
         (by
          have e1:(Ca.toList.take (es.length*P.cellsOf e)).length=es.length*P.cellsOf e:=by simp;omega
          simp only[BU,pH,size_zeroCells,h4,Ni,e1,←dc];congr 1;omega) (by simpa using oW) tu
         (fun i j y t' a b c=>by
          obtain ⟨v,hv,hp⟩:=cM i j y t' a b c
          refine ⟨v,?_,Pure.drew hp⟩
          rw[←rk]
          simpa using hv)
        rw[cv] at n3
        exact ⟨_,_,_,_,cR,(k1.trans (Le.drew w I β _)).trans n1,n2,n3⟩
 | _=>cases h
end
section
variable {P:Program} {w w':World} {I I':Nat→Prop} {β β':Nat→Option Nat} {hp hp':Nat→Option an} {C:ag} {B:Nat} {M:Nat→Prop} {w0:Start}
theorem Nk: ∀(ns:List Int) (s:ByteArray),(ns.foldl (fun r n=>r.push (UInt8.ofNat n.toNat)) s).data.toList=s.data.toList++ns.map fun n=>UInt8.ofNat n.toNat
 | [],s=>by simp
 | n::ns,s=>by
  simp only[List.foldl_cons,Nk ns,cO]
  simp[ByteArray.push]
theorem BP {e:TypeId} {u:Value} {x:V} (he:P.underlying e=some (.int .u8)) (hp:Pure P w I e u x):u= .int .u8 x.toInt:=by
 cases hp with
 | int hp'=>rw[he] at hp';cases hp';rfl
 | bool hp'=>rw[he] at hp';cases hp'
 | str hp'=>rw[he] at hp';cases hp'
 | nil hp'=>rw[he] at hp';cases hp'
 | emp hp'=>rw[he] at hp';cases hp'
 | list _ hp'=>rw[he] at hp';cases hp'
theorem Xj (S:aE P w I β hp B M w0) {src dst e:TypeId} {v:Value} {x:V} {r:R} {rd:List Nat} (hs:P.underlying src=some (.slice e)) (he:P.underlying e=some (.int .u8)) (hd:P.underlying dst=some .string)
  (hv:ao P w I β hp v x) (h:(Rd.aA (cK P e) (rz e x fun es=> .ret ⟨.str (ko es),[]⟩)).run C hp=some (r,rd)):cU P ((convert src dst v).run P w) w I β hp B M w0 r:=by
 obtain ⟨au,h⟩:=aF h
 obtain ⟨xs,hx,l,h⟩:=CZ S.h.rel au hv h
 obtain rfl:=aL h
 have mP:bD P e=false:=by simp[bD,he]
 have h1:P.cellsOf e=1:=by rw[←(jV au).1,yQ mP];rfl
 rcases hx with ⟨⟨a,rfl⟩,rfl⟩|⟨a,c,news,hr⟩
 ·refine .same S (v:= .string .empty) ?_ (.str (by simp[ko]))
  rw[run_convert_bytes_string w src dst e a 0 0 hs he hd]
  cases a<;>simp[Conv.bytesToString,loadCells,loadCellsFrom]
 ·have C3:news=(xs.map V.toInt).map (Value.int .u8):=by
   apply List.ext_getElem?
   intro j
   by_cases hj:j<xs.length
   ·obtain ⟨u,hu,hp⟩:=hr.el j 0 xs[j] e (bx hj) (by simp[aS,mP]) (by omega)
    rw[h1] at hu
    simp only[bH,mP,cond_false] at hp
    have fv:news[j]? =some u:=by simpa using hu
    rw[fv]
    have:=BP he hp
    simp[hj,←this]
   ·have hl:news.length=xs.length:=by rw[hr.len,h1];simp
    rw[yc (by omega),yc (by simp;omega)]
  have HI:=run_loadCells_list (P:=P) w a news hr.cell
  have hl:news.length=xs.length:=by rw[hr.len,h1];simp
  rw[hl] at HI
  rw[C3] at HI
  refine .same S (v:= .string ((xs.map V.toInt).foldl (fun r n=>r.push (UInt8.ofNat n.toNat)) ByteArray.empty)) ?_ (.str ?_)
  ·rw[hr.val,run_convert_bytes_string w src dst e _ _ _ hs he hd]
   exact run_bytesToString w a xs.length c (xs.map V.toInt) HI
  ·rw[Nk]
   simp[ko]
theorem ao.De {v:Value} (h:ao P w I β hp v .c8):v= .pointer none:=by cases h;rfl
section
variable (w:World)
theorem Xk (t e:TypeId) (a:Addr) (h:P.underlying t=some (.pointer e)):(binOp .eql t (.pointer (some a)) (.pointer none)).run P w= .ok (.bool false) w:=by
 have h0: ∀d:Nat,(Op.equalIn (d+1) t (.pointer (some a)) (.pointer none)).run P w= .ok false w:=fun d=>by simp[Op.equalIn,run_underlying h]
 simp only[binOp]
 simp[Op.equal,Op.maxDepth,h0 9999]
theorem Xl (t e:TypeId) (a:Addr) (h:P.underlying t=some (.pointer e)):(binOp .neq t (.pointer (some a)) (.pointer none)).run P w= .ok (.bool (!false)) w:=by
 have h0: ∀d:Nat,(Op.equalIn (d+1) t (.pointer (some a)) (.pointer none)).run P w= .ok false w:=fun d=>by simp[Op.equalIn,run_underlying h]
 simp only[binOp]
 simp[Op.equal,Op.maxDepth,h0 9999]
theorem Xm (t e:TypeId) (a:Addr) (h:P.underlying t=some (.pointer e)):(binOp .eql t (.pointer none) (.pointer (some a))).run P w= .ok (.bool false) w:=by
 have h0: ∀d:Nat,(Op.equalIn (d+1) t (.pointer none) (.pointer (some a))).run P w= .ok false w:=fun d=>by simp[Op.equalIn,run_underlying h]
 simp only[binOp]
 simp[Op.equal,Op.maxDepth,h0 9999]
theorem Xn (t e:TypeId) (a:Addr) (h:P.underlying t=some (.pointer e)):(binOp .neq t (.pointer none) (.pointer (some a))).run P w= .ok (.bool (!false)) w:=by
 have h0: ∀d:Nat,(Op.equalIn (d+1) t (.pointer none) (.pointer (some a))).run P w= .ok false w:=fun d=>by simp[Op.equalIn,run_underlying h]
 simp only[binOp]
 simp[Op.equal,Op.maxDepth,h0 9999]
theorem Xo (t e:TypeId) (h:P.underlying t=some (.pointer e)):(binOp .eql t (.pointer none) (.pointer none)).run P w= .ok (.bool true) w:=by
 have h0: ∀d:Nat,(Op.equalIn (d+1) t (.pointer none) (.pointer none)).run P w= .ok true w:=fun d=>by simp[Op.equalIn,run_underlying h]
 simp only[binOp]
 simp[Op.equal,Op.maxDepth,h0 9999]
theorem Xp (t e:TypeId) (h:P.underlying t=some (.pointer e)):(binOp .neq t (.pointer none) (.pointer none)).run P w= .ok (.bool (!true)) w:=by
 have h0: ∀d:Nat,(Op.equalIn (d+1) t (.pointer none) (.pointer none)).run P w= .ok true w:=fun d=>by simp[Op.equalIn,run_underlying h]
 simp only[binOp]
 simp[Op.equal,Op.maxDepth,h0 9999]
end
theorem Df (S:aE P w I β hp B M w0) {op:BinOp} {t:TypeId} {b:Bool} {x y:Operand} {v1 v2:Value} {r:R} {rd:List Nat} (h:(ptrEq P op t b).run C hp=some (r,rd)) (hg:(eqGuard op t x y v1 v2).run P w= .ok () w)
  (he: ∀e j,P.underlying t=some (.pointer e)→P.info? e=some j→(binOp .eql t v1 v2).run P w= .ok (.bool b) w∧(binOp .neq t v1 v2).run P w= .ok (.bool (!b)) w):
  cU P ((do eqGuard op t x y v1 v2;binOp op t v1 v2:Sem Value).run P w) w I β hp B M w0 r:=by
 unfold ptrEq at h
 cases hu:P.underlying t with
 | none=>rw[hu] at h;cases h
 | some d=>
  rw[hu] at h
  cases d<;>simp only at h<;>first|(cases h;done)|skip
  rename_i e
  obtain ⟨h1,U⟩:=aF h
  obtain ⟨j,hj⟩:=yf.1 h1
  obtain ⟨k1,k2⟩:=he e j hu hj
  cases op<;>simp only at U<;>first|(cases U;done)|skip
  ·obtain rfl:=aL U
   exact .same S (by simp only[Sem.run_bind,hg,Result.andThen_ok,k1]) .bool
  ·obtain rfl:=aL U
   exact .same S (by simp only[Sem.run_bind,hg,Result.andThen_ok,k2]) .bool
theorem Xq {b n:Nat}:(∀b',b'≠b→(w.freeze ⟨b,0,none⟩ n).heap[b']? =w.heap[b']?)∧bsize (w.freeze ⟨b,0,none⟩ n) b=bsize w b∧w.heap.size≤(w.freeze ⟨b,0,none⟩ n).heap.size∧(w.freeze ⟨b,0,none⟩ n).os=w.os∧(w.freeze ⟨b,0,none⟩ n).output=w.output:=by
 unfold World.freeze
 split
 ·exact ⟨fun _ _=>rfl,rfl,cf _,rfl,rfl⟩
 ·refine ⟨fun b' hb=> ?_,?_,by simp,rfl,rfl⟩
  ·simp only[yg]
   rw[ai (fun e=>hb e.symm)]
  ·simp only[bsize,yg,dm]
   cases w.heap[b]? with
   | none=>rfl
   | some o=>cases o<;>rfl
theorem Xr {e:TypeId} (hb:isByte P e=true):P.underlying e=some (.int .u8):=by
 unfold isByte at hb
 split at hb
 ·assumption
 ·cases hb
theorem Xs (S:aE P w I β hp B M w0) {ts:Array TypeId} {ty e:TypeId} {v:Value} {id:Nat} {es:List V} {fz:Bool} (hv:ao P w I β hp v (.whole e id)) (ab:hp id=some (.arr e es fz)) (h0:0<es.length):
  cU P ((Builtin.unsafeSliceData_ ts ty #[v]).run P w) w I β hp B M w0 ⟨.ptr id 0 0,[]⟩:=by
 cases hv with
 | dQ h=>rw[ab] at h;cases h
 | dt h _=>rw[ab] at h;cases h;simp at h0
 | dZ h _ _ _ _=>rw[ab] at h;cases h
 | @whole _ _ aH mD b cap h hb bU hle hm=>
  rw[ab] at h;cases h
  refine .same S (Lib.run_unsafeSliceData_row w ts ty ⟨b,0,none⟩ es.length cap (by omega)) ?_
  have:=ao.ptr (P:=P) (w:=w) (I:=I) (β:=β) (i:=0) (c:=0) ab (by simp) hb
  simpa using this
theorem Xt (S:aE P w I β hp B M w0) {t u ty e:TypeId} {vx:Value} {id:Nat} {n:Int} {es:List V} (hu:P.underlying t=some (.pointer e)) (hb:isByte P e=true) (hv:ao P w I β hp vx (.ptr id 0 0))
  (ab:hp id=some (.arr e es false)) (h0:0<n) (hn:n≤es.length) (hm:n.toNat≤ry) (lb:(es.take n.toNat).all vl=true):cU P ((Builtin.unsafeString_ #[t,u] ty #[vx,.int .i64 n]).run P w) w I β hp B M w0 ⟨.str (ko (es.take n.toNat)),[(id,.dead)]⟩:=by
 obtain ⟨b,HJ,rfl⟩:=hv.gE ab (by simp)
 have he:P.underlying e=some (.int .u8):=by
  unfold isByte at hb
  split at hb
  ·assumption
  ·cases hb
 have mP:bD P e=false:=by simp[bD,he]
 have hr:=S.h.rel id _ ab
 rw[HJ] at hr
 cases hr with
 | dv az=>cases az
 | @arr _ _ _ b1 Ca au lg hh hs hI cJ cM=>
  cases lg
  have h1:P.cellsOf e=1:=by rw[←(jV au).1,yQ mP];rfl
  have aO:=S.Vx ab (by simp) HJ
  have hl:(ko (es.take n.toNat)).length=n.toNat:=by simp[ko];omega
  have HG:n=((ko (es.take n.toNat)).length:Nat):=by rw[hl];omega
  have cR:=Lib.run_unsafeString_row (P:=P) w t u ty e hu h1 b Ca.size (by simp[World.shape?,hh]) (ko (es.take n.toNat)) (fun h=>by rw[h] at hl;simp at hl;omega) (by rw[hl];rw[h1] at hs;omega) (by rw[hl];unfold ry at hm;omega) (fun j x hx=>by
   have hj:j<n.toNat:=by
    have:=(br.1 hx).1
    rw[hl] at this;exact this
   have hG:j<es.length:=by omega
   simp only[ko,fH,eJ hj,bx hG,Option.map_some,dG] at hx
   obtain ⟨v,vQ,bm⟩:=cM j 0 es[j] e (bx hG) (by simp[aS,mP]) (by omega)
   rw[h1] at vQ
   simp only[bH,mP,cond_false] at bm
   have:=BP he bm
   have hr:=e6.1 lb es[j] (jm (by rw[eJ hj];exact bx hG))
   simp only[vl,aI,dF] at hr
   have oT:(x.toNat:Int)=es[j].toInt:=by
    rw[←hx]
    have:es[j].toInt.toNat<256:=by omega
    simp only[UInt8.toNat_ofNat']
    omega
   rw[mK,cell?_cells hh,oT]
   rw[show 0+j=j*1+0 by omega,vQ,this])
  obtain ⟨f1,f2,f3,f4,f5⟩:=Xq (w:=w) (b:=b) (n:=n.toNat)
  obtain ⟨k1,k2⟩:=CF (w':=w.freeze ⟨b,0,none⟩ n.toNat) S ab (by simp) (blk':= .dead) (by trivial) HJ (cJ rfl) (by simp) f1 f2 f3 ⟨f4,f5⟩ (fun _=> .dead)
  rw[←HG,hl] at cR
  refine ⟨.string ⟨(ko (es.take n.toNat)).toArray⟩,_,I,β,?_,k1,k2,.str ?_⟩
  ·simpa using cR
  ·rfl
def HK:Op→Bool
 | .call {callee:= .value (.func _),..}=>true
 | .call {callee:= .value (.tmp _),..}=>true
 | .defer _=>true
 | _=>false
theorem oQ.val {o:Oper} {a:Act} {s:Sem Value} {r:R} (he:execOp a.eval o=(do Pure.pure (Next.value (←s)))) (h:cU P (s.run P w) w I β hp B M w0 r):oQ P ((execOp a.eval o).run P w) w I β hp B M w0 r:=by
 rw[he];exact h.op
theorem Xu {A:cA} (S:aE P w I β hp B M w0) (hg:fR P A.aD w I) {a:Act} {sl:Nat→V} (hs:kz P w I β hp a sl) {ix nb:Nat} {o:Oper} (HL:HK o.op=false) {r:R} {rd:List Nat}
  (h:(e9 P A sl ix nb o).run C hp=some (r,rd)):oQ P ((execOp a.eval o).run P w) w I β hp B M w0 r:=by
 obtain ⟨dst,op,ty,pos,after,guard⟩:=o
 cases op<;>simp only[e9] at h<;>first|(cases h;done)|skip
 case move x=>
  obtain rfl:=aL h
  exact ⟨_,w,I,β,.inl (by simp[execOp]),Le.refl w I β hp,S,hs.ev hg ty x⟩
 case assign x=>
  obtain rfl:=aL h
  exact ⟨_,w,I,β,.inl (by simp[execOp]),Le.refl w I β hp,S,hs.ev hg ty x⟩
 case pick c x y=>
  have hc:=hs.ev hg ty c
  cases tp:aM P A.aD ty sl c<;>rw[tp] at h hc<;>simp only at h<;>first|(cases h;done)|skip
  rename_i t
  have Xv:=hc.jW
  have hx:=hs.ev hg ty x
  have hy:=hs.ev hg ty y
  have fin: ∀z:V,ao P w I β hp (if t then a.eval x else a.eval y) z→oQ P ((execOp a.eval ⟨dst,.pick c x y,ty,pos,after,guard⟩).run P w) w I β hp B M w0 ⟨z,[]⟩:=by
   intro z hz
   exact ⟨_,w,I,β,.inl (by simp[execOp,Xv,asBool]),Le.refl w I β hp,S,hz⟩
  cases Nl:gone (aM P A.aD ty sl x) with
  | true=>
   rw[Nl] at h
   obtain ⟨h1,h⟩:=aF h
   obtain rfl:=aL h
   have:t=false:=by simpa using h1
   subst this
   refine fin _ ?_
   simpa using hy
  | false=>
   rw[Nl] at h
   simp only[cond_false] at h
   cases Dg:gone (aM P A.aD ty sl y) with
   | true=>
    rw[Dg] at h
    obtain ⟨h1,h⟩:=aF h
    obtain rfl:=aL h
    subst h1
    refine fin _ ?_
    simpa using hx
   | false=>
    rw[Dg] at h
    obtain rfl:=aL h
    exact fin _ (Mc hx hy)
 case makeFunc fn x y=>
  cases fn<;>simp only[e9] at h<;>first|(cases h;done)|skip
  rename_i f
  obtain rfl:=aL h
  refine ⟨.func (.func f) (x.map a.eval) (y.map a.eval),w,I,β,.inl (by simp[execOp,Instr.makeFunc]),Le.refl w I β hp,S,.fn (by simp) (fun j v z hj hz=> ?_) (by simp) (fun j v z hj hz=> ?_)⟩
  ·rw[Array.getElem?_map] at hj
   rw[fH,rk] at hz
   cases hx:x[j]? with
   | none=>rw[hx] at hj;cases hj
   | some o1=>
    rw[hx] at hj hz
    cases hj
    cases hz
    exact hs.ev hg ty o1
  ·rw[Array.getElem?_map] at hj
   rw[fH,rk] at hz
   cases hx:y[j]? with
   | none=>rw[hx] at hj;cases hj
   | some o1=>
    rw[hx] at hj hz
    cases hj
    cases hz
    exact hs.ev hg ty o1
 case defer c=>cases HL
 case makeMap t res=>
  cases res with
  | some x=>cases h
  | none=>exact .val rfl (W9 S h)
 case lookup t m k ok=>
  cases ht:kW P t with
  | none=>rw[ht] at h;cases h
  | some q=>
   obtain ⟨kt,vt⟩:=q
   rw[ht] at h
   exact .val (s:=Instr.lookup t (a.eval m) (a.eval k) ok) rfl (W8 S ht (hs.ev hg t m) (hs.ev hg kt k) h)
 case mapUpdate t m k x=>
  cases ht:kW P t with
  | none=>rw[ht] at h;cases h
  | some q=>
   obtain ⟨kt,vt⟩:=q
   rw[ht] at h
   have:=Nd S ht (hs.ev hg t m) (hs.ev hg kt k) (hs.ev hg vt x) h
   exact this.op
 case insert t m k x=>
  cases ht:kW P t with
  | none=>rw[ht] at h;cases h
  | some q=>
   obtain ⟨kt,vt⟩:=q
   rw[ht] at h
   have:=Nd S ht (hs.ev hg t m) (hs.ev hg kt k) (hs.ev hg vt x) h
   exact this.op
 case alloc e=>
  exact .val rfl (Wf S h)
 case box e x=>
  exact .val rfl (Wg S (hs.ev hg e x) h)
 case build t ps=>exact .val rfl (Wi S hs hg h)
 case buildSlice t len ps=>
  cases hu:P.underlying t with
  | none=>rw[hu] at h;cases h
  | some d=>
   rw[hu] at h
   cases d<;>simp only at h<;>first|(cases h;done)|skip
   exact .val rfl (Wq S hs hg hu h)
 case load t x=>exact .val rfl (VN S (hs.ev hg ty x) h)
 case store t x y=>
  have:=Wa S (hs.ev hg ty x) (hs.ev hg t y) h
  exact this.op
 case nilCheck x=>
  have hx:=hs.ev hg ty x
  cases eW:aM P A.aD ty sl x<;>rw[eW] at h hx<;>simp only at h<;>first|(cases h;done)|skip
  ·obtain ⟨⟨blk,ab,hd⟩,l,h⟩:=vB h
   obtain rfl:=aL h
   have cu:=hx
   obtain ⟨b,hb,he⟩:=hx.gE ab hd
   rw[he] at cu
   exact ⟨_,w,I,β,.inl (by simp only[execOp,he];rfl),Le.refl w I β hp,S,cu⟩
  ·obtain rfl:=aL h
   have cu:=hx
   obtain ⟨b,o,he,_⟩:=hx.CI
   rw[he] at cu
   exact ⟨_,w,I,β,.inl (by simp only[execOp,he];rfl),Le.refl w I β hp,S,cu⟩
  ·obtain ⟨e0,es,aq,l,ab,h1,U,h3,h⟩:=nO h
   obtain rfl:=aL h
   have cu:=hx
   obtain ⟨b,o,he,_⟩:=hx.Ma ab h1 U h3
   rw[he] at cu
   exact ⟨_,w,I,β,.inl (by simp only[execOp,he];rfl),Le.refl w I β hp,S,cu⟩
 case binOp op t x y yt=>
  have hx:=hs.ev hg t x
  have hy:=hs.ev hg t y
  refine .val (s:=do eqGuard op t x y (a.eval x) (a.eval y);binOp op t (a.eval x) (a.eval y)) rfl ?_
  cases eW:aM P A.aD t sl x<;>cases rQ:aM P A.aD t sl y<;>rw[eW,rQ] at h<;>rw[eW] at hx<;>rw[rQ] at hy<;>first|(simp only[jP] at h;cases h;done)|skip
  ·rw[hx.dJ,hy.dJ]
   have:=VD S h
   simpa[VA] using this
  ·rw[hx.jW,hy.jW]
   have:=VF S h
   simpa[VB] using this
  ·obtain ⟨s1,e1,l1⟩:=hx.lN
   obtain ⟨s2,e2,l2⟩:=hy.lN
   rw[e1,e2]
   rw[←l1,←l2] at h
   have:=VG (t:=t) S h
   simpa[VC] using this
  ·obtain ⟨cs,e1,h1,U⟩:=hx.kB
   obtain ⟨ds,e2,h3,h4⟩:=hy.kB
   rw[e1,e2]
   exact VH S h1 h3 U h4 h
  ·
   simp only[jP] at h
   obtain ⟨h1,U⟩:=aF h
   clear h
   simp only[aI,aQ] at h1
   obtain ⟨rfl,rfl,rfl⟩:=h1
   obtain ⟨⟨blk,ab,hd⟩,l,h⟩:=vB U
   obtain ⟨b,hb,e1⟩:=hx.gE ab hd
   obtain ⟨b',az,e2⟩:=hy.gE ab hd
   rw[hb] at az;cases az
   rw[e1,e2]
   exact Df S h (by cases op<;>simp[eqGuard]) fun e j he hj=>⟨run_eql_ptr_same w _ he hj,Lib.run_neq_ptr_same w _ he hj⟩
  ·simp only[jP] at h
   obtain ⟨⟨blk,ab,hd⟩,l,h⟩:=vB h
   obtain ⟨b,_,e1⟩:=hx.gE ab hd
   rw[e1,hy.De]
   exact Df S h (by cases op<;>simp[eqGuard]) fun e j he hj=>⟨Xk w t e _ he,Xl w t e _ he⟩
  ·simp only[jP] at h
   obtain ⟨⟨blk,ab,hd⟩,l,h⟩:=vB h
   obtain ⟨b,_,e1⟩:=hy.gE ab hd
   rw[e1,hx.De]
   exact Df S h (by cases op<;>simp[eqGuard]) fun e j he hj=>⟨Xm w t e _ he,Xn w t e _ he⟩
  ·simp only[jP] at h
   rw[hx.De,hy.De]
   exact Df S h (by cases op<;>simp[eqGuard]) fun e j he hj=>⟨Xo w t e he,Xp w t e he⟩
  ·
   simp only[jP] at h
   obtain ⟨l,h⟩:=run_get h
   split at h
   ·rename_i t2 es ab
    obtain ⟨b,hb⟩:=hx.Xd ab
    rw[hy.HH,hb]
    exact Ng (a:=some b) S x y h
   ·cases h
  ·simp only[jP] at h
   rw[hx.HH,hy.HH]
   exact Ng (a:=none) S x y h
 case unOp op t x=>exact .val rfl (VI S (hs.ev hg ty x) h)
 case convert src dst x=>
  have hx:=hs.ev hg ty x
  refine .val (s:=convert src dst (a.eval x)) rfl ?_
  cases iy:P.underlying src with
  | none=>rw[iy] at h;cases h
  | some d1=>
   cases mQ:P.underlying dst with
   | none=>rw[iy,mQ] at h;cases d1<;>cases h
   | some d2=>
    rw[iy,mQ] at h
    have gS: ∀{b:Nat} {T:TypeId} {cs:List V} {id:Nat},hp id=some (.var T cs)→β id=some b→w.shape? b=some (T,cs.length):=by
     intro b T cs id ab hb
     have hr:=S.h.rel id _ ab
     rw[hb] at hr
     cases hr with
     | var az hh aU _ _ _=>cases az;simp[World.shape?,hh,aU]
    cases d1<;>(try (cases d2<;>cases h;done))
    ·cases d2<;>(try (cases h;done))
     rename_i k1 k2
     cases eW:aM P A.aD ty sl x<;>rw[eW] at h hx<;>simp only at h<;>first|(cases h;done)|skip
     obtain rfl:=aL h
     rw[hx.dJ]
     exact .same S (by simp[convert,run_underlying iy,run_underlying mQ,Conv.intToInt]) .int
    ·cases d2<;>(try (cases h;done))
     rename_i u
     cases eW:aM P A.aD ty sl x<;>rw[eW] at h hx<;>simp only at h<;>first|(cases h;done)|skip
     rename_i id i c
     obtain ⟨l,h1⟩:=run_get h
     cases ab:hp id with
     | none=>rw[ab] at h1;cases h1
     | some blk=>
      rw[ab] at h1
      cases blk<;>simp only at h1<;>first|(cases h1;done)|skip
      rename_i T cs
      obtain ⟨U,h3⟩:=aF h1
      simp only[aI,aQ] at U
      obtain ⟨rfl,h4,h5⟩:=U
      obtain ⟨b,hb,e1⟩:=hx.gE ab (by simp)
      obtain rfl:=aL h3
      obtain ⟨j,hj⟩:=yf.1 h4
      have cu:=hx
      rw[e1] at cu⊢
      exact .same S (Lib.run_from_unsafe w _ iy mQ hj (gS ab hb) (by simpa using h5)) cu
    ·cases d2<;>(try (cases h;done))
     rename_i t
     cases eW:aM P A.aD ty sl x<;>rw[eW] at h hx<;>simp only at h<;>first|(cases h;done)|skip
     rename_i id i c
     obtain ⟨l,h1⟩:=run_get h
     cases ab:hp id with
     | none=>rw[ab] at h1;cases h1
     | some blk=>
      rw[ab] at h1
      cases blk<;>simp only at h1<;>first|(cases h1;done)|skip
      rename_i T cs
      obtain ⟨U,h3⟩:=aF h1
      simp only[aI,aQ,jK] at U
      obtain ⟨rfl,h4,h5⟩:=U
      obtain ⟨b,hb,e1⟩:=hx.gE ab (by simp)
      obtain rfl:=aL h3
      cases hj:P.info? t with
      | none=>rw[hj] at h5;cases h5
      | some j=>
       rw[hj] at h5
       simp only[ki] at h5
       have h6:j.size≠0:=fun e=>by rw[e] at h5;cases h5
       have cu:=hx
       rw[e1] at cu⊢
       exact .same S (Lib.run_to_unsafe w _ iy mQ hj h6 (gS ab hb) (by simpa using h4)) cu
    ·rename_i e
     cases d2<;>(try (cases h;done))
     simp only at h
     cases he:P.underlying e with
     | none=>rw[he] at h;cases h
     | some d3=>
      rw[he] at h
      cases d3<;>(try (cases h;done))
      rename_i k
      cases k<;>(try (cases h;done))
      exact Xj S iy he mQ hx h
 case fieldAddr s x f=>exact .val rfl (VJ S (hs.ev hg ty x) h)
 case field s x f=>exact .val rfl (WJ S (hs.ev hg ty x) h)
 case indexAddr t x y=>exact .val rfl (WV S (hs.ev hg ty x) (hs.ev hg 0 y) h)
 case index t x y=>
  have hx:=hs.ev hg ty x
  have hy:=hs.ev hg 0 y
  refine .val (s:=Instr.index t (a.eval x) (a.eval y)) rfl ?_
  cases hu:P.underlying t with
  | none=>rw[hu] at h;cases h
  | some d=>
   rw[hu] at h
   cases d<;>(try (cases h;done))
   cases eW:aM P A.aD ty sl x<;>rw[eW] at h hx<;>(try (cases h;done))
   cases rQ:aM P A.aD 0 sl y<;>rw[rQ] at h hy<;>(try (cases h;done))
   obtain ⟨s,e1,l1⟩:=hx.lN
   rw[e1,hy.dJ]
   exact WM S hu l1 h
 case slice t x lo hi mx=>
  cases mx with
  | some m=>
   simp only at h
   refine .val (s:=Instr.sliceAt t (a.eval x) (lo.map a.eval) (hi.map a.eval) (some (a.eval m))) (by simp[execOp]) (WS S (hs.ev hg ty x) (fun hy=> ?_) (fun y hy=> ?_) (fun y hy=> ?_) h)
   ·cases lo with
    | none=>rfl
    | some l=>cases hy
   ·cases hi with
    | none=>cases hy
    | some l=>cases hy;exact ⟨_,rfl,hs.ev hg 0 l⟩
   ·cases hy;exact ⟨_,rfl,hs.ev hg 0 m⟩
  | none=>
   simp only at h
   have plain:(Cj P t (aM P A.aD ty sl x) (lo.map (aM P A.aD 0 sl)) (hi.map (aM P A.aD 0 sl))).run C hp=some (r,rd)→oQ P ((execOp a.eval ⟨dst,.slice t x lo hi none,ty,pos,after,guard⟩).run P w) w I β hp B M w0 r:=by
    intro h
    refine .val (s:=Instr.sliceAt t (a.eval x) (lo.map a.eval) (hi.map a.eval) none) (by simp[execOp]) (WR S (hs.ev hg ty x) (fun y hy=> ?_) (fun y hy=> ?_) (fun hy=> ?_) (fun hy=> ?_) h)
    ·cases lo with
     | none=>cases hy
     | some l=>cases hy;exact ⟨_,rfl,hs.ev hg 0 l⟩
    ·cases hi with
     | none=>cases hy
     | some l=>cases hy;exact ⟨_,rfl,hs.ev hg 0 l⟩
    ·cases lo with
     | none=>rfl
     | some l=>cases hy
    ·cases hi with
     | none=>rfl
     | some l=>cases hy
   have tr:(Ck P nb t (aM P A.aD ty sl x) (lo.map (aM P A.aD 0 sl)) (hi.map (aM P A.aD 0 sl))).run C hp=some (r,rd)→oQ P ((execOp a.eval ⟨dst,.slice t x lo hi none,ty,pos,after,guard⟩).run P w) w I β hp B M w0 r:=by
    intro h
    refine .val (s:=Instr.sliceAt t (a.eval x) (lo.map a.eval) (hi.map a.eval) none) (by simp[execOp]) (WX S (hs.ev hg ty x) (fun y hy=> ?_) (fun hy=> ?_) h)
    ·cases hi with
     | none=>cases hy
     | some l=>cases hy;exact ⟨_,rfl,hs.ev hg 0 l⟩
    ·cases lo with
     | none=>rfl
     | some l=>cases hy
   cases dst with
   | none=>exact plain h
   | some d=>
    simp only at h
    cases Nn:jN A.vc d with
    | true=>rw[Nn] at h;exact tr h
    | false=>rw[Nn] at h;exact plain h
 case extract x i=>
  have hx:=hs.ev hg ty x
  cases eW:aM P A.aD ty sl x<;>rw[eW] at h hx<;>simp only at h<;>first|(cases h;done)|skip
  exact .val (s:=Instr.extract (a.eval x) i) rfl (WK S hx h)
 case makeSlice t l c=>
  have hl:=hs.ev hg 0 l
  have hc:=hs.ev hg 0 c
  refine .val (s:=Instr.makeSlice t (a.eval l) (a.eval c)) rfl ?_
  cases hu:P.underlying t with
  | none=>rw[hu] at h;cases h
  | some d=>
   rw[hu] at h
   cases d<;>(try (cases h;done))
   cases HM:aM P A.aD 0 sl l<;>rw[HM] at h hl<;>(try (cases h;done))
   cases tp:aM P A.aD 0 sl c<;>rw[tp] at h hc<;>(try (cases h;done))
   rw[hl.dJ,hc.dJ]
   cases dst with
   | none=>exact MM S hu h
   | some d=>
    simp only at h
    cases hg:jN A.vc d with
    | true=>rw[hg] at h;exact Ws S hu h
    | false=>rw[hg] at h;exact MM S hu h
 case call c=>
  obtain ⟨callee,args,argTypes⟩:=c
  cases callee with
  | invoke r m=>cases h
  | value f=>
   cases f with
   | func f=>cases HL
   | tmp f=>cases HL
   | _=>cases h
  | builtin b=>
   have one: ∀{x:Operand},args.toList=[x]→args= #[x]:=fun h=>by rw[←Array.toArray_toList (xs:=args),h]
   have qo: ∀(s:Array TypeId→TypeId→Array Value→Sem Value),builtin b argTypes ty (args.map fun| .const _=>true|_=>false) (args.map a.eval)=(do Pure.pure (Next.value (←s argTypes ty (args.map a.eval))))→
     execOp a.eval ⟨dst,.call ⟨.builtin b,args,argTypes⟩,ty,pos,after,guard⟩=(do Pure.pure (Next.value (←s argTypes ty (args.map a.eval)))):=by
    intro s hb
    simp only[execOp,resolve,pure_bind,invoke]
    exact hb
   cases b<;>(try (cases h;done))
   case append=>
    simp only at h
    cases ha:args.toList with
    | nil=>rw[ha] at h;cases h
    | cons x l=>
     cases l with
     | nil=>rw[ha] at h;cases h
     | cons y l2=>
      cases l2 with
      | cons _ _=>rw[ha] at h;cases h
      | nil=>
       cases da:argTypes.toList with
       | nil=>rw[ha,da] at h;cases h
       | cons t l3=>
        cases l3 with
        | nil=>rw[ha,da] at h;cases h
        | cons u l4=>
         cases l4 with
         | cons _ _=>rw[ha,da] at h;cases h
         | nil=>
          rw[ha,da] at h
          simp only at h
          have e1:args= #[x,y]:=by rw[←Array.toArray_toList (xs:=args),ha]
          have e2:argTypes= #[t,u]:=by rw[←Array.toArray_toList (xs:=argTypes),da]
          cases hu:P.underlying t with
          | none=>rw[hu] at h;cases h
          | some d=>
           rw[hu] at h
           cases d<;>(try (cases h;done))
           cases hc:Nat.beq t u with
           | true=>
            rw[hc] at h
            rw[aQ] at hc
            subst hc
            have:=Wv (ty:=ty) S hu (hs.ev hg t x) (hs.ev hg t y) h
            refine .val (qo Builtin.append_ rfl) ?_
            rw[e1,e2]
            simpa using this
           | false=>
            rw[hc] at h
            simp only[cond_false] at h
            have hy:=hs.ev hg u y
            cases nX:P.underlying u with
            | none=>rw[nX] at h;cases h
            | some du=>
             rw[nX] at h
             cases du<;>(try (cases h;done))
             cases rQ:aM P A.aD u sl y<;>rw[rQ] at h hy<;>(try (cases h;done))
             simp only at h
             obtain ⟨hb,h⟩:=aF h
             obtain ⟨s1,q1,q2⟩:=hy.lN
             subst q2
             have:=Xi (ty:=ty) S hu nX (Xr hb) (hs.ev hg t x) h
             refine .val (qo Builtin.append_ rfl) ?_
             rw[e1,e2]
             simpa[q1] using this
   case len=>
    simp only at h
    cases ha:args.toList with
    | nil=>rw[ha] at h;cases h
    | cons x l=>
     cases l with
     | cons _ _=>rw[ha] at h;cases h
     | nil=>
      cases da:argTypes.toList with
      | nil=>rw[ha,da] at h;cases h
      | cons t l3=>
       cases l3 with
       | cons _ _=>rw[ha,da] at h;cases h
       | nil=>
        rw[ha,da] at h
        simp only at h
        have e1:args= #[x]:=by rw[←Array.toArray_toList (xs:=args),ha]
        have e2:argTypes= #[t]:=by rw[←Array.toArray_toList (xs:=argTypes),da]
        have hx:=hs.ev hg ty x
        refine .val (qo Builtin.len_ rfl) ?_
        rw[e1,e2]
        cases hu:P.underlying t with
        | none=>rw[hu] at h;cases h
        | some d=>
         rw[hu] at h
         cases d<;>(try (cases h;done))
         ·cases eW:aM P A.aD ty sl x<;>rw[eW] at h hx<;>(try (cases h;done))
          have:=Md (t:=t) (ty:=ty) S hx (fun l hl=>hu) (fun hn=>absurd rfl (hn _)) h
          simpa using this
         ·have U:(∀l,aM P A.aD ty sl x≠ .str l)∧(Ce P (aM P A.aD ty sl x)).run C hp=some (r,rd):=by
           cases eW:aM P A.aD ty sl x<;>rw[eW] at h<;>first|(cases h;done)|exact ⟨fun l=>by simp,h⟩
          have:=Md (t:=t) (ty:=ty) S hx (fun l hl=>absurd hl (U.1 l)) (fun _=>⟨_,hu⟩) U.2
          simpa using this
         ·have U:(Ci (aM P A.aD ty sl x)).run C hp=some (r,rd):=by
           cases eW:aM P A.aD ty sl x<;>rw[eW] at h<;>exact h
          have:=Xc (t:=t) (ty:=ty) S hu hx U
          simpa using this
   case unsafeSliceData=>
    simp only at h
    cases ha:args.toList with
    | nil=>rw[ha] at h;cases h
    | cons x l=>
     cases l with
     | cons _ _=>rw[ha] at h;cases h
     | nil=>
      rw[ha] at h
      simp only at h
      have e1:args= #[x]:=by rw[←Array.toArray_toList (xs:=args),ha]
      have hx:=hs.ev hg ty x
      refine .val (qo Builtin.unsafeSliceData_ rfl) ?_
      rw[e1]
      cases eW:aM P A.aD ty sl x<;>rw[eW] at h hx<;>simp only at h<;>first|(cases h;done)|skip
      rename_i e id
      obtain ⟨l2,h1⟩:=run_get h
      cases ab:hp id with
      | none=>rw[ab] at h1;cases h1
      | some blk=>
       rw[ab] at h1
       cases blk<;>simp only at h1<;>first|(cases h1;done)|skip
       rename_i e' es fz
       obtain ⟨U,h3⟩:=aF h1
       simp only[aI,aQ,jK] at U
       obtain ⟨rfl,h4⟩:=U
       obtain rfl:=aL h3
       have:=Xs (ts:=argTypes) (ty:=ty) S hx ab h4
       simpa using this
   case unsafeString=>
    simp only at h
    cases ha:args.toList with
    | nil=>rw[ha] at h;cases h
    | cons x l=>
     cases l with
     | nil=>rw[ha] at h;cases h
     | cons y l2=>
      cases l2 with
      | cons _ _=>rw[ha] at h;cases h
      | nil=>
       cases da:argTypes.toList with
       | nil=>rw[ha,da] at h;cases h
       | cons t l3=>
        cases l3 with
        | nil=>rw[ha,da] at h;cases h
        | cons u l4=>
         cases l4 with
         | cons _ _=>rw[ha,da] at h;cases h
         | nil=>
          rw[ha,da] at h
          simp only at h
          have e1:args= #[x,y]:=by rw[←Array.toArray_toList (xs:=args),ha]
          have e2:argTypes= #[t,u]:=by rw[←Array.toArray_toList (xs:=argTypes),da]
          have hx:=hs.ev hg ty x
          have hy:=hs.ev hg ty y
          cases hu:P.underlying t with
          | none=>rw[hu] at h;cases h
          | some d=>
           rw[hu] at h
           cases d<;>(try (cases h;done))
           rename_i e
           cases eW:aM P A.aD ty sl x<;>rw[eW] at h hx<;>(try (cases h;done))
           cases rQ:aM P A.aD ty sl y<;>rw[rQ] at h hy<;>(try (cases h;done))
           rename_i id i c k n
           cases k<;>(try (cases h;done))
           simp only at h
           obtain ⟨l2,h1⟩:=run_get h
           cases ab:hp id with
           | none=>rw[ab] at h1;cases h1
           | some blk=>
            rw[ab] at h1
            cases blk<;>simp only at h1<;>first|(cases h1;done)|skip
            rename_i e' es fz
            cases fz<;>simp only at h1<;>first|(cases h1;done)|skip
            obtain ⟨U,h3⟩:=aF h1
            simp only[aI,aQ,dN,dF] at U
            obtain ⟨rfl,h4,rfl,rfl,h5,h6,h7,h8⟩:=U
            obtain rfl:=aL h3
            have:=Xt (u:=u) (ty:=ty) S hu h4 hx ab h5 h6 h7 h8
            refine .val (qo Builtin.unsafeString_ rfl) ?_
            rw[e1,e2]
            simpa[hy.dJ] using this
   case copy=>
    simp only at h
    cases ha:args.toList with
    | nil=>rw[ha] at h;cases h
    | cons x l=>
     cases l with
     | nil=>rw[ha] at h;cases h
     | cons y l2=>
      cases l2 with
      | cons _ _=>rw[ha] at h;cases h
      | nil=>
       cases da:argTypes.toList with
       | nil=>rw[ha,da] at h;cases h
       | cons t l3=>
        cases l3 with
        | nil=>rw[ha,da] at h;cases h
        | cons u l4=>
         cases l4 with
         | cons _ _=>rw[ha,da] at h;cases h
         | nil=>
          rw[ha,da] at h
          simp only at h
          have e1:args= #[x,y]:=by rw[←Array.toArray_toList (xs:=args),ha]
          have e2:argTypes= #[t,u]:=by rw[←Array.toArray_toList (xs:=argTypes),da]
          cases hu:P.underlying t with
          | none=>rw[hu] at h;cases h
          | some d=>
           rw[hu] at h
           cases d<;>(try (cases h;done))
           have:=WC (u:=u) (ty:=ty) S hu (hs.ev hg t x) (hs.ev hg u y) h
           refine .val (qo Builtin.copy_ rfl) ?_
           rw[e1,e2]
           simpa using this
   case clear=>
    simp only at h
    cases ha:args.toList with
    | nil=>rw[ha] at h;cases h
    | cons x l=>
     cases l with
     | cons _ _=>rw[ha] at h;cases h
     | nil=>
      cases da:argTypes.toList with
      | nil=>rw[ha,da] at h;cases h
      | cons t l3=>
       cases l3 with
       | cons _ _=>rw[ha,da] at h;cases h
       | nil=>
        rw[ha,da] at h
        simp only at h
        have e1:args= #[x]:=by rw[←Array.toArray_toList (xs:=args),ha]
        have e2:argTypes= #[t]:=by rw[←Array.toArray_toList (xs:=argTypes),da]
        cases hu:P.underlying t with
        | none=>rw[hu] at h;cases h
        | some d=>
         rw[hu] at h
         cases d<;>(try (cases h;done))
         have:=WD (ty:=ty) S hu (hs.ev hg t x) h
         refine .val (qo Builtin.clear_ rfl) ?_
         rw[e1,e2]
         simpa using this
   case max=>
    simp only at h
    cases ha:args.toList with
    | nil=>rw[ha] at h;cases h
    | cons x l=>
     rw[ha] at h
     simp only at h
     have:=Hs S true (vs:=l.map a.eval) (xs:=l.map (aM P A.aD ty sl)) (hs.ev hg ty x) (by simp) (fun j u y hu hy=>by
      simp only[fH] at hu hy
      cases hl:l[j]? with
      | none=>rw[hl] at hu;cases hu
      | some z=>rw[hl] at hu hy;cases hu;cases hy;exact hs.ev hg ty z) h
     refine .val (qo Builtin.max_ rfl) ?_
     simpa[Builtin.max_,ha] using this
   case min=>
    simp only at h
    cases ha:args.toList with
    | nil=>rw[ha] at h;cases h
    | cons x l=>
     rw[ha] at h
     simp only at h
     have:=Hs S false (vs:=l.map a.eval) (xs:=l.map (aM P A.aD ty sl)) (hs.ev hg ty x) (by simp) (fun j u y hu hy=>by
      simp only[fH] at hu hy
      cases hl:l[j]? with
      | none=>rw[hl] at hu;cases hu
      | some z=>rw[hl] at hu hy;cases hu;cases hy;exact hs.ev hg ty z) h
     refine .val (qo Builtin.min_ rfl) ?_
     simpa[Builtin.min_,ha] using this
end
section
variable {P:Program} {A:cA} {w w':World} {I I' I2:Nat→Prop} {μ β β':Nat→Option Nat} {hp hp':Nat→Option an} {C:ag} {B:Nat} {M:Nat→Prop} {w0:Start}
theorem vV: ∀{l m:List Nat},dX.nH l m=true→l=m
 | [],[],_=>rfl
 | [],_::_,h=>by cases h
 | _::_,[],h=>by cases h
 | a::l,b::m,h=>by
  simp only[dX.nH,aI,aQ] at h
  rw[h.1,vV h.2]
@[simp] theorem No (n:Nat):kp (dO n)=n:=by simp[kp,dO,V.toInt]
theorem Dh: ∀(path:List (Nat × Nat)) (rest:List V),yA (path.map (·.2)) ((path.map fun p=>dO p.1)++rest)=path
 | [],_=>rfl
 | p::l,rest=>by
  simp only[cO,List.cons_append,yA,V.nth,No,km,iP,Dh l rest]
theorem Di {l:LS} {x:V} {ds:List V} (h:dX l x=some ds):ds.length=l.size∧(l= .pO∨∀rest,im l (ds++rest)=x):=by
 cases l with
 | pO=>simp only[dX,dG] at h;subst h;exact ⟨rfl,.inl rfl⟩
 | int k=>
  cases x<;>simp only[dX] at h<;>first|(cases h;done)|skip
  rename_i k' n
  by_cases hk:k=k'
  ·subst hk
   simp only[rh,cond_true,dG] at h
   subst h
   exact ⟨rfl,.inr fun _=>rfl⟩
  ·simp[hk] at h
 | bool=>
  cases x<;>simp only[dX] at h<;>first|(cases h;done)|skip
  cases h
  exact ⟨rfl,.inr fun _=>rfl⟩
 | str=>
  cases x<;>simp only[dX] at h<;>first|(cases h;done)|skip
  cases h
  exact ⟨rfl,.inr fun _=>rfl⟩
 | list e=>
  cases x<;>simp only[dX] at h<;>first|(cases h;done)|skip
  rename_i e' es
  cases hb:Nat.beq e e' with
  | false=>rw[hb] at h;cases h
  | true=>
   rw[hb] at h
   rw[aQ] at hb
   subst hb
   cases h
   exact ⟨rfl,.inr fun _=>rfl⟩
 | whole e j=>
  cases x<;>simp only[dX] at h<;>first|(cases h;done)|skip
  rename_i e' id
  cases hb:(Nat.beq e e'&&Nat.beq j id) with
  | false=>rw[hb] at h;cases h
  | true=>
   rw[hb] at h
   simp only[aI,aQ] at hb
   obtain ⟨rfl,rfl⟩:=hb
   cases h
   exact ⟨rfl,.inr fun _=>rfl⟩
 | sub e j=>
  cases x<;>simp only[dX] at h<;>first|(cases h;done)|skip
  rename_i e' id o n
  cases hb:(Nat.beq e e'&&Nat.beq j id) with
  | false=>rw[hb] at h;cases h
  | true=>
   rw[hb] at h
   simp only[aI,aQ] at hb
   obtain ⟨rfl,rfl⟩:=hb
   cases h
   exact ⟨rfl,.inr fun _=>by simp[im,V.nth]⟩
 | ptr j=>
  cases x<;>simp only[dX] at h<;>first|(cases h;done)|skip
  rename_i id i c
  cases hb:(Nat.beq j id) with
  | false=>rw[hb] at h;cases h
  | true=>
   rw[hb] at h
   rw[aQ] at hb
   subst hb
   cases h
   exact ⟨rfl,.inr fun _=>by simp[im,V.nth]⟩
 | mA j i c=>
  cases x<;>simp only[dX] at h<;>first|(cases h;done)|skip
  rename_i id i' c'
  cases hb:(Nat.beq j id&&(Nat.beq i i'&&Nat.beq c c')) with
  | false=>rw[hb] at h;cases h
  | true=>
   rw[hb] at h
   simp only[aI,aQ] at hb
   obtain ⟨rfl,rfl,rfl⟩:=hb
   cases h
   exact ⟨rfl,.inr fun _=>rfl⟩
 | nilS e=>
  cases x<;>simp only[dX] at h<;>first|(cases h;done)|skip
  rename_i e'
  cases hb:Nat.beq e e' with
  | false=>rw[hb] at h;cases h
  | true=>
   rw[hb] at h
   rw[aQ] at hb
   subst hb
   cases h
   exact ⟨rfl,.inr fun _=>rfl⟩
 | c8=>
  cases x<;>simp only[dX] at h<;>first|(cases h;done)|skip
  cases h
  exact ⟨rfl,.inr fun _=>rfl⟩
 | cp e j=>
  cases x<;>simp only[dX] at h<;>first|(cases h;done)|skip
  rename_i e' id
  cases hb:(Nat.beq e e'&&Nat.beq j id) with
  | false=>rw[hb] at h;cases h
  | true=>
   rw[hb] at h
   simp only[aI,aQ] at hb
   obtain ⟨rfl,rfl⟩:=hb
   cases h
   exact ⟨rfl,.inr fun _=>rfl⟩
 | dh e=>
  cases x<;>simp only[dX] at h<;>first|(cases h;done)|skip
  rename_i e'
  cases hb:Nat.beq e e' with
  | false=>rw[hb] at h;cases h
  | true=>
   rw[hb] at h
   rw[aQ] at hb
   subst hb
   cases h
   exact ⟨rfl,.inr fun _=>rfl⟩
 | B6 k n=>
  cases x<;>simp only[dX] at h<;>first|(cases h;done)|skip
  rename_i k' m
  cases hb:(decide (k=k')&&decide (m=n)) with
  | false=>rw[hb] at h;cases h
  | true=>
   rw[hb] at h
   simp only[aI,dF] at hb
   obtain ⟨rfl,rfl⟩:=hb
   cases h
   exact ⟨rfl,.inr fun _=>rfl⟩
 | vb b=>
  cases x<;>simp only[dX] at h<;>first|(cases h;done)|skip
  rename_i c
  cases hb:decide (b=c) with
  | false=>rw[hb] at h;cases h
  | true=>
   rw[hb] at h
   obtain rfl:=gP hb
   cases h
   exact ⟨rfl,.inr fun _=>rfl⟩
 | row e j cs=>
  cases x<;>simp only[dX] at h<;>first|(cases h;done)|skip
  rename_i e' id ver path
  cases hb:(Nat.beq e e'&&(Nat.beq j id&&(Nat.beq ver 0&&dX.nH cs (path.map (·.2))))) with
  | false=>rw[hb] at h;cases h
  | true=>
   rw[hb] at h
   simp only[aI,aQ] at hb
   obtain ⟨rfl,rfl,rfl,nR⟩:=hb
   have:=vV nR
   subst this
   cases h
   exact ⟨by simp[LS.size],.inr fun rest=>by simp only[im,Dh]⟩
 | cz j cs c=>
  cases x<;>simp only[dX] at h<;>first|(cases h;done)|skip
  rename_i id ver path i c'
  cases hb:(Nat.beq j id&&(Nat.beq ver 0&&(Nat.beq c c'&&dX.nH cs (path.map (·.2))))) with
  | false=>rw[hb] at h;cases h
  | true=>
   rw[hb] at h
   simp only[aI,aQ] at hb
   obtain ⟨rfl,rfl,rfl,nR⟩:=hb
   have:=vV nR
   subst this
   cases h
   exact ⟨by simp[LS.size],.inr fun rest=>by simp only[im,List.cons_append,V.nth,No,km,iP,Dh]⟩
def LS.below (n:Nat) (x:V):Prop:= ∀id∈dY x,id<n
def Np:V→Prop
 | .agg _=>False
 | .bc _=>False
 | .fn .. =>False
 | .pref .. =>False
 | _=>True
theorem tA {c:Bool} {a d:List V} (h:(bif c then some a else none)=some d):c=true:=by
 cases c with
 | true=>rfl
 | false=>cases h
theorem Xw {l:LS} {x:V} {ds:List V} {n:Nat} (h:dX l x=some ds) (hl:l≠ .pO) (au:l.ok n=true):Np x∧LS.below n x:=by
 cases l<;>cases x<;>simp only[dX] at h<;>first|(cases h;done)|(exact absurd rfl hl)|skip
 all_goals refine ⟨trivial,fun id ab=> ?_⟩
 all_goals simp only[dY,dW,List.not_mem_nil] at ab
 all_goals subst ab
 all_goals simp only[LS.ok,jK] at au
 all_goals
  have hb:=tA h
  simp only[aI,aQ] at hb
  omega
theorem ao.Xx {v:Value} {x:V} (h:ao P w I β hp v x) (hx:Np x) (hs: ∀id∈dY x,hp' id=hp id∧β' id=β id):ao P w I β' hp' v x:=by
 have one: ∀{id},id∈dY x→hp' id=hp id∧β' id=β id:=fun h=>hs _ h
 cases h with
 | undef=>exact .undef
 | int=>exact .int
 | bool=>exact .bool
 | str h=>exact .str h
 | list h=>exact .list h
 | nilS=>exact .nilS
 | agg=>exact hx.elim
 | bc=>exact hx.elim
 | c8=>exact .c8
 | fn=>exact hx.elim
 | pref=>exact hx.elim
 | dQ h=>exact .dQ ((one (by simp[dY])).1.trans h)
 | fJ h=>exact .fJ ((one (by simp[dY])).1.trans h)
 | jT h=>exact .jT ((one (by simp[dY])).1.trans h)
 | dt h hb=>exact .dt ((one (by simp[dY])).1.trans h) ((one (by simp[dY])).2.trans hb)
 | whole h hb a b c=>exact .whole ((one (by simp[dY])).1.trans h) ((one (by simp[dY])).2.trans hb) a b c
 | dZ h hb a b c=>exact .dZ ((one (by simp[dY])).1.trans h) ((one (by simp[dY])).2.trans hb) a b c
 | fu h hb=>exact .fu ((one (by simp[dY])).1.trans h) ((one (by simp[dY])).2.trans hb)
 | sub h hb a b c=>exact .sub ((one (by simp[dY])).1.trans h) ((one (by simp[dY])).2.trans hb) a b c
 | ptr h hd hb=>exact .ptr ((one (by simp[dY])).1.trans h) hd ((one (by simp[dY])).2.trans hb)
 | jq h qk=>exact .jq ((one (by simp[dY])).1.trans h) qk
 | jr h qk=>exact .jr ((one (by simp[dY])).1.trans h) qk
 | row h hb a b c d=>exact .row ((one (by simp[dY])).1.trans h) ((one (by simp[dY])).2.trans hb) a b c d
 | cz h hb a b c d e=>exact .cz ((one (by simp[dY])).1.trans h) ((one (by simp[dY])).2.trans hb) a b c d e
 | dh=>exact .dh
 | gZ h=>exact .gZ ((one (by simp[dY])).1.trans h)
 | cp h hb=>exact .cp ((one (by simp[dY])).1.trans h) ((one (by simp[dY])).2.trans hb)
theorem mR {a b:List V} {n:Nat} (h:a.length=n):(a++b).drop n=b:=by subst h;simp
def zi (n:Nat) (β:Nat→Option Nat) (hp:Nat→Option an) (β':Nat→Option Nat) (hp':Nat→Option an):Prop:= ∀id,id<n→hp' id=hp id∧β' id=β id
theorem Nq {l:LS} {x:V} {ds:List V} {n:Nat} {v:Value} (h:dX l x=some ds) (au:l.ok n=true) (iF:zi n β hp β' hp') (hv:ao P w I β hp v x) (rest:List V):
  ao P w I β' hp' v (im l (ds++rest)):=by
 rcases (Di h).2 with e|e
 ·subst e;exact .undef
 ·rw[e rest]
  by_cases hu:l= .pO
  ·subst hu
   have:x= .undef:=(e rest).symm
   subst this
   exact .undef
  ·obtain ⟨h1,U⟩:=Xw h hu au
   exact hv.Xx h1 fun id ab=>iF id (U id ab)
theorem zj {n:Nat} (iF:zi n β hp β' hp'): ∀{ls:List LS} {xs:List V} {ds:List V},oL ls xs=some ds→ls.all (LS.ok n)=true→
  ds.length=jQ ls∧(∀rest,(gT ls (ds++rest)).length=xs.length)∧
  ∀(rest:List V) (j:Nat) (v:Value) (y:V),(∀x,xs[j]? =some x→ao P w I β hp v x)→(gT ls (ds++rest))[j]? =some y→ao P w I β' hp' v y
 | [],[],ds,h,_=>by cases h;exact ⟨rfl,fun _=>rfl,fun rest j v y _ hy=>by simp[gT] at hy⟩
 | [],_::_,ds,h,_=>by cases h
 | _::_,[],ds,h,_=>by cases h
 | l::ls,x::xs,ds,h,au=>by
  simp only[oL] at h
  obtain ⟨a,h1,h⟩:=bind_some h
  obtain ⟨b,U,h⟩:=bind_some h
  cases h
  simp only[List.all_cons,aI] at au
  obtain ⟨i1,i2,i3⟩:=zj iF U au.2
  have ca:=(Di h1).1
  have hd: ∀rest,(a++b++rest).drop l.size=b++rest:=fun rest=>by rw[cm];exact mR ca
  refine ⟨by simp only[cv,jQ];omega,fun rest=>by simp only[gT,List.length_cons,hd,i2],fun rest j v y hv hy=> ?_⟩
  simp only[gT,hd] at hy
  cases j with
  | zero=>
   simp at hy
   subst hy
   exact Nq h1 au.1 iF (hv x rfl) _
  | succ j=>exact i3 rest j v y (fun x hx=>hv x (by simpa using hx)) (by simpa using hy)
theorem HN: ∀{ls:List LS} {xs:List V} {ds:List V},oL ls xs=some ds→ls.all LS.plain=true→ds.length=jQ ls∧∀rest,gT ls (ds++rest)=xs
 | [],[],ds,h,_=>by cases h;exact ⟨rfl,fun _=>rfl⟩
 | [],_::_,ds,h,_=>by cases h
 | _::_,[],ds,h,_=>by cases h
 | l::ls,x::xs,ds,h,au=>by
  simp only[oL] at h
  obtain ⟨a,h1,h⟩:=bind_some h
  obtain ⟨b,U,h⟩:=bind_some h
  cases h
  simp only[List.all_cons,aI] at au
  obtain ⟨i1,i2⟩:=HN U au.2
  obtain ⟨ca,hm⟩:=Di h1
  refine ⟨by simp only[cv,jQ];omega,fun rest=> ?_⟩
  simp only[gT]
  rw[show (a++b++rest).drop l.size=b++rest by rw[cm];exact mR ca,i2,cm]
  rcases hm with e|e
  ·subst e;cases au.1
  ·rw[e]
theorem HO {n:Nat} (iF:zi n β hp β' hp') {s:VS} {x:V} {ds:List V} (h:oM s x=some ds) (au:s.ok n=true):
  ds.length=s.size∧∀(rest:List V) (v:Value),ao P w I β hp v x→ao P w I β' hp' v (ku s (ds++rest)):=by
 cases s with
 | one l=>exact ⟨(Di h).1,fun rest v hv=>Nq h au iF hv rest⟩
 | agg ls=>
  cases x<;>simp only[oM] at h<;>first|(cases h;done)|skip
  rename_i xs
  obtain ⟨i1,i2,i3⟩:=zj (P:=P) (w:=w) (I:=I) iF h au
  refine ⟨i1,fun rest v hv=> ?_⟩
  obtain ⟨cs,rfl,e1,e2⟩:=hv.kB
  exact .agg (by rw[i2];exact e1) fun j v y hj hy=>i3 rest j v y (fun x hx=>e2 j v x hj hx) hy
 | bc ls=>
  cases x<;>simp only[oM] at h<;>first|(cases h;done)|skip
  rename_i xs
  obtain ⟨i1,i2,i3⟩:=zj (P:=P) (w:=w) (I:=I) iF h au
  refine ⟨i1,fun rest v hv=> ?_⟩
  obtain ⟨cs,rfl,e1,e2⟩:=hv.te
  exact .bc (by rw[i2];exact e1) fun j v y hj hy=>i3 rest j v y (fun x hx=>e2 j v x hj hx) hy
 | fn f a b=>
  cases x<;>simp only[oM] at h<;>first|(cases h;done)|skip
  rename_i f' xs ys
  cases hb:Nat.beq f f' with
  | false=>rw[hb] at h;cases h
  | true=>
   rw[hb] at h
   rw[aQ] at hb
   subst hb
   simp only[cond_true] at h
   obtain ⟨p,h1,h⟩:=bind_some h
   obtain ⟨q,U,h⟩:=bind_some h
   cases h
   simp only[VS.ok,aI] at au
   obtain ⟨i1,i2,i3⟩:=zj (P:=P) (w:=w) (I:=I) iF h1 au.1
   obtain ⟨j1,j2,j3⟩:=zj (P:=P) (w:=w) (I:=I) iF U au.2
   refine ⟨by simp only[cv,VS.size];omega,fun rest v hv=> ?_⟩
   cases hv with
   | fn a1 a2 b1 b2=>
    simp only[ku]
    rw[show (p++q++rest).drop (jQ a)=q++rest by rw[cm];exact mR i1,cm]
    exact .fn (by rw[i2];exact a1) (fun j v y hj hy=>i3 _ j v y (fun x hx=>a2 j v x hj hx) hy) (by rw[j2];exact b1) (fun j v y hj hy=>j3 _ j v y (fun x hx=>b2 j v x hj hx) hy)
 | pref ts ls=>
  cases x<;>simp only[oM] at h<;>first|(cases h;done)|skip
  rename_i vj xs
  cases hb:dX.nH ts vj with
  | false=>rw[hb] at h;cases h
  | true=>
   rw[hb] at h
   have:=vV hb
   subst this
   simp only[cond_true] at h
   refine ⟨?_,fun rest v hv=> ?_⟩
   ·exact (HN h au).1
   ·simp only[ku]
    rw[(HN h au).2]
    cases hv with
    | pref hl hI hc=>exact .pref hl hI hc
theorem zk {n:Nat} (iF:zi n β hp β' hp'): ∀{ls:List VS} {xs:List V} {ds:List V},pF ls xs=some ds→ls.all (VS.ok n)=true→
  ds.length=rB ls∧(∀rest,(e8 ls (ds++rest)).length=xs.length)∧
  ∀(rest:List V) (j:Nat) (v:Value) (y:V),(∀x,xs[j]? =some x→ao P w I β hp v x)→(e8 ls (ds++rest))[j]? =some y→ao P w I β' hp' v y
 | [],[],ds,h,_=>by cases h;exact ⟨rfl,fun _=>rfl,fun rest j v y _ hy=>by simp[e8] at hy⟩
 | [],_::_,ds,h,_=>by cases h
 | _::_,[],ds,h,_=>by cases h
 | l::ls,x::xs,ds,h,au=>by
  simp only[pF] at h
  obtain ⟨a,h1,h⟩:=bind_some h
  obtain ⟨b,U,h⟩:=bind_some h
  cases h
  simp only[List.all_cons,aI] at au
  obtain ⟨i1,i2,i3⟩:=zk iF U au.2
  obtain ⟨ca,vQ⟩:=HO (P:=P) (w:=w) (I:=I) iF h1 au.1
  have hd: ∀rest,(a++b++rest).drop l.size=b++rest:=fun rest=>by rw[cm];exact mR ca
  refine ⟨by simp only[cv,rB];omega,fun rest=>by simp only[e8,List.length_cons,hd,i2],fun rest j v y hv hy=> ?_⟩
  simp only[e8,hd] at hy
  cases j with
  | zero=>
   simp at hy
   subst hy
   exact vQ _ v (hv x rfl)
  | succ j=>exact i3 rest j v y (fun x hx=>hv x (by simpa using hx)) (by simpa using hy)
end
section
variable {P:Program} {A:cA} {w w':World} {I I' I2:Nat→Prop} {μ β β':Nat→Option Nat} {hp hp' hp0:Nat→Option an} {C:ag} {B:Nat} {M:Nat→Prop} {w0:Start}
theorem gJ: ∀{l:List an} {j:Nat},jn l j=l[j]?
 | [],j=>by simp[jn]
 | b::l,0=>rfl
 | b::l,j+1=>by simp only[jn,gJ,List.getElem?_cons_succ]
theorem HP {sl:Nat→V} {k:Nat} {y:V}: ∀{l:List (Nat × VS)} {ds:List V},yx sl l=some ds→(∀p∈l,∀d,oM p.2 (sl p.1)=some d→d.length=p.2.size)→
  ds.length=nJ l∧∀rest,dr (eT l (ds++rest)) k=some y→∃s d fO,(k,s)∈l∧oM s (sl k)=some d∧y=ku s (d++fO)
 | [],ds,h,_=>by cases h;exact ⟨rfl,fun rest h=>by cases h⟩
 | (q,s)::l,ds,h,hz=>by
  simp only[yx] at h
  obtain ⟨a,h1,h⟩:=bind_some h
  obtain ⟨b,U,h⟩:=bind_some h
  cases h
  obtain ⟨i1,i2⟩:=HP (k:=k) (y:=y) U fun p hp=>hz p (kR _ hp)
  have ca:=hz (q,s) (rm ..) a h1
  refine ⟨by simp only[cv,nJ];simp only at ca;omega,fun rest hl=> ?_⟩
  simp only[eT,dr] at hl
  rw[show (a++b++rest).drop s.size=b++rest by rw[cm];exact mR ca] at hl
  cases hb:Nat.beq k q with
  | true=>
   rw[hb] at hl
   rw[aQ] at hb
   subst hb
   cases hl
   exact ⟨s,a,b++rest,rm ..,h1,by rw[cm]⟩
  | false=>
   rw[hb] at hl
   obtain ⟨s',d,fO,m1,m2,m3⟩:=i2 rest hl
   exact ⟨s',d,fO,kR _ m1,m2,m3⟩
theorem HQ {α:Type} {c:Bool} {x:Option α} {a:α} (h:(bif c then x else none)=some a):c=true∧x=some a:=by
 cases c with
 | true=>exact ⟨rfl,h⟩
 | false=>cases h
theorem Xy {n:Nat} {b:BS} {o:Option an} {ds:List V} (h:kq b o=some ds) (au:b.ok n=true):ds.length=b.size:=by
 cases b with
 | dead=>cases o<;>(cases h;rfl)
 | var T0 ls=>
  cases o with
  | none=>cases h
  | some blk=>
   cases blk<;>simp only[kq] at h<;>first|(cases h;done)|skip
   exact (zk (P:=default) (w:=default) (I:=fun _=>False) (β:=fun _=>none) (hp:=fun _=>none) (fun _ _=>⟨rfl,rfl⟩) (HQ h).2 au).1
 | arr e fz=>
  cases o with
  | none=>cases h
  | some blk=>
   cases blk<;>simp only[kq] at h<;>first|(cases h;done)|skip
   rw[tA h] at h
   cases h
   rfl
 | nest e=>
  cases o with
  | none=>cases h
  | some blk=>
   cases blk<;>simp only[kq] at h<;>first|(cases h;done)|skip
   rw[tA h] at h
   cases h
   rfl
 | map t=>
  cases o with
  | none=>cases h
  | some blk=>
   cases blk<;>simp only[kq] at h<;>first|(cases h;done)|skip
   rw[tA h] at h
   cases h
   rfl
theorem Nr {n:Nat}: ∀{l:List BS} {j:Nat} {ds:List V},yz hp j l=some ds→l.all (BS.ok n)=true→
  (∀rest,(ej l (ds++rest)).length=l.length)∧∀(rest:List V) (i:Nat) (blk:an),(ej l (ds++rest))[i]? =some blk→∃b d fO,l[i]? =some b∧b.ok n=true∧kq b (hp (j+i))=some d∧blk=fp b (d++fO)
 | [],j,ds,h,_=>by cases h;exact ⟨fun _=>rfl,fun rest i blk hb=>by simp[ej] at hb⟩
 | b::l,j,ds,h,au=>by
  simp only[yz] at h
  obtain ⟨a,h1,h⟩:=bind_some h
  obtain ⟨c,U,h⟩:=bind_some h
  cases h
  simp only[List.all_cons,aI] at au
  obtain ⟨i1,i2⟩:=Nr U au.2
  have ca:=Xy h1 au.1
  have hd: ∀rest,(a++c++rest).drop b.size=c++rest:=fun rest=>by rw[cm];exact mR ca
  refine ⟨fun rest=>by simp only[ej,List.length_cons,hd,i1],fun rest i blk hb=> ?_⟩
  simp only[ej,hd] at hb
  cases i with
  | zero=>
   simp at hb
   exact ⟨b,a,c++rest,rfl,au.1,h1,by rw[←hb]⟩
  | succ i=>
   obtain ⟨b',d,fO,m1,m2,m3,m4⟩:=i2 rest i blk (by simpa using hb)
   exact ⟨b',d,fO,by simpa using m1,m2,by rw[show j+(i+1)=j+1+i by omega];exact m3,m4⟩
theorem Xz {n:Nat} {b:BS} {blk:an} {ds rest:List V} (h:kq b (some blk)=some ds) (au:b.ok n=true):
  blk.le (fp b (ds++rest))∧(fp b (ds++rest)= .dead∨fp b (ds++rest)=blk∨∃T ls cs,b= .var T ls∧blk= .var T cs∧pF ls cs=some ds∧fp b (ds++rest)= .var T (e8 ls (ds++rest))):=by
 cases b with
 | dead=>exact ⟨by cases blk<;>trivial,.inl rfl⟩
 | var T0 ls=>
  cases blk<;>simp only[kq] at h<;>first|(cases h;done)|skip
  obtain ⟨hT,h0⟩:=HQ h
  clear h
  rw[aQ] at hT
  subst hT
  exact ⟨rfl,.inr (.inr ⟨_,_,_,rfl,rfl,h0,rfl⟩)⟩
 | arr e fz=>
  cases blk<;>simp only[kq] at h<;>first|(cases h;done)|skip
  rename_i e' es mD
  have hb:=tA h
  simp only[aI,aQ,nB] at hb
  obtain ⟨rfl,rfl⟩:=hb
  simp only[jl,beq_self_eq_true,Bool.and_self,cond_true,dG] at h
  subst h
  exact ⟨⟨rfl,rfl⟩,.inr (.inl rfl)⟩
 | nest e=>
  cases blk<;>simp only[kq] at h<;>first|(cases h;done)|skip
  rename_i e' es aq
  have hb:=tA h
  simp only[aI,aQ] at hb
  obtain ⟨rfl,hv⟩:=hb
  have:=vV hv
  subst this
  simp only[jl,lF] at h
  cases h
  exact ⟨⟨rfl,rfl,rfl,fun _=>cf _⟩,.inr (.inl rfl)⟩
 | map t=>
  cases blk<;>simp only[kq] at h<;>first|(cases h;done)|skip
  rename_i t' es
  have hb:=tA h
  rw[aQ] at hb
  subst hb
  simp only[jl,cond_true,dG] at h
  subst h
  exact ⟨rfl,.inr (.inl rfl)⟩
theorem Ns {m:Nat} {S:Shape} {st:St} {ds:List V} (h:jo m S st=some ds):
  S.ok=true∧m≤S.a8.length∧∃a b,yx st.sl S.bJ=some a∧yz st.hp 0 S.a8=some b∧ds=a++b:=by
 unfold jo at h
 cases hc:(S.ok&&Nat.ble m S.a8.length) with
 | false=>rw[hc] at h;cases h
 | true=>
  rw[hc] at h
  simp only[cond_true] at h
  simp only[aI,dN] at hc
  obtain ⟨a,h1,h⟩:=bind_some h
  obtain ⟨b,U,h⟩:=bind_some h
  cases h
  exact ⟨hc.1,hc.2,a,b,h1,U,rfl⟩
theorem reshape {m:Nat} {S:Shape} {st:St} {ds:List V} (h:jo m S st=some ds) (hS:aE P w I β st.hp B M w0):
  aE P w I β (bj S ds).hp B M w0∧(∀(k:Nat) (v:Value),ao P w I β st.hp v (st.sl k)→ao P w I β (bj S ds).hp v ((bj S ds).sl k))∧
  (∀(μ:Nat→Option Nat) (hp0:Nat→Option an),(∀id blk,hp0 id=some blk→id<m)→Le P w0.w w0.I μ hp0 w I β st.hp→Le P w0.w w0.I μ hp0 w I β (bj S ds).hp)∧
  ∀j blk',(bj S ds).hp j=some blk'→blk'≠ .dead→∃blk,st.hp j=some blk∧blk.le blk'∧∀o b,bt P w o blk' b→bt P w o blk b:=by
 obtain ⟨au,hm,a,b,h1,U,rfl⟩:=Ns h
 unfold Shape.ok at au
 rw[aI] at au
 obtain ⟨Nt,Hu⟩:=au
 have aU: ∀p∈S.bJ,∀d,oM p.2 (st.sl p.1)=some d→d.length=p.2.size:=fun p hp d hd=>
  (HO (P:=P) (w:=w) (I:=I) (β:=β) (hp:=st.hp) (fun _ _=>⟨rfl,rfl⟩) hd (e6.1 Nt p hp)).1
 have ca:a.length=nJ S.bJ:=(HP (k:=0) (y:= .undef) h1 aU).1
 have C8:(bj S (a++b)).hp=jn (ej S.a8 (b++[])):=by
  simp only[bj,mk,dH]
  rw[mR ca]
 obtain ⟨bl,bg⟩:=Nr U Hu
 have get: ∀j blk',(bj S (a++b)).hp j=some blk'→j<S.a8.length∧∃bs d fO,bs.ok S.a8.length=true∧kq bs (st.hp j)=some d∧blk'=fp bs (d++fO):=by
  intro j blk' hj
  rw[C8,gJ] at hj
  obtain ⟨bs,d,fO,m1,m2,m3,m4⟩:=bg [] j blk' hj
  rw[fS] at m3
  exact ⟨(br.1 m1).1,bs,d,fO,m2,m3,m4⟩
 have have': ∀j,j<S.a8.length→∃blk',(bj S (a++b)).hp j=some blk':=by
  intro j hj
  rw[C8,gJ]
  exact ⟨_,bx (by rw[bl];exact hj)⟩
 generalize gC:(bj S (a++b)).hp=tB at*
 let bm:Nat→Option an:=fun id=>if id<S.a8.length then tB id else st.hp id
 have back: ∀j blk',tB j=some blk'→blk'≠ .dead→∃blk,st.hp j=some blk∧blk.le blk'∧(blk'=blk∨∃T ls cs d fO,ls.all (VS.ok S.a8.length)=true∧blk= .var T cs∧pF ls cs=some d∧blk'= .var T (e8 ls (d++fO))):=by
  intro j blk' hj hd
  obtain ⟨b8,bs,d,fO,m1,m2,m3⟩:=get j blk' hj
  cases b9:st.hp j with
  | none=>
   rw[b9] at m2
   cases bs<;>simp only[kq] at m2<;>first|(cases m2;done)|skip
   exact absurd m3 hd
  | some blk=>
   rw[b9] at m2
   obtain ⟨n1,n2⟩:=Xz (rest:=fO) m2 m1
   rw[←m3] at n1 n2
   refine ⟨blk,rfl,n1,?_⟩
   rcases n2 with e|e|⟨T,ls,cs,e1,e2,e3,e4⟩
   ·exact absurd e hd
   ·exact .inl e
   ·subst e1
    exact .inr ⟨T,ls,cs,d,fO,m1,e2,e3,e4⟩
 have XA: ∀j blk,st.hp j=some blk→j<S.a8.length→∃blk',tB j=some blk'∧blk.le blk':=by
  intro j blk hj b8
  obtain ⟨blk',az⟩:=have' j b8
  refine ⟨blk',az,?_⟩
  by_cases hd:blk'= .dead
  ·subst hd;cases blk<;>trivial
  ·obtain ⟨bO,e1,e2,_⟩:=back j blk' az hd
   rw[hj] at e1;cases e1
   exact e2
 have XB: ∀j e es aq e' aH vers',st.hp j=some (.nest e es aq)→tB j=some (.nest e' aH vers')→e'=e∧aH=es∧vers'=aq:=by
  intro j e es aq e' aH vers' hj fZ
  obtain ⟨blk,e1,_,e3⟩:=back j _ fZ (by simp)
  rw[hj] at e1;cases e1
  rcases e3 with e3|⟨_,_,_,_,_,_,e3,_⟩
  ·cases e3;exact ⟨rfl,rfl,rfl⟩
  ·cases e3
 have hle:Le P w I β st.hp w I β bm:=by
  refine ⟨fun _ h=>h,fun _ _=>rfl,fun id blk ab=> ?_,fun _ _ _ _ _ _ _ _=>rfl,Le.rH (fun _ _ _ _ _ _=>rfl) fun id e es aq e' aH vers' ab bB=> ?_⟩
  ·by_cases hl:id<S.a8.length
   ·obtain ⟨blk',e1,e2⟩:=XA id blk ab hl
    exact ⟨blk',by simp only[bm,aj hl];exact e1,e2,fun _=>rfl⟩
   ·exact ⟨blk,by simp only[bm,ai hl];exact ab,an.le_refl _,fun _=>rfl⟩
  ·by_cases hl:id<S.a8.length
   ·simp only[bm,aj hl] at bB
    exact XB _ _ _ _ _ _ _ ab bB
   ·simp only[bm,ai hl] at bB
    rw[ab] at bB;cases bB
    exact ⟨rfl,rfl,rfl⟩
 have iF:zi S.a8.length β bm β tB:=fun id ab=>⟨by simp only[bm,aj ab],rfl⟩
 have vJ: ∀j blk' blk o b,tB j=some blk'→st.hp j=some blk→bt P w o blk' b→bt P w o blk b:=by
  intro j blk' blk o b fZ hj ho
  obtain ⟨bO,e1,_,e3⟩:=back j blk' fZ ho.alive
  rw[hj] at e1;cases e1
  rcases e3 with e3|⟨T,ls,cs,d,fO,_,e3,_,e5⟩
  ·subst e3;exact ho
  ·subst e3;subst e5
   exact .root (by simp) (ho.flat (by simp))
 refine ⟨⟨⟨fun j blk' hj=> ?_,fun j1 j2 b1 b2 b' e1 e2 o1 o2=> ?_,fun j blk b' hj ho=> ?_,hS.h.js⟩,hS.b6,hS.size,hS.new,hS.io⟩,fun k v hv=> ?_,fun μ hp0 aO hE=> ?_,fun j blk' hj hd=> ?_⟩
 ·by_cases hd:blk'= .dead
  ·subst hd;exact .dead
  ·obtain ⟨blk,e1,_,e3⟩:=back j blk' hj hd
   have hr:=hS.h.rel j blk e1
   generalize β j=o at hr
   rcases e3 with e3|⟨T0,ls,cs,d,fO,q1,e3,e4,e5⟩
   ·subst e3
    cases hr with
    | @var xs b' Ca T hb hh hs cJ hx fL=>
     obtain ⟨b8,bs,d,fO,m1,m2,m3⟩:=get j _ hj
     rw[e1] at m2
     cases bs<;>simp only[kq] at m2<;>first|(cases m2;done)|skip
     ·rename_i T0 ls
      simp only[fp] at m3
      obtain ⟨hT,m2⟩:=HQ m2
      obtain ⟨i1,i2,i3⟩:=zk (P:=P) (w:=w) (I:=I) iF m2 m1
      injection m3 with m4 m3
      rw[m3]
      exact .var hb hh (by rw[i2];exact hs) cJ (fun i v y hi hy=>i3 fO i v y (fun x cu=>(hx i v x hi cu).mono hle) hy) fL
     ·simp only[fp] at m3
      cases m3
    | dv hb=>exact .dv hb
    | arr a1 a2 a3 a4 a5 a6 a7=>exact .arr a1 a2 a3 a4 a5 a6 a7
    | dead=>exact absurd rfl hd
    | nest a1 a2 a3=>exact .nest a1 a2 a3
    | map a1 a2 a3 a4 a5 a6 a7=>exact .map a1 a2 a3 a4 a5 a6 a7
   ·subst e3
    subst e5
    cases hr with
    | @var xs b' Ca T hb hh hs cJ hx fL=>
     obtain ⟨i1,i2,i3⟩:=zk (P:=P) (w:=w) (I:=I) iF e4 q1
     exact .var hb hh (by rw[i2];exact hs) cJ (fun i v y hi hy=>i3 fO i v y (fun x cu=>(hx i v x hi cu).mono hle) hy) fL
 ·obtain ⟨c1,x1,_,_⟩:=back j1 b1 e1 o1.alive
  obtain ⟨c2,x2,_,_⟩:=back j2 b2 e2 o2.alive
  exact hS.h.inj j1 j2 c1 c2 b' x1 x2 (vJ _ _ _ _ _ e1 x1 o1) (vJ _ _ _ _ _ e2 x2 o2)
 ·obtain ⟨c1,x1,_,_⟩:=back j blk hj ho.alive
  exact hS.h.own j c1 b' x1 (vJ _ _ _ _ _ hj x1 ho)
 ·change ao P w I β tB v (iS (eT S.bJ (a++b)) k)
  unfold iS
  cases HR:dr (eT S.bJ (a++b)) k with
  | none=>exact .undef
  | some y=>
   obtain ⟨s,d,fO,n1,n2,n3⟩:=(HP h1 aU).2 b HR
   simp only[Option.getD_some,n3]
   exact (HO (P:=P) (w:=w) (I:=I) iF n2 (e6.1 Nt _ n1)).2 fO v (hv.mono hle)
 ·have h3:=hE.trans hle
  refine ⟨h3.c9,h3.b6,fun id blk ab=> ?_,fun id blk blk' b' ab bB hd hb=> ?_,fun id e es aq e' aH vers' b2 q i c t v e1 l ab bB=> ?_⟩
  ·have hl:=aO id blk ab
   obtain ⟨blk',k1,k2,k3⟩:=h3.blk id blk ab
   simp only[bm,aj (show id<S.a8.length by omega)] at k1
   exact ⟨blk',k1,k2,k3⟩
  ·have hl:=aO id blk ab
   exact h3.size id blk blk' b' ab (by simp only[bm,aj (show id<S.a8.length by omega)];exact bB) hd hb
  ·have hl:=aO id _ ab
   exact h3.row id e es aq e' aH vers' b2 q i c t v e1 l ab (by simp only[bm,aj (show id<S.a8.length by omega)];exact bB)
 ·obtain ⟨blk,e1,e2,_⟩:=back j blk' hj hd
  exact ⟨blk,e1,e2,fun o b' ho=>vJ _ _ _ _ _ hj e1 ho⟩
end
section
variable {P:Program} {A:cA} {w w':World} {I I' I2:Nat→Prop} {μ β β':Nat→Option Nat} {hp hp' hp0:Nat→Option an} {C:ag} {B:Nat} {M:Nat→Prop} {w0:Start}
inductive dL (P:Program) (w:World) (β:Nat→Option Nat) (hp:Nat→Option an):Place→Option Nat→an→Prop
 | var {id:Nat} {T:TypeId} {cs HS:List V}:hp id=some (.var T cs)→dL P w β hp (.blk id) (β id) (.var T HS)
 | arr {id:Nat} {e:TypeId} {es:List V}:hp id=some (.arr e es false)→dL P w β hp (.blk id) (β id) (.arr e es false)
 | nest {id:Nat} {e:TypeId} {es:List V} {aq:List Nat}:hp id=some (.nest e es aq)→dL P w β hp (.blk id) (β id) (.nest e es [0,0,0])
 | row {id ver b b':Nat} {path:Path} {e0 e':TypeId} {es l:List V} {aq:List Nat}:hp id=some (.nest e0 es aq)→β id=some b→At P w b e0 es path b' e' l→yw P e'=true→
   0<path.length→path.length≤aq.length→bA aq (path.length-1)=ver→0<l.length→dL P w β hp (.row id ver path) (some b') (.arr e' l false)
 | map {id:Nat} {t:TypeId} {es:List V}:hp id=some (.map t es)→dL P w β hp (.blk id) (β id) (.map t es)
def zl (P:Program) (w:World) (β:Nat→Option Nat) (hp:Nat→Option an) (ρ:List Place) (μ:Nat→Option Nat) (hp0:Nat→Option an):Prop:=
 ∀j p,dP ρ j=some p→∃blk,hp0 j=some blk∧dL P w β hp p (μ j) blk
theorem nY: ∀{l m:List Place} {j:Nat} {p:Place},dP l j=some p→dP (l++m) j=some p
 | [],m,j,p,h=>by cases h
 | a::l,m,0,p,h=>h
 | a::l,m,j+1,p,h=>nY (l:=l) h
theorem lj: ∀{l:List Place} {j:Nat},dP l j=l[j]?
 | [],j=>by simp[dP]
 | a::l,0=>rfl
 | a::l,j+1=>by simp only[dP,lj,List.getElem?_cons_succ]
structure Ext (P:Program) (w:World) (I:Nat→Prop) (β:Nat→Option Nat) (hp:Nat→Option an) (h h':Hand) (d:List V) (u:List (Nat × an)):Prop where
 ds:h'.ds=h.ds++d
 upd:h'.upd=h.upd++u
 Dj: ∀q∈u,yP hp q
 pl: ∃m,h'.pl=h.pl++m
 nodup:(h.pl.map Place.id).Nodup→(h'.pl.map Place.id).Nodup
theorem Ext.refl (h:Hand):Ext P w I β hp h h [] []:=⟨by simp,by simp,by simp,⟨[],by simp⟩,id⟩
theorem Ext.trans {h1 U h3:Hand} {d1 d2:List V} {u1 u2:List (Nat × an)} (a:Ext P w I β hp h1 U d1 u1) (b:Ext P w I β hp U h3 d2 u2):Ext P w I β hp h1 h3 (d1++d2) (u1++u2):=by
 obtain ⟨m1,e1⟩:=a.pl
 obtain ⟨m2,e2⟩:=b.pl
 exact ⟨by rw[b.ds,a.ds,cm],by rw[b.upd,a.upd,cm],fun q hq=>(eh.1 hq).elim (a.Dj q) (b.Dj q),⟨m1++m2,by rw[e2,e1,cm]⟩,fun h=>b.nodup (a.nodup h)⟩
theorem Ext.look {h h':Hand} {d:List V} {u:List (Nat × an)} (a:Ext P w I β hp h h' d u) {j:Nat} {p:Place} (hj:dP h.pl j=some p):dP h'.pl j=some p:=by
 obtain ⟨m,e⟩:=a.pl
 rw[e]
 exact nY hj
theorem Ext.leaf (h:Hand) (x:V):Ext P w I β hp h {h with ds:=h.ds++[x]} [x] []:=⟨rfl,by simp,by simp,⟨[],by simp⟩,id⟩
theorem XC {α:Type} {ρ:List Place} {j:Nat} {p:Place} {k:List Place→Rd α} {r:α} {rd:List Nat} (h:(unify ρ j p k).run C hp=some (r,rd)) (hb: ∃id,p= .blk id∨∃ver path,p= .row id ver path):
  ∃jx,(k jx).run C hp=some (r,rd)∧(∃m,jx=ρ++m)∧dP jx j=some p∧((ρ.map Place.id).Nodup→(jx.map Place.id).Nodup):=by
 unfold unify at h
 cases hc:Nat.blt j ρ.length with
 | true=>
  rw[hc] at h
  obtain ⟨h1,U⟩:=aF h
  refine ⟨ρ,U,⟨[],by simp⟩,?_,id⟩
  unfold LZ at h1
  split at h1
  ·rename_i a b he
   rw[aQ] at h1
   subst h1
   exact he
  ·cases h1
 | false=>
  rw[hc] at h
  obtain ⟨h1,U⟩:=aF h
  simp only[aI,aQ,ki] at h1
  obtain ⟨rfl,h3⟩:=h1
  refine ⟨ρ++[p],U,⟨[p],rfl⟩,?_,fun hn=> ?_⟩
  ·rw[lj];simp
  ·rw[fU,BX]
   refine ⟨hn,by simp,fun a ha b hb=> ?_⟩
   simp only[cO,gy,dW] at hb
   subst hb
   intro e
   subst e
   rw[vG ha] at h3
   cases h3
theorem tC {α:Type} {h:Hand} {j:Nat} {p:Place} {k:List Place→Rd α} {r:α} {rd:List Nat} (hr:(unify h.pl j p k).run C hp=some (r,rd)) (ds:List V):
  ∃jx,(k jx).run C hp=some (r,rd)∧dP jx j=some p∧Ext P w I β hp h {h with pl:=jx,ds:=h.ds++ds} ds []:=by
 obtain ⟨jx,a,b,c,d⟩:=XC hr (by cases p with|blk id=>exact ⟨id,.inl rfl⟩|row id ver path=>exact ⟨id,.inr ⟨ver,path,rfl⟩⟩)
 exact ⟨jx,a,c,⟨rfl,by simp,by simp,b,d⟩⟩
theorem XD {o:Option Nat} {blk:an} {e:TypeId} {id j:Nat} {v:Value} (hv:ao P w I β hp v (.whole e id)) (hl:dL P w β hp (.blk id) o blk) (hj:hp0 j=some blk) (jy:μ j=o):ao P w I' μ hp0 v (.whole e j):=by
 cases hl with
 | var h=>
  cases hv with
  | dQ U=>rw[h] at U;cases U
  | dt U=>rw[h] at U;cases U
  | whole U=>rw[h] at U;cases U
  | dZ U=>rw[h] at U;cases U
 | arr h=>
  cases hv with
  | dQ U=>rw[h] at U;cases U
  | dt U hb=>rw[h] at U;cases U;exact .dt hj (jy.trans hb)
  | whole U hb a b c=>rw[h] at U;cases U;exact .whole hj (jy.trans hb) a b c
  | dZ U=>rw[h] at U;cases U
 | nest h=>
  cases hv with
  | dQ U=>rw[h] at U;cases U
  | dt U=>rw[h] at U;cases U
  | whole U=>rw[h] at U;cases U
  | dZ U hb a b c=>rw[h] at U;cases U;exact .dZ hj (jy.trans hb) a b c
 | map h=>
  cases hv with
  | dQ U=>rw[h] at U;cases U
  | dt U=>rw[h] at U;cases U
  | whole U=>rw[h] at U;cases U
  | dZ U=>rw[h] at U;cases U
theorem XF {o:Option Nat} {blk:an} {t:TypeId} {id j:Nat} {v:Value} (hv:ao P w I β hp v (.cp t id)) (hl:dL P w β hp (.blk id) o blk) (hj:hp0 j=some blk) (jy:μ j=o):ao P w I' μ hp0 v (.cp t j):=by
 cases hv with
 | gZ U=>cases hl<;>(rename_i h;rw[h] at U;cases U)
 | cp U hb=>
  cases hl<;>(rename_i h;rw[h] at U;cases U)
  exact .cp hj (jy.trans hb)
theorem XG {o:Option Nat} {blk:an} {e:TypeId} {id off n j:Nat} {v:Value} (hv:ao P w I β hp v (.sub e id off n)) (hl:dL P w β hp (.blk id) o blk) (hj:hp0 j=some blk) (jy:μ j=o):ao P w I' μ hp0 v (.sub e j off n):=by
 cases hl with
 | var h=>
  cases hv with
  | fJ U=>rw[h] at U;cases U
  | fu U=>rw[h] at U;cases U
  | sub U=>rw[h] at U;cases U
 | arr h=>
  cases hv with
  | fJ U=>rw[h] at U;cases U
  | fu U hb=>rw[h] at U;cases U;exact .fu hj (jy.trans hb)
  | sub U hb a b c=>rw[h] at U;cases U;exact .sub hj (jy.trans hb) a b c
 | nest h=>
  cases hv with
  | fJ U=>rw[h] at U;cases U
  | fu U=>rw[h] at U;cases U
  | sub U=>rw[h] at U;cases U
 | map h=>
  cases hv with
  | fJ U=>rw[h] at U;cases U
  | fu U=>rw[h] at U;cases U
  | sub U=>rw[h] at U;cases U
theorem Nu {o:Option Nat} {blk:an} {id i c j:Nat} {v:Value} (hv:ao P w I β hp v (.ptr id i c)) (hl:dL P w β hp (.blk id) o blk) (hj:hp0 j=some blk) (jy:μ j=o):ao P w I' μ hp0 v (.ptr j i c):=by
 cases hl with
 | @var _ T0 cs HS h=>
  obtain ⟨b,hb,rfl⟩:=hv.gE h (by simp)
  exact ao.ptr (blk:= .var T0 HS) hj (by simp) (jy.trans hb)
 | @arr _ e es h=>
  obtain ⟨b,hb,rfl⟩:=hv.gE h (by simp)
  exact ao.ptr (blk:= .arr e es false) hj (by simp) (jy.trans hb)
 | @nest _ e es aq h=>
  obtain ⟨b,hb,rfl⟩:=hv.gE h (by simp)
  exact ao.ptr (blk:= .nest e es [0,0,0]) hj (by simp) (jy.trans hb)
 | @map _ t es h=>
  obtain ⟨b,hb,rfl⟩:=hv.gE h (by simp)
  exact ao.ptr (blk:= .map t es) hj (by simp) (jy.trans hb)
theorem XH (cC: ∀id blk,hp id=some blk→dI P w I β hp (β id) blk) {id b i c:Nat} {e0 t:TypeId} {es l:List V} {aq:List Nat} {q:Path} {e:TypeId} {v:Value} (ab:hp id=some (.nest e0 es aq)) (hb:β id=some b)
  (ht:P.underlying t=some (.slice e)) (hc:lL P w b e0 es q i c t v (.list e l)) (hl:0<l.length): ∃b1 cap,v= .slice (some ⟨b1,0,none⟩) l.length cap∧cap*P.cellsOf e=bsize w b1∧l.length≤cap∧cap≤maxLen∧At P w b e0 es (q++[(i,c)]) b1 e l:=by
 obtain ⟨b2,e1,m,Ca,T,f,x,n1,n2,n3,n4,n5,n6⟩:=hc
 have hr:=cC _ _ ab
 cases hr with
 | nest az hr hn=>
  rw[hb] at az;cases az
  have hR:=hr _ _ _ _ n1
  obtain ⟨yS,c1,c2,c3⟩:=hR.cells
  rw[n2] at c1
  cases c1
  have td:c<P.cellsOf e1:=by rw[←fb hR.ok];exact (br.1 n4).1
  obtain ⟨v',d1,d2⟩:=c3 i c x t n3 n4 td
  rw[n6] at d1
  cases d1
  rw[n5] at d2
  generalize hy:V.list e l=y at d2
  cases d2 with
  | ft a p=>unfold fm at a;rw[ht] at a;cases a
  | emp hu ha=>cases hy;simp at hl
  | row hu jt aU bU nP=>
   cases hy
   exact ⟨_,_,rfl,aU,bU,nP,n1.snoc n2 n3 n4 ht n5 jt n6⟩
theorem XI (S:aE P w I β hp B M w0) {o:Option Nat} {blk:an} {e:TypeId} {id ver j:Nat} {path:Path} {v:Value} (hv:ao P w I β hp v (.row e id ver path)) (hl:dL P w β hp (.row id ver path) o blk) (hj:hp0 j=some blk) (jy:μ j=o):ao P w I' μ hp0 v (.whole e j):=by
 cases hl with
 | row h hb ha hf h1 U h3 h4=>
  obtain ⟨b2,q,i,c,t,l2,rfl,iB,ht,hc⟩:=hv.L8 h h1 U h3
  rw[hb] at iB;cases iB
  obtain ⟨p1,p2⟩:=GS ha
  have iw:=hc
  obtain ⟨b3,e3,m3,Ca,T,f,x,n1,n2,n3,n4,n5,n6⟩:=iw
  obtain ⟨q1,q2⟩:=Cz n1 n3 n4 ht n5
  rw[p1] at q1
  rw[p2] at q2
  cases q1
  cases q2
  obtain ⟨b1,cap,rfl,m1,m2,m4,m5⟩:=XH S.h.rel h hb ht hc h4
  have:=XJ ha m5
  subst this
  exact .whole hj jy m1 m2 m4
where
 XJ {b b1 b2:Nat} {e e1 e2:TypeId} {es l l2:List V} {q:Path} (h:At P w b e es q b1 e1 l) (U:At P w b e es q b2 e2 l2):b2=b1:=(h.fun U).1
theorem Nw (S:aE P w I β hp B M w0) {α:Type} {l:LS} {x:V} {h:Hand} {k:Hand→Rd α} {r:α} {rd:List Nat} {v:Value} (hr:(Cm P l x h k).run C hp=some (r,rd)) (hv:ao P w I β hp v x):
  ∃h' eG d u,(k h').run C hp=some (r,eG)∧Ext P w I β hp h h' d u∧d.length=l.size∧
   ∀(I':Nat→Prop) (μ:Nat→Option Nat) (hp0:Nat→Option an),(∀b,I b→I' b)→(∀q∈u,∀b,rI P w β hp q.1 b→I' b)→∀ρ m,ρ=h'.pl++m→zl P w β hp ρ μ hp0→∀rest,ao P w I' μ hp0 v (im l (d++rest)):=by
 have plain: ∀{x':V} {iZ:List Nat},(k {h with ds:=h.ds++[x']}).run C hp=some (r,iZ)→l.size=1→(∀I' μ hp0 rest,ao P w I' μ hp0 v (im l ([x']++rest)))→∃h' eG d u,(k h').run C hp=some (r,eG)∧Ext P w I β hp h h' d u∧d.length=l.size∧
   ∀(I':Nat→Prop) (μ:Nat→Option Nat) (hp0:Nat→Option an),(∀b,I b→I' b)→(∀q∈u,∀b,rI P w β hp q.1 b→I' b)→∀ρ m,ρ=h'.pl++m→zl P w β hp ρ μ hp0→∀rest,ao P w I' μ hp0 v (im l (d++rest)):=
  fun hk hs hx=>⟨_,_,_,_,hk,Ext.leaf h _,hs.symm,fun I' μ hp0 _ _ _ _ _ _ rest=>hx I' μ hp0 rest⟩
 have mN: ∀{iZ:List Nat},(k h).run C hp=some (r,iZ)→l.size=0→(∀I' μ hp0 rest,ao P w I' μ hp0 v (im l rest))→∃h' eG d u,(k h').run C hp=some (r,eG)∧Ext P w I β hp h h' d u∧d.length=l.size∧
   ∀(I':Nat→Prop) (μ:Nat→Option Nat) (hp0:Nat→Option an),(∀b,I b→I' b)→(∀q∈u,∀b,rI P w β hp q.1 b→I' b)→∀ρ m,ρ=h'.pl++m→zl P w β hp ρ μ hp0→∀rest,ao P w I' μ hp0 v (im l (d++rest)):=
  fun hk hs hx=>⟨_,_,_,_,hk,Ext.refl h,by simp[hs],fun I' μ hp0 _ _ _ _ _ _ rest=>hx I' μ hp0 rest⟩
 unfold Cm at hr
 cases l with
 | pO=>exact mN hr rfl fun _ _ _ _=> .undef
 | int kd=>
  cases x<;>simp only at hr<;>first|(cases hr;done)|skip
  obtain ⟨h1,U⟩:=aF hr
  simp only[dF] at h1
  subst h1
  obtain rfl:=hv.dJ
  exact plain U rfl fun _ _ _ _=> .int
 | bool=>
  cases x<;>simp only at hr<;>first|(cases hr;done)|skip
  obtain rfl:=hv.jW
  exact plain hr rfl fun _ _ _ _=> .bool
 | str=>
  cases x<;>simp only at hr<;>first|(cases hr;done)|skip
  obtain ⟨s,rfl,hl⟩:=hv.lN
  exact plain hr rfl fun _ _ _ _=> .str hl
 | nilS e=>
  cases x<;>simp only at hr<;>first|(cases hr;done)|skip
  obtain ⟨h1,U⟩:=aF hr
  cases hv with
  | nilS=>exact mN U rfl fun _ _ _ _=> .nilS
 | c8=>
  cases x<;>simp only at hr<;>first|(cases hr;done)|skip
  cases hv with
  | c8=>exact mN hr rfl fun _ _ _ _=> .c8
 | row e j cs=>
  cases x<;>simp only at hr<;>first|(cases hr;done)|skip
  rename_i e' id ver path
  obtain ⟨e0,es,aq,l0,ab,p1,p2,p3,hr⟩:=nO hr
  obtain ⟨h1,U⟩:=aF hr
  simp only[aI,aQ,dN] at h1
  obtain ⟨rfl,nR,XK⟩:=h1
  have:=vV nR
  subst this
  obtain ⟨jx,a,b,c⟩:=tC (P:=P) (w:=w) (I:=I) (β:=β) U (path.map fun p=>dO p.1)
  refine ⟨_,_,path.map fun p=>dO p.1,[],a,c,by simp[LS.size],fun I' μ hp0 i1 i2 ρ m dg cW rest=> ?_⟩
  obtain ⟨blk,k1,k2⟩:=cW j _ (by rw[dg];exact nY b)
  obtain ⟨bb,q,i,cc,t,l,rfl,hb,ht,hc⟩:=hv.L8 ab p1 p2 p3
  have qa:blk= .nest e0 es [0,0,0]∧μ j=β id:=by
   generalize μ j=o at k2
   cases k2 with
   | var h=>rw[ab] at h;cases h
   | arr h=>rw[ab] at h;cases h
   | map h=>rw[ab] at h;cases h
   | nest h=>rw[ab] at h;cases h;exact ⟨rfl,rfl⟩
  obtain ⟨rfl,jy⟩:=qa
  simp only[im,Dh]
  have hq:q.length<3:=by rw[cv,List.length_singleton] at XK;omega
  refine .row k1 (jy.trans hb) (by simpa using hq) ?_ ht hc
  match q.length,hq with
  | 0,_=>rfl
  | 1,_=>rfl
  | 2,_=>rfl
 | cz j cs c=>cases hr
 | B6 k n=>cases hr
 | vb b=>cases hr
 | dh t=>
  cases x<;>simp only at hr<;>first|(cases hr;done)|skip
  obtain ⟨h1,U⟩:=aF hr
  cases hv with
  | dh=>exact mN U rfl fun _ _ _ _=> .dh
 | cp t j=>
  cases x<;>simp only at hr<;>first|(cases hr;done)|skip
  rename_i t' id
  obtain ⟨h1,U⟩:=aF hr
  rw[aQ] at h1
  subst h1
  obtain ⟨jx,a,b,c⟩:=tC (P:=P) (w:=w) (I:=I) (β:=β) U []
  refine ⟨_,_,[],[],a,by simpa using c,rfl,fun I' μ hp0 i1 i2 ρ m dg cW rest=> ?_⟩
  obtain ⟨blk,k1,k2⟩:=cW j _ (by rw[dg];exact nY b)
  exact XF hv k2 k1 rfl
 | list e=>
  obtain ⟨⟨y,u⟩,l1,l2,h1,U⟩:=kA hr
  cases y<;>simp only at U<;>first|(cases U;done)|skip
  rename_i e' es
  obtain ⟨h3,h4⟩:=aF U
  rw[aQ] at h3
  subst h3
  obtain ⟨p1,p2⟩:=CA S.h.rel h1 hv
  exact ⟨_,_,[.list e es],u,h4,⟨rfl,rfl,p1,⟨[],by simp⟩,id⟩,rfl,fun I' μ hp0 i1 i2 _ _ _ _ rest=> .list (p2 I' i1 i2)⟩
 | whole e j=>
  cases x<;>simp only at hr<;>first|(cases hr;done)|skip
  ·rename_i e' id
   obtain ⟨h1,U⟩:=aF hr
   rw[aQ] at h1
   subst h1
   obtain ⟨jx,a,b,c⟩:=tC (P:=P) (w:=w) (I:=I) (β:=β) U []
   refine ⟨_,_,[],[],a,by simpa using c,rfl,fun I' μ hp0 i1 i2 ρ m dg cW rest=> ?_⟩
   obtain ⟨blk,k1,k2⟩:=cW j _ (by rw[dg];exact nY b)
   exact XD hv k2 k1 rfl
  ·rename_i e' id ver path
   obtain ⟨h1,U⟩:=aF hr
   rw[aQ] at h1
   subst h1
   obtain ⟨jx,a,b,c⟩:=tC (P:=P) (w:=w) (I:=I) (β:=β) U []
   refine ⟨_,_,[],[],a,by simpa using c,rfl,fun I' μ hp0 i1 i2 ρ m dg cW rest=> ?_⟩
   obtain ⟨blk,k1,k2⟩:=cW j _ (by rw[dg];exact nY b)
   exact XI S hv k2 k1 rfl
 | sub e j=>
  cases x<;>simp only at hr<;>first|(cases hr;done)|skip
  rename_i e' id o n
  obtain ⟨h1,U⟩:=aF hr
  rw[aQ] at h1
  subst h1
  obtain ⟨jx,a,b,c⟩:=tC (P:=P) (w:=w) (I:=I) (β:=β) U [dO o,dO n]
  refine ⟨_,_,[dO o,dO n],[],a,c,rfl,fun I' μ hp0 i1 i2 ρ m dg cW rest=> ?_⟩
  obtain ⟨blk,k1,k2⟩:=cW j _ (by rw[dg];exact nY b)
  simpa[im,V.nth] using XG (I':=I') hv k2 k1 rfl
 | ptr j=>
  cases x<;>simp only at hr<;>first|(cases hr;done)|skip
  rename_i id i c
  obtain ⟨jx,a,b,c'⟩:=tC (P:=P) (w:=w) (I:=I) (β:=β) hr [dO i,dO c]
  refine ⟨_,_,[dO i,dO c],[],a,c',rfl,fun I' μ hp0 i1 i2 ρ m dg cW rest=> ?_⟩
  obtain ⟨blk,k1,k2⟩:=cW j _ (by rw[dg];exact nY b)
  simpa[im,V.nth] using Nu (I':=I') hv k2 k1 rfl
 | mA j i c=>
  cases x<;>simp only at hr<;>first|(cases hr;done)|skip
  rename_i id i' c'
  obtain ⟨h1,U⟩:=aF hr
  simp only[aI,aQ] at h1
  obtain ⟨rfl,rfl⟩:=h1
  obtain ⟨jx,a,b,c'⟩:=tC (P:=P) (w:=w) (I:=I) (β:=β) U []
  refine ⟨_,_,[],[],a,by simpa using c',rfl,fun I' μ hp0 i1 i2 ρ m dg cW rest=> ?_⟩
  obtain ⟨blk,k1,k2⟩:=cW j _ (by rw[dg];exact nY b)
  exact Nu hv k2 k1 rfl
end
section
variable {P:Program} {A:cA} {w w':World} {I I' I2:Nat→Prop} {μ β β':Nat→Option Nat} {hp hp' hp0:Nat→Option an} {C:ag} {B:Nat} {M:Nat→Prop} {w0:Start}
def lV (P:Program) (w:World) (I:Nat→Prop) (β:Nat→Option Nat) (hp:Nat→Option an) (h':Hand) (u:List (Nat × an)) (K:(Nat→Prop)→(Nat→Option Nat)→(Nat→Option an)→Prop):Prop:=
 ∀(I':Nat→Prop) (μ:Nat→Option Nat) (hp0:Nat→Option an),(∀b,I b→I' b)→(∀q∈u,∀b,rI P w β hp q.1 b→I' b)→∀ρ m,ρ=h'.pl++m→zl P w β hp ρ μ hp0→K I' μ hp0
theorem lV.zm {h h':Hand} {d:List V} {u u':List (Nat × an)} {K:(Nat→Prop)→(Nat→Option Nat)→(Nat→Option an)→Prop} (t:lV P w I β hp h u K) (e:Ext P w I β hp h h' d u'):lV P w I β hp h' (u++u') K:=by
 obtain ⟨m1,e1⟩:=e.pl
 exact fun I' μ hp0 i1 i2 ρ m dg cW=>t I' μ hp0 i1 (fun q hq=>i2 q (eh.2 (.inl hq))) ρ (m1++m) (by rw[dg,e1,cm]) cW
theorem lV.more {h:Hand} {u u':List (Nat × an)} {K:(Nat→Prop)→(Nat→Option Nat)→(Nat→Option an)→Prop} (t:lV P w I β hp h u K):lV P w I β hp h (u'++u) K:=
 fun I' μ hp0 i1 i2 ρ m dg cW=>t I' μ hp0 i1 (fun q hq=>i2 q (eh.2 (.inr hq))) ρ m dg cW
theorem Dk (S:aE P w I β hp B M w0) {α:Type}: ∀{ls:List LS} {xs:List V} {h:Hand} {k:Hand→Rd α} {r:α} {rd:List Nat} {vs:List Value},(vk P ls xs h k).run C hp=some (r,rd)→vs.length=xs.length→
  (∀(j:Nat) v x,vs[j]? =some v→xs[j]? =some x→ao P w I β hp v x)→
  ∃h' eG d u,(k h').run C hp=some (r,eG)∧Ext P w I β hp h h' d u∧d.length=jQ ls∧ls.length=xs.length∧
   lV P w I β hp h' u fun I' μ hp0=> ∀rest,(gT ls (d++rest)).length=xs.length∧∀(j:Nat) v y,vs[j]? =some v→(gT ls (d++rest))[j]? =some y→ao P w I' μ hp0 v y
 | [],[],h,k,r,rd,vs,hr,hl,hv=>⟨h,rd,[],[],hr,Ext.refl h,rfl,rfl,fun I' μ hp0 _ _ _ _ _ _ rest=>⟨rfl,fun j v y _ hy=>by simp[gT] at hy⟩⟩
 | [],_::_,h,k,r,rd,vs,hr,hl,hv=>by cases hr
 | _::_,[],h,k,r,rd,vs,hr,hl,hv=>by cases hr
 | l::ls,x::xs,h,k,r,rd,vs,hr,hl,hv=>by
  cases vs with
  | nil=>simp at hl
  | cons v vs=>
   simp only[vk] at hr
   obtain ⟨h1,iZ,d1,u1,a1,a2,a3,a4⟩:=Nw S hr (hv 0 v x rfl rfl)
   obtain ⟨U,rR,d2,u2,b1,b2,b3,b5,b4⟩:=Dk S a1 (by simpa using hl) (vs:=vs) (fun j v x hj hx=>hv (j+1) v x (by simpa using hj) (by simpa using hx))
   have XL:lV P w I β hp h1 u1 fun I' μ hp0=> ∀rest,ao P w I' μ hp0 v (im l (d1++rest)):=a4
   refine ⟨U,rR,d1++d2,u1++u2,b1,a2.trans b2,by simp only[cv,jQ];omega,by simp[b5],fun I' μ hp0 i1 i2 ρ m dg cW rest=> ?_⟩
   have k1:=(XL.zm b2) I' μ hp0 i1 i2 ρ m dg cW (d2++rest)
   obtain ⟨k2,k3⟩:=b4.more I' μ hp0 i1 i2 ρ m dg cW rest
   simp only[gT]
   rw[show (d1++d2++rest).drop l.size=d2++rest by rw[cm];exact mR a3,cm]
   refine ⟨by simp[k2],fun j v' y hj hy=> ?_⟩
   cases j with
   | zero=>simp at hj hy;subst hj;subst hy;exact k1
   | succ j=>exact k3 j v' y (by simpa using hj) (by simpa using hy)
theorem XM (S:aE P w I β hp B M w0) {α:Type} {s:VS} {x:V} {h:Hand} {k:Hand→Rd α} {r:α} {rd:List Nat} {v:Value} (hr:(yB P s x h k).run C hp=some (r,rd)) (hv:ao P w I β hp v x):
  ∃h' eG d u,(k h').run C hp=some (r,eG)∧Ext P w I β hp h h' d u∧d.length=s.size∧
   lV P w I β hp h' u fun I' μ hp0=> ∀rest,ao P w I' μ hp0 v (ku s (d++rest)):=by
 cases s with
 | one l=>
  simp only[yB] at hr
  obtain ⟨h1,iZ,d1,u1,a1,a2,a3,a4⟩:=Nw S hr hv
  exact ⟨h1,iZ,d1,u1,a1,a2,a3,a4⟩
 | agg ls=>
  cases x<;>simp only[yB] at hr<;>first|(cases hr;done)|skip
  rename_i xs
  obtain ⟨cs,rfl,e1,e2⟩:=hv.kB
  obtain ⟨h1,iZ,d1,u1,a1,a2,a3,a5,a4⟩:=Dk S hr (vs:=cs.toList) (by simpa using e1) (fun j v x hj hx=>e2 j v x (by simpa using hj) hx)
  refine ⟨h1,iZ,d1,u1,a1,a2,a3,fun I' μ hp0 i1 i2 ρ m dg cW rest=> ?_⟩
  obtain ⟨k1,k2⟩:=a4 I' μ hp0 i1 i2 ρ m dg cW rest
  exact .agg (by rw[k1];exact e1) fun j v y hj hy=>k2 j v y (by simpa using hj) hy
 | bc ls=>cases x<;>cases hr
 | pref ts ls=>cases x<;>cases hr
 | fn f a b=>
  cases x<;>simp only[yB] at hr<;>first|(cases hr;done)|skip
  rename_i f' xs ys
  obtain ⟨hc,tD⟩:=aF hr
  clear hr
  rw[aQ] at hc
  subst hc
  cases hv with
  | @fn _ fs cs _ _ q1 q2 q3 q4=>
   obtain ⟨h1,iZ,d1,u1,a1,a2,a3,a5,a4⟩:=Dk S tD (vs:=fs.toList) (by simpa using q1) (fun j v x hj hx=>q2 j v x (by simpa using hj) hx)
   obtain ⟨U,rR,d2,u2,b1,b2,b3,b5,b4⟩:=Dk S a1 (vs:=cs.toList) (by simpa using q3) (fun j v x hj hx=>q4 j v x (by simpa using hj) hx)
   refine ⟨U,rR,d1++d2,u1++u2,b1,a2.trans b2,by simp only[cv,VS.size];omega,fun I' μ hp0 i1 i2 ρ m dg cW rest=> ?_⟩
   obtain ⟨k1,k2⟩:=(a4.zm b2) I' μ hp0 i1 i2 ρ m dg cW (d2++rest)
   obtain ⟨k3,k4⟩:=b4.more I' μ hp0 i1 i2 ρ m dg cW rest
   simp only[ku]
   rw[show (d1++d2++rest).drop (jQ a)=d2++rest by rw[cm];exact mR a3,cm]
   exact .fn (by rw[k1];exact q1) (fun j v y hj hy=>k2 j v y (by simpa using hj) hy) (by rw[k3];exact q3) (fun j v y hj hy=>k4 j v y (by simpa using hj) hy)
theorem HT (S:aE P w I β hp B M w0) {α:Type}: ∀{ls:List VS} {xs:List V} {h:Hand} {k:Hand→Rd α} {r:α} {rd:List Nat} {vs:List Value},(yC P ls xs h k).run C hp=some (r,rd)→vs.length=xs.length→
  (∀(j:Nat) v x,vs[j]? =some v→xs[j]? =some x→ao P w I β hp v x)→
  ∃h' eG d u,(k h').run C hp=some (r,eG)∧Ext P w I β hp h h' d u∧d.length=rB ls∧ls.length=xs.length∧
   lV P w I β hp h' u fun I' μ hp0=> ∀rest,(e8 ls (d++rest)).length=xs.length∧∀(j:Nat) v y,vs[j]? =some v→(e8 ls (d++rest))[j]? =some y→ao P w I' μ hp0 v y
 | [],[],h,k,r,rd,vs,hr,hl,hv=>⟨h,rd,[],[],hr,Ext.refl h,rfl,rfl,fun I' μ hp0 _ _ _ _ _ _ rest=>⟨rfl,fun j v y _ hy=>by simp[e8] at hy⟩⟩
 | [],_::_,h,k,r,rd,vs,hr,hl,hv=>by cases hr
 | _::_,[],h,k,r,rd,vs,hr,hl,hv=>by cases hr
 | l::ls,x::xs,h,k,r,rd,vs,hr,hl,hv=>by
  cases vs with
  | nil=>simp at hl
  | cons v vs=>
   simp only[yC] at hr
   obtain ⟨h1,iZ,d1,u1,a1,a2,a3,a4⟩:=XM S hr (hv 0 v x rfl rfl)
   obtain ⟨U,rR,d2,u2,b1,b2,b3,b5,b4⟩:=HT S a1 (by simpa using hl) (vs:=vs) (fun j v x hj hx=>hv (j+1) v x (by simpa using hj) (by simpa using hx))
   refine ⟨U,rR,d1++d2,u1++u2,b1,a2.trans b2,by simp only[cv,rB];omega,by simp[b5],fun I' μ hp0 i1 i2 ρ m dg cW rest=> ?_⟩
   have k1:=(a4.zm b2) I' μ hp0 i1 i2 ρ m dg cW (d2++rest)
   obtain ⟨k2,k3⟩:=b4.more I' μ hp0 i1 i2 ρ m dg cW rest
   simp only[e8]
   rw[show (d1++d2++rest).drop l.size=d2++rest by rw[cm];exact mR a3,cm]
   refine ⟨by simp[k2],fun j v' y hj hy=> ?_⟩
   cases j with
   | zero=>simp at hj hy;subst hj;subst hy;exact k1
   | succ j=>exact k3 j v' y (by simpa using hj) (by simpa using hy)
def Dl:List BS→Nat
 | []=>0
 | b::l=>b.size+Dl l
theorem Nx: ∀{b:Nat} {e e':TypeId} {es:List V} {v:V},(∀q b' e' m,At P w b e es q b' e' m→iT P w I b' e' m)→∀(path:Path),jO P e path=some e'→lH P e es path=some v→0<v.toList.length→
  ∃b1,At P w b e es path b1 e' v.toList
 | b,e,e',es,v,cD,[],ht,hv,hl=>by
  simp only[jO,dG] at ht
  simp only[lH,dG] at hv
  subst ht;subst hv
  exact ⟨b,.here⟩
 | b,e,e',es,v,cD,(i,c)::q,ht,hv,hl=>by
  simp only[jO] at ht
  simp only[lH] at hv
  obtain ⟨x,hx,hv⟩:=bind_some hv
  cases HU:(jO.yp P e)[c]? with
  | none=>rw[HU] at ht;cases ht
  | some t=>
   rw[HU] at ht
   simp only at ht
   have Dm:(aS P e)[c]? =some t:=HU
   cases hu:P.underlying t with
   | none=>rw[hu] at ht;cases ht
   | some d=>
    rw[hu] at ht
    cases d<;>simp only at ht<;>first|(cases ht;done)|skip
    rename_i e1
    rw[mI Dm] at hv
    have hR:=cD _ _ _ _ .here
    obtain ⟨Ca,c1,c2,c3⟩:=hR.cells
    have td:c<P.cellsOf e:=by rw[←fb hR.ok];exact (br.1 Dm).1
    obtain ⟨u,d1,d2⟩:=c3 i c x t hx Dm td
    rw[d2.rK] at hv
    generalize hy:bH P e x c=y at d2 hv
    cases d2 with
    | ft a p=>unfold fm at a;rw[hu] at a;cases a
    | @emp e2 a cap lT ha=>
     rw[hu] at lT;cases lT
     simp only at hv
     cases q with
     | nil=>simp only[lH,dG] at hv;subst hv;simp[V.toList] at hl
     | cons a q=>simp[lH] at hv
    | @row e2 bS b2 cap lT jt aU bU nP=>
     rw[hu] at lT;cases lT
     simp only at hv
     have dD: ∀{q b' e' aH},At P w b2 e1 bS q b' e' aH→At P w b e es ((i,c)::q) b' e' aH:=fun h=> .step c1 hx Dm hu hy jt d1 h
     obtain ⟨b1,lg⟩:=Nx (fun q b' e' m h=>cD _ _ _ _ (dD h)) q ht hv hl
     exact ⟨b1,dD lg⟩
theorem Ny (S:aE P w I β hp B M w0) {α:Type}: ∀{bs:List BS} {j:Nat} {h:Hand} {k:Hand→Rd α} {r:α} {rd:List Nat},(pQ P bs j h k).run C hp=some (r,rd)→
  ∃h' eG d u,(k h').run C hp=some (r,eG)∧Ext P w I β hp h h' d u∧d.length=Dl bs∧
   ∀rest,(ej bs (d++rest)).length=bs.length∧∃o:Nat→Option Nat,
    (∀(i:Nat) blk,(ej bs (d++rest))[i]? =some blk→∃p,dP h'.pl (j+i)=some p∧dL P w β hp p (o i) blk)∧
    lV P w I β hp h' u fun I' μ hp0=> ∀(i:Nat) blk,(ej bs (d++rest))[i]? =some blk→(∀b,bt P w (o i) blk b→¬I' b)→dI P w I' μ hp0 (o i) blk
 | [],j,h,k,r,rd,hr=>⟨h,rd,[],[],hr,Ext.refl h,rfl,fun rest=>⟨rfl,fun _=>none,fun i blk hb=>by simp[ej] at hb,fun I' μ hp0 _ _ _ _ _ _ i blk hb=>by simp[ej] at hb⟩⟩
 | b::bs,j,h,k,r,rd,hr=>by
  simp only[pQ] at hr
  have fin: ∀{h1:Hand} {iZ:List Nat} {d1:List V} {u1:List (Nat × an)} {o1:Option Nat} {p:Place},(pQ P bs (j+1) h1 k).run C hp=some (r,iZ)→Ext P w I β hp h h1 d1 u1→d1.length=b.size→dP h.pl j=some p→
    (∀rest,dL P w β hp p o1 (fp b (d1++rest)))→(∀rest,lV P w I β hp h1 u1 fun I' μ hp0=>(∀bb,bt P w o1 (fp b (d1++rest)) bb→¬I' bb)→dI P w I' μ hp0 o1 (fp b (d1++rest)))→
    ∃h' eG d u,(k h').run C hp=some (r,eG)∧Ext P w I β hp h h' d u∧d.length=Dl (b::bs)∧
     ∀rest,(ej (b::bs) (d++rest)).length=(b::bs).length∧∃o:Nat→Option Nat,
      (∀(i:Nat) blk,(ej (b::bs) (d++rest))[i]? =some blk→∃p,dP h'.pl (j+i)=some p∧dL P w β hp p (o i) blk)∧
      lV P w I β hp h' u fun I' μ hp0=> ∀(i:Nat) blk,(ej (b::bs) (d++rest))[i]? =some blk→(∀b,bt P w (o i) blk b→¬I' b)→dI P w I' μ hp0 (o i) blk:=by
   intro h1 iZ d1 u1 o1 p hk he hd bm hl ht
   obtain ⟨U,rR,d2,u2,b1,b2,b3,b4⟩:=Ny S hk
   refine ⟨U,rR,d1++d2,u1++u2,b1,he.trans b2,by simp only[cv,Dl];omega,fun rest=> ?_⟩
   obtain ⟨c1,o,c2,c3⟩:=b4 rest
   simp only[ej]
   rw[show (d1++d2++rest).drop b.size=d2++rest by rw[cm];exact mR hd,cm]
   refine ⟨by simp[c1],fun i=>match i with|0=>o1|i+1=>o i,fun i blk hb=> ?_,fun I' μ hp0 i1 i2 ρ m dg cW i blk hb cJ=> ?_⟩
   ·cases i with
    | zero=>
     simp at hb
     subst hb
     exact ⟨p,b2.look (he.look bm),hl _⟩
    | succ i=>
     obtain ⟨q,e1,e2⟩:=c2 i blk (by simpa using hb)
     exact ⟨q,by rw[show j+(i+1)=j+1+i by omega];exact e1,e2⟩
   ·cases i with
    | zero=>
     simp at hb
     subst hb
     exact ((ht _).zm b2) I' μ hp0 i1 i2 ρ m dg cW cJ
    | succ i=>exact c3.more I' μ hp0 i1 i2 ρ m dg cW i blk (by simpa using hb) cJ
  cases bm:dP h.pl j with
  | none=>rw[bm] at hr;cases hr
  | some p=>
   rw[bm] at hr
   cases p with
   | blk id=>
    obtain ⟨l1,hr⟩:=run_get hr
    cases ab:hp id with
    | none=>rw[ab] at hr;cases hr
    | some blk=>
     rw[ab] at hr
     cases blk with
     | dead=>cases hr
     | var T0 cs=>
      cases b<;>simp only at hr<;>first|(cases hr;done)|skip
      rename_i T1 ss
      obtain ⟨hT,XN⟩:=aF hr
      clear hr
      rw[aQ] at hT
      subst hT
      have cC:=S.h.rel id _ ab
      generalize ho:β id=o at cC
      cases cC with
      | @var _ bb Ca T hb hh hs hI hx fL=>
       obtain ⟨h1,iZ,d1,u1,a1,a2,a3,a5,a4⟩:=HT S XN (vs:=Ca.toList) (by simpa using hs) (fun j v x hj cu=>hx j v x (by simpa using hj) cu)
       refine fin (o1:=β id) a1 a2 a3 bm (fun rest=> .var ab) fun rest I' μ hp0 i1 i2 ρ m dg cW cJ=> ?_
       obtain ⟨k1,k2⟩:=a4 I' μ hp0 i1 i2 ρ m dg cW rest
       exact .var (ho.trans hb) hh (by rw[k1];exact hs) (cJ _ (.root (by simp[fp]) (ho.trans hb))) (fun i v y hi hy=>k2 i v y (by simpa using hi) hy) fL
     | arr e' es fz=>
      cases fz with
      | true=>cases hr
      | false=>
       cases b with
       | arr e fz=>
        cases fz with
        | true=>cases hr
        | false=>
         obtain ⟨hc,tD⟩:=aF hr
         clear hr
         rw[aQ] at hc
         subst hc
         refine fin (d1:=[.list e es]) (o1:=β id) tD (Ext.leaf h _) rfl bm (fun rest=>dL.arr ab) fun rest I' μ hp0 i1 i2 ρ m dg cW cJ=> ?_
         change dI P w I' μ hp0 (β id) (.arr e es false)
         have cC:=S.h.rel id _ ab
         generalize ho:β id=o at cC cJ⊢
         cases cC with
         | dv hb=>exact .dv hb
         | arr a1 a2 a3 a4 a5 a6 a7=>
          refine .arr a1 a2 a3 a4 (fun h=>by cases h) (fun _=>cJ _ (.root (by simp[fp]) a2)) fun i j x t' y1 y2 y3=> ?_
          obtain ⟨v,z1,z2⟩:=a7 i j x t' y1 y2 y3
          exact ⟨v,z1,z2.mono i1 fun _ _=>rfl⟩
       | _=>cases hr
     | nest e' es aq=>
      cases b with
      | nest e=>
       obtain ⟨hc,tD⟩:=aF hr
       clear hr
       rw[aQ] at hc
       subst hc
       refine fin (d1:=[.list e es]) (o1:=β id) tD (Ext.leaf h _) rfl bm (fun rest=>dL.nest ab) fun rest I' μ hp0 i1 i2 ρ m dg cW cJ=> ?_
       have Nz: ∀bb,bt P w (β id) (.nest e es [0,0,0]) bb→¬I' bb:=cJ
       change dI P w I' μ hp0 (β id) (.nest e es [0,0,0])
       have cC:=S.h.rel id _ ab
       generalize ho:β id=o at cC Nz⊢
       cases cC with
       | nest hb cD nS=>
        refine .nest hb (fun q b' e1 m1 hq=> ?_) nS
        obtain ⟨ok,⟨Ca,c1,c2,c3⟩,nI⟩:=cD q b' e1 m1 hq
        refine ⟨ok,⟨Ca,c1,c2,fun i j x t' y1 y2 y3=> ?_⟩,Nz _ (.row hb hq)⟩
        obtain ⟨v,z1,z2⟩:=c3 i j x t' y1 y2 y3
        exact ⟨v,z1,z2.mono i1 (fun _ _=>rfl) fun _ _ _ _ _=>rfl⟩
      | _=>cases hr
     | map t' es=>
      cases b with
      | map t=>
       obtain ⟨hc,tD⟩:=aF hr
       clear hr
       rw[aQ] at hc
       subst hc
       refine fin (d1:=[.list t es]) (o1:=β id) tD (Ext.leaf h _) rfl bm (fun rest=>dL.map ab) fun rest I' μ hp0 i1 i2 ρ m dg cW cJ=> ?_
       change dI P w I' μ hp0 (β id) (.map t es)
       have cC:=S.h.rel id _ ab
       generalize ho:β id=o at cC cJ⊢
       cases cC with
       | map a1 a2 a3 a4 a5 a6 a7=>exact .map a1 a2 a3 a4 (cJ _ (.root (by simp[fp]) a2)) a6 a7
      | _=>cases hr
   | row id ver path=>
    obtain ⟨e0,es,aq,l1,k1,k2,k3,k4,k5⟩:=nO hr
    obtain ⟨e',vv,m1,m2,m3⟩:=vw k5
    cases b with
    | arr e fz=>
     cases fz with
     | true=>cases m3
     | false=>
      obtain ⟨hc,m4⟩:=aF m3
      clear m3
      simp only[aI,aQ,jK] at hc
      obtain ⟨rfl,zn,jt⟩:=hc
      have cC:=S.h.rel id _ k1
      cases hb:β id with
      | none=>
       rw[hb] at cC
       cases cC with
       | nest az _ _=>cases az
      | some b0=>
       rw[hb] at cC
       cases cC with
       | nest az cD nS=>
        cases az
        obtain ⟨b1,da⟩:=Nx cD path m1 m2 jt
        refine fin (d1:=[.list e vv.toList]) (o1:=some b1) m4 (Ext.leaf h _) rfl bm (fun rest=>dL.row k1 hb da zn k2 k3 k4 jt) fun rest I' μ hp0 i1 i2 ρ m dg cW cJ=> ?_
        change dI P w I' μ hp0 (some b1) (.arr e vv.toList false)
        obtain ⟨ok,⟨Ca,c1,c2,c3⟩,nI⟩:=cD _ _ _ _ da
        refine .arr ok rfl c1 c2 (fun h=>by cases h) (fun _=>cJ _ (.root (by simp[fp]) rfl)) fun i j x t' y1 y2 y3=> ?_
        obtain ⟨v,z1,z2⟩:=c3 i j x t' y1 y2 y3
        refine ⟨v,z1,?_⟩
        generalize bH P e x j=y at z2⊢
        cases z2 with
        | ft _ p=>exact p.mono i1 fun _ _=>rfl
        | emp hu _=>exact absurd hu (NA zn y2 _)
        | row hu _ _ _ _=>exact absurd hu (NA zn y2 _)
    | _=>cases m3
where
 NA {e t:TypeId} {j:Nat} (h:yw P e=true) (ht:(aS P e)[j]? =some t) (e':TypeId):P.underlying t≠some (.slice e'):=by
  intro hu
  have U:=e6.1 h t (jm ht)
  rw[hu] at U
  cases U
end
end Go.AM
