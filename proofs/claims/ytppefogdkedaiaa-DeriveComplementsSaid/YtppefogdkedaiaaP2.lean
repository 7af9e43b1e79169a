/-
  Functions of the program, lifted to plain data.
-/
import Derived.Great.BuildSlice
import Derived.Maps.Keyed
import Derived.WideKeyArr
import Derived.MapKept
import Derived.ChangeMaps4
import Derived.Carry
import Derived.Lib.AppendStr
import Derived.Laws.BytesString
import Derived.Lib.Builder
import Derived.Lib.UnsafeStr
import Derived.Test.YtppefogdkedaiaaP1
set_option linter.unusedVariables false
set_option linter.unusedSimpArgs false
namespace Go.AM
section
variable {P:Program} {w w':World} {I I':Nat→Prop} {β β':Nat→Option Nat} {hp hp':Nat→Option an} {C:ag} {B:Nat} {M:Nat→Prop} {w0:Start}
theorem U7 (S:aE P w I β hp B M w0) {t:TypeId} {a v:Value} {xa x:V} {r:R} {rd:List Nat} (ha:ao P w I β hp a xa) (hv:ao P w I β hp v x)
  (h:(Fw P t xa x).run C hp=some (r,rd)):oG P ((Instr.storeAt t a v).run P w) w I β hp B M w0 r:=by
 unfold Fw at h
 obtain ⟨h0,h⟩:=aF h
 simp only[aI,aP] at h0
 obtain ⟨ht,hn⟩:=h0
 cases xa with
 | ptr id i c=>
  obtain ⟨l,h⟩:=run_get h
  cases ab:hp id with
  | none=>rw[ab] at h;cases h
  | some blk=>
   rw[ab] at h
   cases blk with
   | dead=>cases h
   | var T0 cs=>
    obtain ⟨Ly,h⟩:=aF h
    have lE:ox P T0=true→0<c:=fun bS=>by
     rw[bS] at Ly
     simpa using Ly
    obtain ⟨b,hb,rfl⟩:=ha.gu ab (by simp)
    simp only[an.sz,Nat.mul_zero,gj]
    cases oF:(xH P t cs&&ep P t x) with
    | true=>
     dsimp only at h
     rw[oF] at h
     simp only[cond_true] at h
     obtain ⟨hc,h⟩:=aF h
     obtain rfl:=aM h
     simp only[aI,jv] at hc oF
     obtain ⟨o1,o2⟩:=Lq hv oF.2
     have kU:=UL oF.2
     refine Lo S ab hb ht hn (by rw[o2,kU];rfl) lE (fun j u y hu hy=> ?_) (by rw[o2];simp[o1]) (by rw[kU];simp;omega) (Ln _ _ _ _) (fun j y hy hj u hu=> ?_) (fun j y hy hj u hu=> ?_)
     ·rw[o2] at hu
      rw[kU] at hy
      cases j with
      | zero=>simp at hu hy;subst hu;subst hy;exact hv
      | succ j=>simp at hy
     ·rw[F9] at hy
      cases vd:cs[j]? with
      | none=>rw[vd] at hy;cases hy
      | some y0=>
       rw[vd] at hy
       simp only[Option.map_some,dC] at hy
       rw[kU] at hj
       simp only[List.length_singleton] at hj
       have bt:Nat.beq c (0+j)=false:=by
        cases hq:Nat.beq c (0+j) with
        | false=>rfl
        | true=>rw[aP] at hq;omega
       rw[bt] at hy
       have:=La (c:=false) hv (hu y0 vd)
       rw[←hy]
       simpa using this
     ·rw[kU] at hj hu
      have U8:j=0:=by simpa using hj
      subst U8
      rw[F9] at hy
      cases vd:cs[c+0]? with
      | none=>rw[vd] at hy;cases hy
      | some y0=>
       rw[vd] at hy
       simp only[Option.map_some,dC] at hy
       have heq:Nat.beq c (0+(c+0))=true:=by rw[aP];omega
       rw[heq] at hy
       have U:ao P w I β hp u x:=hu x rfl
       have:qW true x y0=x:=UM x y0
       rw[←hy,this]
       exact U
    | false=>
     dsimp only at h
     rw[oF] at h
     simp only[cond_false] at h
     obtain ⟨hc,h⟩:=aF h
     simp only[aI,dK] at hc
     obtain ⟨e1,e2⟩:=F7 hv h
     obtain ⟨h1,l2,h⟩:=B5 h (vs:=v.cells.toList) (by simpa using e1) (fun j u y a b=>e2 j u y (by simpa using a) b)
     obtain rfl:=aM h
     refine Lo S ab hb ht hn e1 lE e2 h1 hc.2 (yo _ _ _ hc.2) (fun j y hy hj u hu=> ?_) (fun j y hy hj u hu=> ?_)
     ·unfold ff at hy
      rw[mG _ _ _ _ hc.2] at hy
      rcases hj with hj|hj
      ·rw[ak hj] at hy;exact hu y hy
      ·rw[ai (by omega),ai (by omega)] at hy;exact hu y hy
     ·unfold ff at hy
      rw[mG _ _ _ _ hc.2,ai (by omega),ak (by omega)] at hy
      rw[show c+j-c=j by omega] at hy
      exact hu y hy
   | arr e es fz=>
    cases fz with
    | true=>cases h
    | false=>
    obtain ⟨b,hb,rfl⟩:=ha.gu ab (by simp)
    obtain ⟨au,h⟩:=aF h
    obtain ⟨⟨ys,fr⟩,l1,l2,bh,h⟩:=kj h
    obtain ⟨hc,h⟩:=aF h
    obtain ⟨x0,p9,h⟩:=kS h
    obtain rfl:=aM h
    simp only[aI,mi,dK] at hc
    obtain ⟨dt,U9,ib⟩:=hc
    have oI:v.cells.size=x.cells.length∧∀(j:Nat) u y,v.cells.toList[j]? =some u→x.cells[j]? =some y→ao P w I β hp u y:=by
     cases x with
     | agg xs=>
      obtain ⟨cs,rfl,h1,U⟩:=hv.km
      exact ⟨h1,fun j u y a b=>U j u y (by simpa[Value.cells] using a) b⟩
     | _=>
      simp only[V.cells] at bh ib⊢
      simp only[qV] at bh
      obtain ⟨⟨y1,u1⟩,l3,l4,hq,bh⟩:=kj bh
      obtain ⟨q1,q2⟩:=BQ S.h.rel hq hv
      obtain ⟨⟨y2,u2⟩,l5,l6,yz,bh⟩:=kj bh
      cases yz
      have:=aM bh
      cases this
      obtain ⟨tl,tg⟩:=sU ib
      have e6:=tg 0 _ y1 (bq (by rw[tl];exact Nat.one_pos)) rfl
      have bL:=q2 (ig P w I β hp u1) (fun _ h=> .inl h) (fun p hp b h=> .inr ⟨p,hp,h⟩)
      have ho:=bL.pure e6
      have Gn:v.cells= #[v]:=by cases ho<;>rfl
      rw[Gn]
      refine ⟨rfl,fun j u y hu hy=> ?_⟩
      cases j with
      | zero=>simp at hu hy;subst hu;subst hy;exact hv
      | succ j=>simp at hy
    obtain ⟨k1,k2,k3⟩:=F1 S.h.rel bh (vs:=v.cells.toList) (by simpa using oI.1) oI.2
    obtain ⟨p7,S1⟩:=yh S k2
    have yx:bB hp fr id=some (.arr e es false):=by
     rcases sN (hp:=hp) (l:=fr) (id:=id) with h|⟨b',hm,_⟩
     ·exact h.trans ab
     ·exfalso
      have Va:jy (fr.map (·.1)) id=true:=u6 (fP.2 ⟨_,hm,rfl⟩)
      rw[Va] at dt;cases dt
    have LA:=k3 (ig P w I β hp fr) (fun _ h=> .inl h) (fun p hp b h=> .inr ⟨p,hp,h⟩)
    obtain ⟨tl,tg⟩:=sU ib
    have uZ:=(jG au).1
    have sX:ys.length=v.cells.size:=by rw[k1,oI.1]
    have hcn:c+v.cells.size≤P.cellsOf e:=by rw[oI.1];exact U9
    have hr:=S1.h.rel id _ yx
    cases hr with
    | dr ay=>simp at p9
    | @arr _ _ _ b' Ca yn ay hh hs hf dO hx=>
     rw[hb] at ay
     cases ay
     have kV:i<es.length:=(bj.1 p9).1
     have hbound:i*P.cellsOf e+P.cellsOf e≤Ca.size:=by
      have:(i+1)*P.cellsOf e≤es.length*P.cellsOf e:=dk _ kV
      rw[c7] at this
      omega
     simp only[an.sz]
     have rr:i*P.cellsOf e+c+v.cells.size≤Ca.size:=by omega
     have cD: ¬ig P w I β hp fr b:=dO rfl
     have h1: ∀u∈v.cells.toList,u.oneCell'=true:=by
      intro u hu
      obtain ⟨j,hj⟩:=qP hu
      have bR:j<ys.length:=by rw[sX];simpa using (bj.1 hj).1
      have nM:j<(((flat P e).drop c).take x.cells.length).length:=by rw[tl];exact bR
      exact (LA j u ys[j] hj (bq bR)).one (tg j _ ys[j] (bq nM) (bq bR))
     have cK:=F8 (t:=t) (o:=i*P.cellsOf e+c) (v:=v) ht (by rw[oI.1];exact hn.symm) hh rr h1
     have hlen:(Ca.toList.take (i*P.cellsOf e+c)++(v.cells.toList++Ca.toList.drop (i*P.cellsOf e+c+v.cells.toList.length))).length=Ca.size:=by
      rw[yo _ _ _ (by simpa using rr)];simp
     have bL:(parts P e x0).length=P.cellsOf e:=by rw[u4];exact eZ au
     have yp:=B6 S1 (blk':= .arr e (es.set i (cd P e (ff (parts P e x0) c ys))) false)
      (Cb:=(Ca.toList.take (i*P.cellsOf e+c)++(v.cells.toList++Ca.toList.drop (i*P.cellsOf e+c+v.cells.toList.length))).toArray) yx (by simp) ⟨rfl,by simp⟩ hb cD (by simp) hh (by simpa using hlen)
      (fun hle eu=> .arr au rfl eu (by simp only[pt,nr];omega) (fun h=>by cases h) (fun _=>cD) fun i' j z t' hz nM hj=>by
       simp only[mj]
       rw[mG _ _ _ _ (by simpa using rr)]
       simp only[Array.length_toList]
       rw[List.getElem?_set] at hz
       by_cases im:i=i'
       ·subst im
        rw[ak rfl,ak kV] at hz
        cases hz
        have Ch:j<(parts P e x0).length:=by omega
        have sY:(ff (parts P e x0) c ys)[j]? =if j<c then (parts P e x0)[j]? else if j<c+ys.length then ys[j-c]? else (parts P e x0)[j]? :=by
         unfold ff;exact mG _ _ _ _ (by omega)
        by_cases pW:j<c
        ·rw[ak (by omega)]
         rw[ak pW] at sY
         obtain ⟨u,t2,a1,a2,a3⟩:=B0 hx au p9 (bq Ch)
         rw[nM] at a1;cases a1
         refine ⟨u,by simpa using a2,?_⟩
         rw[pY (sY.trans (bq Ch)) nM]
         exact a3.mono hle.cY hle.bQ
        ·rw[ai pW] at sY
         by_cases fI:j<c+ys.length
         ·rw[ak fI] at sY
          rw[ai (by omega),ak (by omega)]
          have oJ:j-c<ys.length:=by omega
          have LB:j-c<v.cells.toList.length:=by simp;omega
          have af3:j-c<v.cells.size:=by omega
          refine ⟨v.cells.toList[j-c],?_,?_⟩
          ·rw[show i*P.cellsOf e+j-(i*P.cellsOf e+c)=j-c by omega]
           exact bq LB
          ·rw[pY (sY.trans (bq oJ)) nM]
           have Vb:(((flat P e).drop c).take x.cells.length)[j-c]? =some t':=by
            rw[eD (by omega),gF,show c+(j-c)=j by omega,←rn]
            exact nM
           exact ((LA (j-c) _ ys[j-c] (bq LB) (bq oJ)).pure (tg (j-c) t' ys[j-c] Vb (bq oJ))).mono hle.cY hle.bQ
         ·rw[ai fI] at sY
          rw[ai (by omega),ai (by omega)]
          obtain ⟨u,t2,a1,a2,a3⟩:=B0 hx au p9 (bq Ch)
          rw[nM] at a1;cases a1
          refine ⟨u,by simpa using a2,?_⟩
          rw[pY (sY.trans (bq Ch)) nM]
          exact a3.mono hle.cY hle.bQ
       ·rw[ai im] at hz
        obtain ⟨u,a2,a3⟩:=hx i' j z t' hz nM hj
        have bt:i'*P.cellsOf e+j<i*P.cellsOf e+c∨i*P.cellsOf e+c+v.cells.size≤i'*P.cellsOf e+j:=by
         rcases ot i' i with aL|oK
         ·left
          have:(i'+1)*P.cellsOf e≤i*P.cellsOf e:=dk _ aL
          rw[c7] at this
          omega
         ·right
          have:(i+1)*P.cellsOf e≤i'*P.cellsOf e:=dk _ (by omega)
          rw[c7] at this
          omega
        refine ⟨u,?_,a3.mono hle.cY hle.bQ⟩
        rcases bt with bt|bt
        ·rw[ak bt];simpa using a2
        ·rw[ai (by omega),ai (by omega)];simpa using a2)
     exact ⟨_,_,_,cK,p7.trans yp.1,yp.2,rfl⟩
   | map _ _=>cases h
   | nest e es aq=>
    obtain ⟨b,hb,rfl⟩:=ha.gu ab (by simp)
    exact Lx S ht hn hv ab hb .here h
 | cl id ver path i c=>
  obtain ⟨e0,es,aq,l,ab,h1,U,h3,h⟩:=nG h
  obtain ⟨b,b1,e1,l1,hb,cZ,rfl⟩:=ha.K7 ab h1 U h3
  exact Lx S ht hn hv ab hb cZ h
 | _=>cases h
end
section
variable {P:Program} {w w':World} {I I':Nat→Prop} {β β':Nat→Option Nat} {hp hp':Nat→Option an} {C:ag} {B:Nat} {M:Nat→Prop} {w0:Start}
theorem Gp: ∀{ts:List TypeId} {vs:List Value} {j:Nat} {y:V},(iH P ts vs)[j]? =some y→∃t v,ts[j]? =some t∧vs[j]? =some v∧y=ow P t v
 | [],vs,j,y,h=>by simp[iH] at h
 | _::_,[],j,y,h=>by simp[iH] at h
 | t::ts,v::vs,0,y,h=>by simp[iH] at h;exact ⟨t,v,rfl,rfl,h.symm⟩
 | t::ts,v::vs,j+1,y,h=>by
  simp only[iH,List.getElem?_cons_succ] at h
  obtain ⟨t',v',a,b,c⟩:=Gp h
  exact ⟨t',v',by simpa using a,by simpa using b,c⟩
theorem LC: ∀{ts:List TypeId} {vs:List Value},ts.length=vs.length→(iH P ts vs).length=vs.length
 | [],[],_=>rfl
 | [],_::_,h=>by simp at h
 | _::_,[],h=>by simp at h
 | t::ts,v::vs,h=>by simp[iH,LC (ts:=ts) (vs:=vs) (by simpa using h)]
theorem jK {e:TypeId} (h:cH P e=true): ∃i z,P.info? e=some i∧i.zero=some z∧i.size=P.cellsOf e∧z.cells.size=P.cellsOf e∧zeroCells P e=iH P (flat P e) z.cells.toList:=by
 unfold cH at h
 simp only[aI,aP,jv] at h
 obtain ⟨h1,U,_,h3⟩:=h
 cases hi:P.info? e with
 | none=>rw[hi] at h3;cases h3
 | some i=>
  rw[hi] at h3
  simp only[Option.bind_some] at h3
  cases hz:i.zero with
  | none=>rw[hz] at h3;cases h3
  | some z=>
   rw[hz] at h3
   simp only[aP] at h3
   exact ⟨i,z,rfl,hz,by simp[Program.cellsOf,hi],h3,by simp[zeroCells,hi,hz]⟩
theorem LD {e:TypeId} (h:cH P e=true): ∃i z,P.info? e=some i∧i.zero=some z∧z.cells.size=(zeroCells P e).length∧z.cells.size=P.cellsOf e∧
  ∀(j:Nat) v x,z.cells[j]? =some v→(zeroCells P e)[j]? =some x→ao P w I β hp v x:=by
 obtain ⟨i,z,h1,U,h3,h4,h5⟩:=jK h
 have hl:(flat P e).length=z.cells.toList.length:=by rw[(jG h).1];simpa using h4.symm
 refine ⟨i,z,h1,U,?_,h4,fun j v x hv hx=> ?_⟩
 ·rw[h5,LC hl];simp
 ·rw[h5] at hx
  obtain ⟨t,v',_,pX,rfl⟩:=Gp hx
  have:v'=v:=by
   have e1:z.cells[j]? =some v':=by simpa using pX
   rw[hv] at e1;exact (cU e1).symm
  subst this
  exact ao.const t v'
theorem mH {nb:Nat} {b:an} {v:V} {upd:List (Nat × an)} {r:R} {rd:List Nat} (h:(iI nb b v upd).run C hp=some (r,rd)):hp nb=none∧r=⟨v,(nb,b)::upd⟩:=by
 obtain ⟨l,h⟩:=run_get h
 cases hn:hp nb with
 | none=>rw[hn] at h;exact ⟨rfl,(aM h).symm⟩
 | some x=>rw[hn] at h;cases h
theorem LF (S:aE P w I β hp B M w0) {nb:Nat} {xs:List V} {C0:Array Value} {T:TypeId} (hn:hp nb=none) (hs:C0.size=xs.length)
  (hx: ∀(j:Nat) v x,C0[j]? =some v→xs[j]? =some x→ao P w I β hp v x) (fG:K2 P w.heap.size T C0):
  Le P w I β hp (w.alloc (.cells C0 T)) I (aG β nb (some w.heap.size)) (aG hp nb (some (.var T xs)))∧aE P (w.alloc (.cells C0 T)) I (aG β nb (some w.heap.size)) (aG hp nb (some (.var T xs))) B M w0∧
  ao P (w.alloc (.cells C0 T)) I (aG β nb (some w.heap.size)) (aG hp nb (some (.var T xs))) (.pointer (some ⟨w.heap.size,0,none⟩)) (.ptr nb 0 0):=by
 obtain ⟨h1,U⟩:=F3 S (blk:= .var T xs) (c:=C0) (T:=T) hn (fun b' h=>(cU (h.flat (by simp))).symm) (fun hle eu cD=> .var rfl eu hs cD (fun j v x a b=>(hx j v x a b).mono hle) fG)
 refine ⟨h1,U,?_⟩
 have:=ao.ptr (P:=P) (w:=w.alloc (.cells C0 T)) (I:=I) (β:=aG β nb (some w.heap.size)) (hp:=aG hp nb (some (.var T xs))) (i:=0) (c:=0) (blk:= .var T xs) (cJ _ _ _) (by simp) (cJ _ _ _)
 simpa using this
theorem Vc (S:aE P w I β hp B M w0) {e:TypeId} {nb:Nat} {r:R} {rd:List Nat}
  (h:(Rd.aB (cH P e&&(!(ox P e)||KX (zeroCells P e))) (iI nb (.var e (zeroCells P e)) (.ptr nb 0 0) [])).run C hp=some (r,rd)):cM P ((Instr.alloc e true (.tuple #[])).run P w) w I β hp B M w0 r:=by
 obtain ⟨au,h⟩:=aF h
 rw[aI] at au
 obtain ⟨au,lE⟩:=au
 obtain ⟨hn,rfl⟩:=mH h
 obtain ⟨i,z,h1,U,h3,h4,h5⟩:=LD (w:=w) (I:=I) (β:=β) (hp:=hp) au
 obtain ⟨a,b,c⟩:=LF S (T:=e) hn h3 h5 fun bS=>by
  rw[bS,pw,Bool.false_or] at lE
  cases hz:zeroCells P e with
  | nil=>rw[hz] at lE;cases lE
  | cons y l=>
   rw[hz] at lE h3 h5
   cases y<;>first|(cases lE;done)|skip
   have aL:0<z.cells.size:=by rw[h3];simp
   have:=h5 0 z.cells[0] .c9 (j8 aL) rfl
   left
   rw[j8 aL]
   generalize z.cells[0]=u at this
   cases this;rfl
 exact ⟨_,_,_,_,by simp[Instr.alloc,zeroValue,typeInfo,h1,U,newVar,newRow],a,b,c⟩
theorem Vd (S:aE P w I β hp B M w0) {e:TypeId} {nb:Nat} {x:V} {v:Value} {r:R} {rd:List Nat} (hv:ao P w I β hp v x)
  (h:(Rd.aB (!(ox P e)) <| kM x.cells (iI nb (.var e x.cells) (.ptr nb 0 0) [])).run C hp=some (r,rd)):cM P ((Instr.box e v).run P w) w I β hp B M w0 r:=by
 obtain ⟨lE,h⟩:=aF h
 obtain ⟨e1,e2⟩:=F7 hv h
 obtain ⟨_,l,h⟩:=B5 h (vs:=v.cells.toList) (by simpa using e1) (fun j u y a b=>e2 j u y (by simpa using a) b)
 obtain ⟨hn,rfl⟩:=mH h
 obtain ⟨a,b,c⟩:=LF S (T:=e) hn e1 e2 fun bS=>by rw[bS] at lE;cases lE
 exact ⟨_,_,_,_,by simp[Instr.box,newVar,newRow],a,b,c⟩
theorem foldl_set (off:Nat): ∀(vs:List Value) (k:Nat) (cs:Array Value) (i:Nat),off+k+vs.length≤cs.size→
  ((vs.zipIdx k).foldl (fun cs p=>cs.setIfInBounds (off+p.2) p.1) cs)[i]? =if i<off+k then cs[i]? else if i<off+k+vs.length then vs[i-(off+k)]? else cs[i]?
 | [],k,cs,i,h=>by simp;intro h1 U;omega
 | v::vs,k,cs,i,h=>by
  simp only[List.zipIdx_cons,List.foldl_cons]
  simp only[List.length_cons] at h⊢
  rw[foldl_set off vs (k+1) _ i (by simp;omega)]
  by_cases h1:i<off+k
  ·rw[ak (by omega),ak h1]
   rw[Bc (by omega)]
  ·rw[ai h1]
   by_cases U:i=off+k
   ·subst U
    rw[ak (by omega),ak (by omega)]
    rw[Ft (by omega)]
    simp
   ·rw[ai (by omega)]
    by_cases h3:i<off+k+(vs.length+1)
    ·rw[ak (by omega),ak h3,show i-(off+k)=(i-(off+(k+1)))+1 by omega]
     simp
    ·rw[ai (by omega),ai h3,Bc (by omega)]
theorem LG (off:Nat): ∀(vs:List Value) (k:Nat) (cs:Array Value),((vs.zipIdx k).foldl (fun cs p=>cs.setIfInBounds (off+p.2) p.1) cs).size=cs.size
 | [],k,cs=>rfl
 | v::vs,k,cs=>by
  simp only[List.zipIdx_cons,List.foldl_cons]
  rw[LG off vs (k+1)]
  simp
theorem LH {cells:Array Value} {off:Nat} {v:Value} (h:off+v.cells.size≤cells.size) (i:Nat):
  (v.cells.zipIdx.foldl (fun cs (p:Value × Nat)=>cs.setIfInBounds (off+p.2) p.1) cells)[i]? =if i<off then cells[i]? else if i<off+v.cells.size then v.cells[i-off]? else cells[i]? :=by
 have:=foldl_set off v.cells.toList 0 cells i (by simpa using h)
 rw[←Bd]
 simpa[Array.toList_zipIdx] using this
theorem LI {cells:Array Value} {off:Nat} {v:Value}:(v.cells.zipIdx.foldl (fun cs (p:Value × Nat)=>cs.setIfInBounds (off+p.2) p.1) cells).size=cells.size:=by
 have:=LG off v.cells.toList 0 cells
 rw[←Bd]
 simpa[Array.toList_zipIdx] using this
inductive ve (P:Program) (w:World) (I:Nat→Prop) (β:Nat→Option Nat) (hp:Nat→Option an):List (Nat × Value)→List (Nat × V)→Prop
 | nil:ve P w I β hp [] []
 | cons {i:Nat} {v:Value} {x:V} {vs:List (Nat × Value)} {xs:List (Nat × V)}:v.cells.size=x.cells.length→(∀(j:Nat) u y,v.cells[j]? =some u→x.cells[j]? =some y→ao P w I β hp u y)→
   ve P w I β hp vs xs→ve P w I β hp ((i,v)::vs) ((i,x)::xs)
theorem LJ (place:Nat→Option (Nat × Nat)): ∀{vs:List (Nat × Value)} {px:List (Nat × V)} {cells:Array Value} {xs ys:List V},ve P w I β hp vs px→cells.size=xs.length→
  (∀(j:Nat) v x,cells[j]? =some v→xs[j]? =some x→ao P w I β hp v x)→sA place xs px=some ys→
  ∃oL:Array Value,Instr.fill place cells vs=some oL∧oL.size=ys.length∧∀(j:Nat) v x,oL[j]? =some v→ys[j]? =some x→ao P w I β hp v x
 | _,_,cells,xs,ys,.nil,hs,hx,h=>by
  simp only[sA,dC] at h
  subst h
  exact ⟨cells,by simp[Instr.fill],hs,hx⟩
 | _,_,cells,xs,ys,@ve.cons _ _ _ _ _ i v x vs px h1 U h3,hs,hx,h=>by
  simp only[sA] at h
  cases bL:place i with
  | none=>rw[bL] at h;cases h
  | some os=>
   obtain ⟨off,size⟩:=os
   rw[bL] at h
   simp only at h
   cases hc:(Nat.beq x.cells.length size&&Nat.ble (off+size) xs.length) with
   | false=>rw[hc] at h;cases h
   | true=>
    rw[hc] at h
    simp only[cond_true] at h
    simp only[aI,aP,dK] at hc
    have hv:off+v.cells.size≤cells.size:=by omega
    have hb:off+x.cells.length≤xs.length:=by omega
    have hl:(ff xs off x.cells).length=xs.length:=yo _ _ _ hb
    obtain ⟨oL,f1,f2,f3⟩:=LJ place (cells:=v.cells.zipIdx.foldl (fun cs (p:Value × Nat)=>cs.setIfInBounds (off+p.2) p.1) cells) (xs:=ff xs off x.cells) h3 (by rw[LI,hl,hs])
     (fun j u y hu hy=>by
      rw[LH hv] at hu
      unfold ff at hy
      rw[mG _ _ _ _ hb] at hy
      by_cases j1:j<off
      ·rw[ak j1] at hu hy;exact hx j u y hu hy
      ·rw[ai j1] at hu hy
       by_cases j2:j<off+x.cells.length
       ·rw[ak (by omega)] at hu
        rw[ak j2] at hy
        exact U (j-off) u y hu hy
       ·rw[ai (by omega)] at hu
        rw[ai j2] at hy
        exact hx j u y hu hy) h
    refine ⟨oL,?_,f2,f3⟩
    simp only[Instr.fill,bL]
    rw[ai (by simp;omega)]
    exact f1
theorem Ve {t:TypeId} {parts:Array (Nat × Value)} {cells:Array Value} {z:Value} {i:TypeInfo} (hi:P.info? t=some i) (hz:i.zero=some z) (h:Instr.fill (placeOf P t) z.cells parts.toList=some cells) (ha:bA P t=true)
  (bL: ∀fs,P.underlying t=some (.struct fs)→(fs.toList.mapM fun f=>(P.info? f.type).map fun i=>(f.offset,i.size)).isSome=true) (qa: ∀n e,P.underlying t=some (.array n e)→(P.info? e).isSome=true):
  (Instr.build t parts).run P w= .ok (.agg cells) w:=by
 refine run_build w t parts cells ?_
 unfold Program.built
 unfold bA at ha
 rw[hi]
 split at ha
 ·rename_i fs hu
  have:=bL fs hu
  cases hm:fs.toList.mapM fun f=>(P.info? f.type).map fun i=>(f.offset,i.size) with
  | none=>rw[hm] at this;cases this
  | some FI=>
   simp only[hu,hz,hm]
   have hq:placeOf P t=fun i=>FI[i]? :=by simp[placeOf,hu,hm]
   rw[hq] at h
   simpa using h
 ·rename_i n e hu
  have:=qa n e hu
  cases jh:P.info? e with
  | none=>rw[jh] at this;cases this
  | some ie=>
   simp only[hu,hz,jh]
   have hq:placeOf P t=fun i=>some (i*ie.size,ie.size):=by simp[placeOf,hu,jh]
   rw[hq] at h
   exact h
 ·cases ha
theorem LL {α:Type}: ∀(xs ys:List V) (k:Rd α),kM (xs++ys) k=kM xs (kM ys k)
 | [],_,_=>rfl
 | x::xs,ys,k=>by simp only[List.cons_append,kM,LL xs ys k]
theorem LM {a:Act} {sl:Nat→V} (hs:ki P w I β hp a sl) {G:Nat→V} (hg:fN P G w I) (t:TypeId) {α:Type}: ∀{l:List (Nat × Operand)} {k:Rd α} {r:α} {rd:List Nat},
  (kM ((l.map fun p=>(aN P G t sl p.2).cells).flatten) k).run C hp=some (r,rd)→
  ve P w I β hp (l.map fun p=>(p.1,a.eval p.2)) (l.map fun p=>(p.1,aN P G t sl p.2))∧∃ew,k.run C hp=some (r,ew)
 | [],k,r,rd,h=>⟨.nil,rd,h⟩
 | (i,x)::l,k,r,rd,h=>by
  simp only[cG,List.flatten_cons,LL] at h
  obtain ⟨e1,e2⟩:=F7 (hs.ev hg t x) h
  obtain ⟨_,l1,h⟩:=B5 h (vs:=(a.eval x).cells.toList) (by simpa using e1) (fun j u y a b=>e2 j u y (by simpa using a) b)
  obtain ⟨h1,U⟩:=LM hs hg t h
  exact ⟨.cons e1 e2 h1,U⟩
theorem Vf (S:aE P w I β hp B M w0) {a:Act} {sl:Nat→V} (hs:ki P w I β hp a sl) {G:Nat→V} (hg:fN P G w I) {t ty:TypeId} {ps:Array (Nat × Operand)} {r:R} {rd:List Nat}
  (h:(Rd.aB (cH P t&&(bA P t&&BB P t)) (kM ((ps.toList.map fun p=>(aN P G ty sl p.2).cells).flatten)
   (uK (sA (placeOf P t) (zeroCells P t) (ps.toList.map fun p=>(p.1,aN P G ty sl p.2))) fun cs=> .ret ⟨.agg cs,[]⟩))).run C hp=some (r,rd)):
  cM P ((Instr.build t (ps.map fun (i,x)=>(i,a.eval x))).run P w) w I β hp B M w0 r:=by
 obtain ⟨au,h⟩:=aF h
 simp only[aI] at au
 obtain ⟨h1,l,h⟩:=LM hs hg ty h
 cases hf:sA (placeOf P t) (zeroCells P t) (ps.toList.map fun p=>(p.1,aN P G ty sl p.2)) with
 | none=>rw[hf] at h;cases h
 | some cs=>
  rw[hf] at h
  obtain rfl:=aM h
  obtain ⟨i,z,hi,hz,h3,h4,h5⟩:=LD (w:=w) (I:=I) (β:=β) (hp:=hp) au.1
  obtain ⟨cells,f1,f2,f3⟩:=LJ (placeOf P t) h1 h3 h5 hf
  have LN:=au.2.2
  refine .same S (v:= .agg cells) (Ve hi hz (by simpa using f1) au.2.1 (fun fs hu=> ?_) (fun n e hu=> ?_)) (.agg f2 f3)
  ·simpa[BB,hu] using LN
  ·simpa[BB,hu] using LN
theorem Vg (cp: ∀id blk,hp id=some blk→dD P w I β hp (β id) blk) {x:V} {v:Value} {ys:List V} {fr:List (Nat × an)} {rd:List Nat} {ts:List TypeId} (hv:ao P w I β hp v x)
  (h:(qV P x.cells).run C hp=some ((ys,fr),rd)) (ht:pC P ts ys=true):
  v.cells.size=x.cells.length∧∀(j:Nat) u y,v.cells.toList[j]? =some u→x.cells[j]? =some y→ao P w I β hp u y:=by
 cases x with
 | agg xs=>
  obtain ⟨cs,rfl,h1,U⟩:=hv.km
  exact ⟨h1,fun j u y a b=>U j u y (by simpa[Value.cells] using a) b⟩
 | _=>
  simp only[V.cells] at h⊢
  simp only[qV] at h
  obtain ⟨⟨y1,u1⟩,l3,l4,hq,h⟩:=kj h
  obtain ⟨q1,q2⟩:=BQ cp hq hv
  obtain ⟨⟨y2,u2⟩,l5,l6,yz,h⟩:=kj h
  cases yz
  have:=aM h
  cases this
  obtain ⟨tl,tg⟩:=sU ht
  have e6:=tg 0 _ y1 (bq (by rw[tl];exact Nat.one_pos)) rfl
  have bL:=q2 (ig P w I β hp u1) (fun _ h=> .inl h) (fun p hp b h=> .inr ⟨p,hp,h⟩)
  have ho:=bL.pure e6
  have Gn:v.cells= #[v]:=by cases ho<;>rfl
  rw[Gn]
  refine ⟨rfl,fun j u y hu hy=> ?_⟩
  cases j with
  | zero=>simp at hu hy;subst hu;subst hy;exact hv
  | succ j=>simp at hy
def vf (P:Program) (w:World) (I:Nat→Prop) (e:TypeId) (cells:Array Value) (es:List V):Prop:=
 cells.size=es.length*P.cellsOf e∧∀(i j:Nat) (x:V) (t':TypeId),es[i]? =some x→(aQ P e)[j]? =some t'→j<P.cellsOf e→∃v,cells[i*P.cellsOf e+j]? =some v∧Pure P w I t' v (bC P e x j)
theorem vf.set {e:TypeId} {cells:Array Value} {es ys:List V} {i:Nat} {v:Value} (h:vf P w I e cells es) (hi:i<es.length) (hv:v.cells.size=P.cellsOf e) (hy:ys.length=P.cellsOf e)
  (hr: ∀(j:Nat) (t':TypeId) (u:Value) (y:V),(aQ P e)[j]? =some t'→v.cells[j]? =some u→ys[j]? =some y→Pure P w I t' u y):
  vf P w I e (v.cells.zipIdx.foldl (fun cs (p:Value × Nat)=>cs.setIfInBounds (i*P.cellsOf e+p.2) p.1) cells) (es.set i (cd P e ys)):=by
 obtain ⟨h1,U⟩:=h
 have hb:i*P.cellsOf e+v.cells.size≤cells.size:=by
  have:(i+1)*P.cellsOf e≤es.length*P.cellsOf e:=dk _ hi
  rw[c7] at this
  omega
 refine ⟨by rw[LI,nr,h1],fun i' j x t' hx ht hj=> ?_⟩
 rw[LH hb]
 rw[List.getElem?_set] at hx
 by_cases im:i=i'
 ·subst im
  rw[ak rfl,ak hi] at hx
  cases hx
  rw[ai (by omega),ak (by omega),show i*P.cellsOf e+j-i*P.cellsOf e=j by omega]
  have h3:j<v.cells.size:=by omega
  have h4:j<ys.length:=by omega
  refine ⟨v.cells[j],j8 h3,?_⟩
  rw[pY (bq h4) ht]
  exact hr j t' _ _ ht (j8 h3) (bq h4)
 ·rw[ai im] at hx
  have bt:i'*P.cellsOf e+j<i*P.cellsOf e∨i*P.cellsOf e+v.cells.size≤i'*P.cellsOf e+j:=by
   rcases ot i' i with aL|oK
   ·left
    have:(i'+1)*P.cellsOf e≤i*P.cellsOf e:=dk _ aL
    rw[c7] at this
    omega
   ·right
    have:(i+1)*P.cellsOf e≤i'*P.cellsOf e:=dk _ (by omega)
    rw[c7] at this
    omega
  rcases bt with bt|bt
  ·rw[ak bt];exact U i' j x t' hx ht hj
  ·rw[ai (by omega),ai (by omega)];exact U i' j x t' hx ht hj
theorem Vh {t':TypeId} {v:Value} (e6:ep P t' (uE (ow P t' v))=true):Pure P w I t' v (uE (ow P t' v)):=by
 have hc:=ao.const (P:=P) (w:=w) (I:=I) (β:=fun _=>none) (hp:=fun _=>none) t' v
 cases sZ:ow P t' v<;>rw[sZ] at e6 hc<;>simp only[uE] at e6⊢
 case int k n=>rw[hc.dE];exact Plain.pure (v:= .int k n) (y:= .int k n) rfl e6
 case bool b=>rw[hc.jH];exact Plain.pure (v:= .bool b) (y:= .bool b) rfl e6
 case str l=>obtain ⟨s,e1,e2⟩:=hc.lD;rw[e1];exact Plain.pure (v:= .string s) (y:= .str l) ⟨s,rfl,e2⟩ e6
 case nilS e'=>
  cases hc
  exact Plain.pure (y:= .list e' []) (ia.any fun _=>rfl) e6
 case list e' es=>
  cases hc with
  | list hp=>exact Plain.pure (y:= .list e' es) hp e6
 all_goals (unfold ep at e6;split at e6<;>simp_all)
theorem yA {e:TypeId} (h:lr P e=true): ∃i z,P.info? e=some i∧i.zero=some z∧i.size=P.cellsOf e∧z.cells.size=P.cellsOf e∧
  ∀(j:Nat) (t':TypeId),(aQ P e)[j]? =some t'→j<P.cellsOf e→∃v,z.cells[j]? =some v∧Pure P w I t' v (bC P e (cd P e (ef P e)) j):=by
 unfold lr at h
 simp only[aI] at h
 obtain ⟨i,z,h1,U,h3,h4,h5⟩:=jK h.1
 refine ⟨i,z,h1,U,h3,h4,fun j t' ht hj=> ?_⟩
 obtain ⟨tl,tg⟩:=sU h.2
 have bR:j<(ef P e).length:=by rw[←tl,(jG h.1).1];exact hj
 have hz:=bq bR
 have e6:=tg j t' _ (by rw[←rn];exact ht) hz
 refine ⟨z.cells[j],j8 (by omega),?_⟩
 rw[pY hz ht]
 have s0:(ef P e)[j]=uE (ow P t' z.cells[j]):=by
  have:(ef P e)[j]? =((zeroCells P e)[j]?).map uE:=by simp[ef]
  rw[hz] at this
  cases hc:(zeroCells P e)[j]? with
  | none=>rw[hc] at this;cases this
  | some y=>
   rw[hc] at this
   simp only[Option.map_some,dC] at this
   rw[h5] at hc
   obtain ⟨t2,v2,a1,a2,rfl⟩:=Gp hc
   have Vi:t2=t':=by
    rw[←rn,ht] at a1;exact (cU a1).symm
   have pQ:v2=z.cells[j]:=by
    have Vj:j<z.cells.size:=by omega
    have:z.cells.toList[j]? =some z.cells[j]:=by simp[Vj]
    rw[this] at a2;exact (cU a2).symm
   rw[this,Vi,pQ]
 rw[s0] at e6⊢
 exact Vh e6
end
section
variable {P:Program} {w w':World} {I I':Nat→Prop} {β β':Nat→Option Nat} {hp hp':Nat→Option an} {C:ag} {B:Nat} {M:Nat→Prop} {w0:Start}
theorem vg (S:aE P w I β hp B M w0) {nb cap:Nat} {e:TypeId} {es:List V} {C0:Array Value} (au:cH P e=true) (hn:hp nb=none) (hs:C0.size=cap*P.cellsOf e) (hl:es.length≤cap) (hm:cap≤maxLen)
  (hx: ∀(i j:Nat) (x:V) (t':TypeId),es[i]? =some x→(aQ P e)[j]? =some t'→j<P.cellsOf e→∃v,C0[i*P.cellsOf e+j]? =some v∧Pure P w I t' v (bC P e x j)):
  Le P w I β hp (w.alloc (.cells C0 e)) I (aG β nb (some w.heap.size)) (aG hp nb (some (.arr e es false)))∧aE P (w.alloc (.cells C0 e)) I (aG β nb (some w.heap.size)) (aG hp nb (some (.arr e es false))) B M w0∧
  ao P (w.alloc (.cells C0 e)) I (aG β nb (some w.heap.size)) (aG hp nb (some (.arr e es false))) (.slice (some ⟨w.heap.size,0,none⟩) es.length cap) (.whole e nb):=by
 obtain ⟨h1,U⟩:=F3 S (blk:= .arr e es false) (c:=C0) (T:=e) hn (fun b' h=>(cU (h.flat (by simp))).symm) (fun hle eu cD=> .arr au rfl eu (by rw[hs];exact dk _ hl) (fun h=>by cases h) (fun _=>cD) fun i j x t' a b c=>by
  obtain ⟨v,hv,hp⟩:=hx i j x t' a b c
  exact ⟨v,hv,hp.mono hle.cY hle.bQ⟩)
 refine ⟨h1,U,.whole (cJ _ _ _) (cJ _ _ _) ?_ hl hm⟩
 rw[mC (heap_alloc_new w (.cells C0 e)),hs]
theorem At.only {b b':Nat} {e e':TypeId} {es aJ:List V} {q:Path} (hz: ∀(i j:Nat) x t' e1 l,es[i]? =some x→(aQ P e)[j]? =some t'→bC P e x j= .list e1 l→l=[])
  (h:At P w b e es q b' e' aJ):q=[]∧b'=b∧e'=e∧aJ=es:=by
 cases h with
 | here=>exact ⟨rfl,rfl,rfl,rfl⟩
 | step h1 U h3 h4 h5 h6=>have:=hz _ _ _ _ _ _ U h3 h5;subst this;simp at h6
theorem lC.pN {t:TypeId} {v:Value} {x:V} (h:Pure P w I t v x) (hz: ∀e1 l,x= .list e1 l→l=[]):lC P w I t v x:=by
 cases h with
 | int h=>exact .fj (by unfold fg;rw[h]) (.int h)
 | bool h=>exact .fj (by unfold fg;rw[h]) (.bool h)
 | str h hl=>exact .fj (by unfold fg;rw[h]) (.str h hl)
 | nil h=>exact .emp h fun _=>rfl
 | emp h=>exact .emp h fun h=>by cases h
 | list g hu hl _ _ _ _=>
  have:=hz _ _ rfl
  subst this
  simp at hl
  subst hl
  exact .emp hu fun h=>by cases h
theorem Vk (S:aE P w I β hp B M w0) {nb cap:Nat} {e:TypeId} {es:List V} {C0:Array Value} (au:cH P e=true) (hn:hp nb=none) (hs:C0.size=cap*P.cellsOf e) (hl:es.length≤cap) (hm:cap≤maxLen)
  (hx: ∀(i j:Nat) (x:V) (t':TypeId),es[i]? =some x→(aQ P e)[j]? =some t'→j<P.cellsOf e→∃v,C0[i*P.cellsOf e+j]? =some v∧Pure P w I t' v (bC P e x j))
  (hz: ∀(i j:Nat) x t' e1 l,es[i]? =some x→(aQ P e)[j]? =some t'→bC P e x j= .list e1 l→l=[]):
  Le P w I β hp (w.alloc (.cells C0 e)) I (aG β nb (some w.heap.size)) (aG hp nb (some (.nest e es [0,0,0])))∧aE P (w.alloc (.cells C0 e)) I (aG β nb (some w.heap.size)) (aG hp nb (some (.nest e es [0,0,0]))) B M w0∧
  ao P (w.alloc (.cells C0 e)) I (aG β nb (some w.heap.size)) (aG hp nb (some (.nest e es [0,0,0]))) (.slice (some ⟨w.heap.size,0,none⟩) es.length cap) (.whole e nb):=by
 obtain ⟨h1,U⟩:=F3 S (blk:= .nest e es [0,0,0]) (c:=C0) (T:=e) hn (fun b' h=>by
   cases h with
   | root _ h=>exact (cU h).symm
   | row h ha=>cases h;exact (At.only hz ha).2.1)
  (fun hle eu cD=> .nest rfl (fun q b' e' aJ ha=>by
   obtain ⟨rfl,rfl,rfl,rfl⟩:=At.only hz ha
   refine ⟨au,⟨C0,eu,by rw[hs];exact dk _ hl,fun i j x t' a b c=> ?_⟩,cD⟩
   obtain ⟨v,hv,hp⟩:=hx i j x t' a b c
   exact ⟨v,hv,.pN (hp.mono hle.cY hle.bQ) fun e1 l h=>hz i j x t' e1 l a b h⟩)
   fun q1 q2 b' e1 bY e2 bN a1 a2=>(At.only hz a1).1.trans (At.only hz a2).1.symm)
 refine ⟨h1,U,.dW (cJ _ _ _) (cJ _ _ _) ?_ hl hm⟩
 rw[mC (heap_alloc_new w (.cells C0 e)),hs]
theorem LO (cp: ∀id blk,hp id=some blk→dD P w I β hp (β id) blk) {a:Act} {sl:Nat→V} (hs:ki P w I β hp a sl) {G:Nat→V} (hg:fN P G w I) {e:TypeId} {len:Nat}: ∀{l:List (Nat × Operand)} {ps:List (Nat × V)} {upd:List (Nat × an)} {rd:List Nat},
  (xK P e len (l.map fun p=>(p.1,aN P G e sl p.2))).run C hp=some ((ps,upd),rd)→cH P e=true→(∀p∈upd,yd hp p)∧∀I':Nat→Prop,(∀b,I b→I' b)→(∀p∈upd,∀b,rm P w β hp p.1 b→I' b)→
   ∀(cells:Array Value) (es:List V),es.length=len→vf P w I' e cells es→∃oL,Instr.fill (fun i=>some (i*P.cellsOf e,P.cellsOf e)) cells (l.map fun p=>(p.1,a.eval p.2))=some oL∧vf P w I' e oL (xJ es ps)∧(xJ es ps).length=len
 | [],ps,upd,rd,h,_=>by
  cases h
  exact ⟨by simp,fun I' _ _ cells es hl he=>⟨cells,by simp[Instr.fill],he,hl⟩⟩
 | (i,x)::l,ps,upd,rd,h,au=>by
  simp only[cG,xK] at h
  obtain ⟨⟨ys,u1⟩,l1,l2,h1,h⟩:=kj h
  obtain ⟨hc,h⟩:=aF h
  obtain ⟨⟨ps',u2⟩,l3,l4,U,h⟩:=kj h
  have:=aM h
  cases this
  simp only[aI,jv] at hc
  obtain ⟨hi,e6⟩:=hc
  obtain ⟨tl,tg⟩:=sU e6
  have u5:=hs.ev hg e x
  obtain ⟨v1,v2⟩:=Vg cp u5 h1 e6
  obtain ⟨k1,k2,k3⟩:=F1 cp h1 (vs:=(a.eval x).cells.toList) (by simpa using v1) v2
  obtain ⟨m1,m2⟩:=LO cp hs hg U au
  refine ⟨fun p hp=> ?_,fun I' i1 i2 cells es hl he=> ?_⟩
  ·rcases ee.1 hp with h|h
   ·exact k2 p h
   ·exact m1 p h
  ·have bL:=k3 I' i1 (fun p hp=>i2 p (ee.2 (.inl hp)))
   have aR:=(jG au).1
   have sX:ys.length=P.cellsOf e:=by rw[←tl,aR]
   have Lp:(a.eval x).cells.size=P.cellsOf e:=by rw[v1,←k1,sX]
   have gv:=he.set (i:=i) (ys:=ys) (by omega) Lp sX (fun j t' u y ht hu hy=>by
    exact (bL j u y (by simpa using hu) hy).pure (tg j t' y (by rw[←rn];exact ht) hy))
   obtain ⟨oL,f1,f2,f3⟩:=m2 I' i1 (fun p hp=>i2 p (ee.2 (.inr hp))) _ (es.set i (cd P e ys)) (by simpa using hl) gv
   refine ⟨oL,?_,f2,f3⟩
   have hb:i*P.cellsOf e+P.cellsOf e≤cells.size:=by
    rw[he.1,hl]
    have:(i+1)*P.cellsOf e≤len*P.cellsOf e:=dk _ hi
    rw[c7] at this
    omega
   simp only[cG,Instr.fill]
   rw[ai (by simp;omega)]
   exact f1
theorem LP {z:Array Value} {n k:Nat} (hk:k<n) (hz:0<z.size):((Array.range n).map (z[· %z.size]!))[k]? =z[k %z.size]? :=by
 have hm:k %z.size<z.size:=Nat.mod_lt _ hz
 simp[hk,hm]
theorem Ci {e:TypeId} (h:lr P e=true) {i:TypeInfo} {z:Value} (hi:P.info? e=some i) (hz:i.zero=some z) (n m:Nat) (kK:n≤m):
  ∀(k j:Nat) (x:V) (t':TypeId),(List.replicate n (cd P e (ef P e)))[k]? =some x→(aQ P e)[j]? =some t'→j<P.cellsOf e→
   ∃v,((Array.range (m*P.cellsOf e)).map (z.cells[· %z.cells.size]!))[k*P.cellsOf e+j]? =some v∧Pure P w I t' v (bC P e x j):=by
 intro k j x t' hx ht hj
 obtain ⟨i2,z2,h1,U,h3,h4,h5⟩:=yA (w:=w) (I:=I) h
 rw[hi] at h1;cases h1
 rw[hz] at U;cases U
 rw[List.getElem?_replicate] at hx
 split at hx
 ·rename_i hk
  cases hx
  obtain ⟨v,hv,hp⟩:=h5 j t' ht hj
  refine ⟨v,?_,hp⟩
  have hb:k*P.cellsOf e+j<m*P.cellsOf e:=by
   have:(k+1)*P.cellsOf e≤m*P.cellsOf e:=dk _ (by omega)
   rw[c7] at this
   omega
  rw[LP hb (by omega),h4,show (k*P.cellsOf e+j) %P.cellsOf e=j by rw[nt,Nat.mul_add_mod];exact Nat.mod_eq_of_lt hj]
  exact hv
 ·cases hx
theorem Vl {P:Program} (w:World) (t e:TypeId) (len:Nat) (parts:Array (Nat × Value)) (cells:Array Value) (ie:TypeInfo) (z:Value)
  (hu:P.underlying t=some (.slice e)) (jh:P.info? e=some ie) (hz:ie.zero=some z) (Vm: ¬len*ie.size>2^24)
  (h:Instr.fill (fun i=>some (i*ie.size,ie.size)) ((Array.range (len*ie.size)).map (z.cells[· %z.cells.size]!)) parts.toList=some cells):
  (Instr.buildSlice t len parts).run P w= .ok (.slice (some ⟨w.heap.size,0,none⟩) len len) (w.alloc (.cells cells e)):=by
 by_cases kK:len*ie.size=0
 ·have h0: ∀g:Nat→Value,(Array.range (len*ie.size)).map g= #[]:=by intro g;exact Array.eq_empty_of_size_eq_zero (by simp[kK])
  have hp: ∀(u:Array Value),(Pure.pure u:Sem (Array Value)).run P w= .ok u w:=fun _=>rfl
  rw[h0] at h
  simp only[Instr.buildSlice,Sem.run_bind,run_underlying hu,Result.andThen_ok,sizeOf,typeInfo,jh]
  have h1:(Array.range (len*ie.size)).map (fun _:Nat=>(default:Value))= #[]:=h0 _
  have hs: ¬16777216<len*ie.size:=by omega
  simp[jh,hs,kK]
  simp only[kK] at h1
  simp[h1,h,newRow]
 ·exact run_buildSlice w t e len parts cells ie z hu jh hz Vm kK h
theorem Vn (S:aE P w I β hp B M w0) {a:Act} {sl:Nat→V} (hs:ki P w I β hp a sl) {G:Nat→V} (hg:fN P G w I) {t e:TypeId} {len nb:Nat} {ps:Array (Nat × Operand)} {r:R} {rd:List Nat} (hu:P.underlying t=some (.slice e))
  (h:(Rd.aB (lr P e&&Nat.ble (len*P.cellsOf e) (2^24)) ((xK P e len (ps.toList.map fun p=>(p.1,aN P G e sl p.2))).bind fun r=>
    iI nb (.arr e (xJ (List.replicate len (cd P e (ef P e))) r.1) false) (.whole e nb) r.2)).run C hp=some (r,rd)):
  cM P ((Instr.buildSlice t len (ps.map fun (i,x)=>(i,a.eval x))).run P w) w I β hp B M w0 r:=by
 obtain ⟨hc,h⟩:=aF h
 simp only[aI,dK] at hc
 obtain ⟨cI,uT⟩:=hc
 have au:cH P e=true:=by
  unfold lr at cI;simp only[aI] at cI;exact cI.1
 obtain ⟨⟨pv,upd⟩,l1,l2,h1,h⟩:=kj h
 obtain ⟨hn,rfl⟩:=mH h
 obtain ⟨m1,m2⟩:=LO S.h.rel hs hg h1 au
 obtain ⟨p7,S1⟩:=yh S m1
 obtain ⟨i,z,hi,hz,h3,h4,_⟩:=yA (w:=w) (I:=I) cI
 have kR:=(jG au).2
 have h0:vf P w (ig P w I β hp upd) e ((Array.range (len*P.cellsOf e)).map (z.cells[· %z.cells.size]!)) (List.replicate len (cd P e (ef P e))):=
  ⟨by simp,Ci cI hi hz len len (bX _)⟩
 obtain ⟨cells,f1,f2,f3⟩:=m2 (ig P w I β hp upd) (fun _ h=> .inl h) (fun p hp b h=> .inr ⟨p,hp,h⟩) _ _ (by simp) h0
 have jL:bB hp upd nb=none:=by
  rcases sN (hp:=hp) (l:=upd) (id:=nb) with h|⟨b',hm,_⟩
  ·exact h.trans hn
  ·obtain ⟨e1,bY,_,h5⟩:=m1 _ hm
   simp only[hn] at h5
   rcases h5 with ⟨_,h5⟩|⟨_,h5⟩<;>cases h5
 have nH:len≤maxLen:=by
  have:len*1≤len*P.cellsOf e:=sj _ kR
  simp only[maxLen]
  omega
 obtain ⟨n1,n2,n3⟩:=vg S1 (cap:=len) au jL (by rw[f2.1,f3]) (by rw[f3];exact bX _) nH f2.2
 have cK:=Vl w t e len (ps.map fun (i,x)=>(i,a.eval x)) cells i z hu hi hz (by rw[h3];omega) (by rw[h3];simpa using f1)
 refine ⟨_,_,_,_,cK,p7.trans n1,n2,?_⟩
 rw[f3] at n3
 exact n3
theorem LQ (S:aE P w I β hp B M w0) {t e:TypeId} {nb:Nat} {kl kc:IntKind} {n m:Int} {r:R} {rd:List Nat} (hu:P.underlying t=some (.slice e))
  (h:(Rd.aB (lr P e&&(decide (0≤n)&&(decide (n≤m)&&Nat.ble (m.toNat*P.bytesOf e) cB)))
    (iI nb (.arr e (List.replicate n.toNat (cd P e (ef P e))) false) (.whole e nb) [])).run C hp=some (r,rd)):
  cM P ((Instr.makeSlice t (.int kl n) (.int kc m)).run P w) w I β hp B M w0 r:=by
 obtain ⟨hc,h⟩:=aF h
 simp only[aI,dK,dJ] at hc
 obtain ⟨cI,h0,kK,dz⟩:=hc
 have au:cH P e=true:=by
  unfold lr at cI;simp only[aI] at cI;exact cI.1
 obtain ⟨hn,rfl⟩:=mH h
 obtain ⟨i,z,hi,hz,h3,h4,_⟩:=yA (w:=w) (I:=I) cI
 have lG:P.bytesOf e=i.bytes:=by simp[Program.bytesOf,hi]
 have Gq:m≤9223372036854775807:=by
  have h1:m.toNat*1≤m.toNat*P.bytesOf e:=sj _ (uV au)
  simp only[cB] at dz
  omega
 have cK:=run_make (P:=P) w t e i z hu hi hz kl kc n m h0 kK (by
  rw[lG] at dz
  simp only[cB] at dz
  have:(i.bytes:Int)*m=((m.toNat*i.bytes:Nat):Int):=by
   rw[Int.natCast_mul,Int.toNat_of_nonneg (by omega),Int.mul_comm]
  rw[this]
  omega) Gq
 have hlen:(List.replicate n.toNat (cd P e (ef P e))).length=n.toNat:=by simp
 obtain ⟨n1,n2,n3⟩:=vg S (cap:=m.toNat) (es:=List.replicate n.toNat (cd P e (ef P e))) (C0:=madeCells z.cells (m.toNat*i.size)) au hn (by rw[size_madeCells,h3]) (by rw[hlen];omega) (by simp only[maxLen];omega)
  (by rw[h3];exact Ci cI hi hz n.toNat m.toNat (by omega))
 refine ⟨_,_,_,_,cK,n1,n2,?_⟩
 rw[hlen] at n3
 exact n3
theorem Gr: ∀{l:List V} {j:Nat} {e1:TypeId} {k:List V},xT l=true→V.nth l j= .list e1 k→k=[]
 | [],j,e1,k,_,h=>by cases j<;>cases h
 | x::l,0,e1,k,hn,h=>by
  simp only[V.nth] at h
  subst h
  cases k with
  | nil=>rfl
  | cons _ _=>cases hn
 | x::l,j+1,e1,k,hn,h=>by
  refine Gr (l:=l) (j:=j) ?_ h
  cases x with
  | list e2 k2=>
   cases k2 with
   | nil=>exact hn
   | cons _ _=>cases hn
  | _=>exact hn
theorem Vo {e:TypeId} {n:Nat} (au:cH P e=true) (h:xT (ef P e)=true):
  ∀(i j:Nat) x t' e1 l,(List.replicate n (cd P e (ef P e)))[i]? =some x→(aQ P e)[j]? =some t'→bC P e x j= .list e1 l→l=[]:=by
 intro i j x t' e1 l hx ht hl
 have:=List.eq_of_mem_replicate (iZ hx)
 subst this
 unfold bC cd at hl
 cases ha:bA P e with
 | true=>rw[ha] at hl;exact Gr h hl
 | false=>rw[ha] at hl;exact Gr h hl
theorem Vp (S:aE P w I β hp B M w0) {t e:TypeId} {nb:Nat} {kl kc:IntKind} {n m:Int} {r:R} {rd:List Nat} (hu:P.underlying t=some (.slice e))
  (h:(Rd.aB (lr P e&&(decide (0≤n)&&(decide (n≤m)&&Nat.ble (m.toNat*P.bytesOf e) cB)))
    (Rd.aB (xT (ef P e)) (iI nb (.nest e (List.replicate n.toNat (cd P e (ef P e))) [0,0,0]) (.whole e nb) []))).run C hp=some (r,rd)):
  cM P ((Instr.makeSlice t (.int kl n) (.int kc m)).run P w) w I β hp B M w0 r:=by
 obtain ⟨hc,h⟩:=aF h
 simp only[aI,dK,dJ] at hc
 obtain ⟨cI,h0,kK,dz⟩:=hc
 have au:cH P e=true:=by
  unfold lr at cI;simp only[aI] at cI;exact cI.1
 obtain ⟨Vq,h⟩:=aF h
 obtain ⟨hn,rfl⟩:=mH h
 obtain ⟨i,z,hi,hz,h3,h4,_⟩:=yA (w:=w) (I:=I) cI
 have lG:P.bytesOf e=i.bytes:=by simp[Program.bytesOf,hi]
 have Gq:m≤9223372036854775807:=by
  have h1:m.toNat*1≤m.toNat*P.bytesOf e:=sj _ (uV au)
  simp only[cB] at dz
  omega
 have cK:=run_make (P:=P) w t e i z hu hi hz kl kc n m h0 kK (by
  rw[lG] at dz
  simp only[cB] at dz
  have:(i.bytes:Int)*m=((m.toNat*i.bytes:Nat):Int):=by
   rw[Int.natCast_mul,Int.toNat_of_nonneg (by omega),Int.mul_comm]
  rw[this]
  omega) Gq
 have hlen:(List.replicate n.toNat (cd P e (ef P e))).length=n.toNat:=by simp
 obtain ⟨n1,n2,n3⟩:=Vk S (cap:=m.toNat) (es:=List.replicate n.toNat (cd P e (ef P e))) (C0:=madeCells z.cells (m.toNat*i.size)) au hn (by rw[size_madeCells,h3]) (by rw[hlen];omega) (by simp only[maxLen];omega)
  (by rw[h3];exact Ci cI hi hz n.toNat m.toNat (by omega))
  (Vo au Vq)
 refine ⟨_,_,_,_,cK,n1,n2,?_⟩
 rw[hlen] at n3
 exact n3
theorem Pure.one {t:TypeId} {v:Value} {x:V} (h:Pure P w I t v x):v.oneCell'=true:=by cases h<;>rfl
structure Row (P:Program) (w:World) (I:Nat→Prop) (e:TypeId) (v:Value) (xs:List V) (a:Addr) (c:Nat) (news:List Value):Prop where
 val:v= .slice (some a) xs.length c
 len:news.length=xs.length*P.cellsOf e
 cell: ∀(j:Nat) u,news[j]? =some u→w.cell? (a.add j)=some u
 el: ∀(i j:Nat) (x:V) (t':TypeId),xs[i]? =some x→(aQ P e)[j]? =some t'→j<P.cellsOf e→∃u,news[i*P.cellsOf e+j]? =some u∧Pure P w I t' u (bC P e x j)
theorem Row.one {e:TypeId} {v:Value} {xs:List V} {a:Addr} {c:Nat} {news:List Value} (h:Row P w I e v xs a c news) (au:cH P e=true): ∀u∈news,u.oneCell'=true:=by
 intro u hu
 obtain ⟨k,hk⟩:=qP hu
 have gT:=(bj.1 hk).1
 have kR:=(jG au).2
 rw[h.len] at gT
 have hi:k/P.cellsOf e<xs.length:=Nat.div_lt_of_lt_mul (by rw[nt];exact gT)
 have hj:k %P.cellsOf e<P.cellsOf e:=Nat.mod_lt _ kR
 have fU:k %P.cellsOf e<(aQ P e).length:=by rw[eZ au];exact hj
 obtain ⟨u',fm,hp⟩:=h.el (k/P.cellsOf e) (k %P.cellsOf e) _ _ (bq hi) (bq fU) hj
 rw[Nat.div_add_mod'] at fm
 rw[hk] at fm
 cases fm
 exact hp.one
theorem LR {e:TypeId} {es:List V} {b:Nat} {Ca:Array Value} {off len cap o:Nat} (hh:w.heap[b]? =some (.cells Ca e (0,0))) (hs:es.length*P.cellsOf e≤Ca.size)
  (hx: ∀(i j:Nat) (x:V) (t':TypeId),es[i]? =some x→(aQ P e)[j]? =some t'→j<P.cellsOf e→∃v,Ca[i*P.cellsOf e+j]? =some v∧Pure P w I t' v (bC P e x j))
  (kh:off+len≤es.length) (ho:0<len→o=off*P.cellsOf e):
  Row P w I e (.slice (some ⟨b,o,none⟩) len cap) ((es.drop off).take len) ⟨b,o,none⟩ cap ((Ca.toList.drop (off*P.cellsOf e)).take (len*P.cellsOf e)):=by
 have hlen:((es.drop off).take len).length=len:=by simp;omega
 have hb:(off+len)*P.cellsOf e≤Ca.size:=lq (dk _ kh) hs
 rw[c7] at hb
 refine ⟨by rw[hlen],by rw[hlen];simp;omega,fun j u hj=> ?_,fun i j x t' fS ht hj=> ?_⟩
 ·have bR:=(bj.1 hj).1
  have Gt:j<len*P.cellsOf e:=by
   rw[fe] at bR;omega
  have jf:0<len:=by
   rcases Nat.eq_zero_or_pos len with h|h
   ·rw[h] at Gt;simp at Gt
   ·exact h
  rw[eD Gt,gF] at hj
  rw[mF,cell?_cells hh,ho jf]
  simpa using hj
 ·have hi:i<len:=by rw[←hlen];exact (bj.1 fS).1
  rw[eD hi,gF] at fS
  obtain ⟨u,hu,hp⟩:=hx (off+i) j x t' fS ht hj
  refine ⟨u,?_,hp⟩
  have:i*P.cellsOf e+j<len*P.cellsOf e:=by
   have:(i+1)*P.cellsOf e≤len*P.cellsOf e:=dk _ hi
   rw[c7] at this
   omega
  rw[eD this,gF]
  rw[c7] at hu
  rw[←nq]
  simpa using hu
theorem Cj (cp: ∀id blk,hp id=some blk→dD P w I β hp (β id) blk) {e:TypeId} {v:Value} {x:V} {k:List V→Rd R} {r:R} {rd:List Nat} (au:cH P e=true) (hv:ao P w I β hp v x)
  (h:(qZ e x k).run C hp=some (r,rd)): ∃xs,(((∃a,v= .slice a 0 0)∧xs=[])∨∃a c news,Row P w I e v xs a c news)∧∃l,(k xs).run C hp=some (r,l):=by
 cases hv with
 | list hp'=>
  obtain ⟨hc,U⟩:=aF h
  clear h
  rw[aP] at hc
  subst hc
  cases hp' with
  | nil=>exact ⟨[],.inl ⟨⟨_,rfl⟩,rfl⟩,rd,U⟩
  | @emp a cap=>exact ⟨[],.inr ⟨a,cap,[],⟨rfl,by simp,fun j u hj=>by simp at hj,fun i j x t' hx _ _=>by simp at hx⟩⟩,rd,U⟩
  | @list b o len cap es g hl bO hI fF hx=>
   refine ⟨_,.inr ⟨⟨b,o,none⟩,cap,(List.range (len*P.cellsOf e)).map fun k=>g (k/P.cellsOf e) (k %P.cellsOf e),⟨by rw[hl],by rw[hl];simp,fun j u hj=> ?_,fun i j x t' fS ht hj=> ?_⟩⟩,rd,U⟩
   ·obtain ⟨bR,gR⟩:=bj.1 hj
    simp at bR gR
    have kR:=(jG au).2
    have hi:j/P.cellsOf e<len:=Nat.div_lt_of_lt_mul (by rw[nt];exact bR)
    have fI:j %P.cellsOf e<P.cellsOf e:=Nat.mod_lt _ kR
    rw[mF,←gR]
    have:=fF (j/P.cellsOf e) (j %P.cellsOf e) hi fI
    rwa [Nat.div_add_mod'] at this
   ·have hi:i<len:=by rw[←hl];exact (bj.1 fS).1
    have hb:i*P.cellsOf e+j<len*P.cellsOf e:=by
     have:(i+1)*P.cellsOf e≤len*P.cellsOf e:=dk _ hi
     rw[c7] at this
     omega
    refine ⟨g i j,?_,hx i j x t' fS ht⟩
    have e1:(i*P.cellsOf e+j)/P.cellsOf e=i:=by
     rw[nt,Nat.mul_add_div (jG au).2,Nat.div_eq_of_lt hj,Nat.add_zero]
    have e2:(i*P.cellsOf e+j) %P.cellsOf e=j:=by
     rw[nt,Nat.mul_add_mod];exact Nat.mod_eq_of_lt hj
    simp[hb,e1,e2]
 | nilS=>
  obtain ⟨hc,h⟩:=aF h
  exact ⟨[],.inl ⟨⟨_,rfl⟩,rfl⟩,rd,h⟩
 | dq ab hb=>
  obtain ⟨l,h⟩:=run_get h
  simp only[ab] at h
  obtain ⟨hc,h⟩:=aF h
  exact ⟨[],.inl ⟨⟨_,rfl⟩,rfl⟩,l,h⟩
 | @whole e' id es fz b cap ab hb aR bO hm=>
  obtain ⟨l,h⟩:=run_get h
  simp only[ab] at h
  obtain ⟨hc,U⟩:=aF h
  clear h
  simp only[aI,aP] at hc
  obtain ⟨rfl,_⟩:=hc
  have hr:=cp _ _ ab
  cases hr with
  | dr ay=>rw[ay] at hb;cases hb
  | arr yn ay hh hs hf dO hx=>
   rw[hb] at ay;cases ay
   have:=LR (cap:=cap) (off:=0) (len:=es.length) (o:=0) hh hs hx (by omega) (fun _=>by simp)
   exact ⟨es,.inr ⟨_,_,_,by simpa using this⟩,l,U⟩
 | fk ab hb=>
  obtain ⟨l,h⟩:=run_get h
  simp only[ab] at h
  obtain ⟨hc,h⟩:=aF h
  exact ⟨[],.inl ⟨⟨_,rfl⟩,rfl⟩,l,by simpa using h⟩
 | @sub e' id off len es fz b o cap ab hb kh bO ho=>
  obtain ⟨l,h⟩:=run_get h
  simp only[ab] at h
  obtain ⟨hc,U⟩:=aF h
  clear h
  simp only[aI,aP] at hc
  obtain ⟨rfl,_⟩:=hc
  have hr:=cp _ _ ab
  cases hr with
  | dr ay=>rw[ay] at hb;cases hb
  | arr yn ay hh hs hf dO hx=>
   rw[hb] at ay;cases ay
   exact ⟨_,.inr ⟨_,_,_,LR (cap:=cap) hh hs hx kh ho⟩,l,U⟩
 | dN ab=>
  obtain ⟨l,h⟩:=run_get h
  simp only[ab] at h
  cases h
 | fE ab=>
  obtain ⟨l,h⟩:=run_get h
  simp only[ab] at h
  cases h
 | undef=>cases h
 | int=>cases h
 | bool=>cases h
 | str=>cases h
 | agg=>cases h
 | aW=>cases h
 | c9=>cases h
 | fn=>cases h
 | pref=>cases h
 | jE=>cases h
 | ptr=>cases h
 | jc=>cases h
 | jd=>cases h
 | row=>cases h
 | cl=>cases h
 | db=>cases h
 | gP=>cases h
 | cb=>cases h
 | dW ab=>
  obtain ⟨l,h⟩:=run_get h
  simp only[ab] at h
  cases h
theorem LU {t ty e:TypeId} {i:TypeInfo} (ht:P.underlying t=some (.slice e)) (hi:P.info? e=some i) (a:Option Addr) (n cap:Nat) (x:Value) (hx: ∃a c,x= .slice a 0 c) (hn:n≤cap):
  (Builtin.append_ #[t,t] ty #[.slice a n cap,x]).run P w= .ok (.slice a n cap) w:=by
 obtain ⟨a',c,rfl⟩:=hx
 cases a' with
 | none=>cases a<;>simp[Builtin.append_,run_underlying ht,sizeOf,typeInfo,hi,Builtin.lenOf,Builtin.firstCells,hn,storeCells]
 | some a'=>cases a<;>simp[Builtin.append_,run_underlying ht,sizeOf,typeInfo,hi,Builtin.lenOf,Builtin.firstCells,hn,storeCells,loadCells,loadCellsFrom]
theorem Ck {e:TypeId} {es xs:List V} {n:Nat} {c:List Value} {news:List Value} (hn:es.length=n)
  (h1: ∀(i j:Nat) (x:V) (t':TypeId),es[i]? =some x→(aQ P e)[j]? =some t'→j<P.cellsOf e→∃v,c[i*P.cellsOf e+j]? =some v∧Pure P w I t' v (bC P e x j))
  (U: ∀(i j:Nat) (x:V) (t':TypeId),xs[i]? =some x→(aQ P e)[j]? =some t'→j<P.cellsOf e→∃v,news[i*P.cellsOf e+j]? =some v∧Pure P w I t' v (bC P e x j))
  (hb:n*P.cellsOf e≤c.length) (rest:List Value):
  ∀(i j:Nat) (x:V) (t':TypeId),(es++xs)[i]? =some x→(aQ P e)[j]? =some t'→j<P.cellsOf e→∃v,(c.take (n*P.cellsOf e)++news++rest)[i*P.cellsOf e+j]? =some v∧Pure P w I t' v (bC P e x j):=by
 intro i j x t' hx ht hj
 have hl:(c.take (n*P.cellsOf e)).length=n*P.cellsOf e:=by simp;omega
 by_cases hi:i<n
 ·rw[hG (by omega)] at hx
  obtain ⟨v,hv,hp⟩:=h1 i j x t' hx ht hj
  have:i*P.cellsOf e+j<n*P.cellsOf e:=by
   have:(i+1)*P.cellsOf e≤n*P.cellsOf e:=dk _ hi
   rw[c7] at this
   omega
  exact ⟨v,by rw[b7,hG (by omega),eD this];exact hv,hp⟩
 ·rw[hO (by omega),hn] at hx
  obtain ⟨v,hv,hp⟩:=U (i-n) j x t' hx ht hj
  have gx:i-n<xs.length:=(bj.1 hx).1
  have e1:i*P.cellsOf e+j-n*P.cellsOf e=(i-n)*P.cellsOf e+j:=by
   rw[Nat.sub_mul]
   have:n*P.cellsOf e≤i*P.cellsOf e:=dk _ (by omega)
   omega
  have h3:(i-n)*P.cellsOf e+j<news.length:=(bj.1 hv).1
  refine ⟨v,?_,hp⟩
  have h4:n*P.cellsOf e≤i*P.cellsOf e+j:=by
   have:n*P.cellsOf e≤i*P.cellsOf e:=dk _ (by omega)
   omega
  rw[b7,hO (by omega),hl,e1,hG h3]
  exact hv
theorem Pure.drew {t:TypeId} {v:Value} {x:V} (h:Pure P w I t v x):Pure P w.drew I t v x:=Pure.mono (w:=w) (w':=w.drew) (fun _ h=>h) (fun _ _=>rfl) h
theorem Vr (w:World) (t ty e:TypeId) (i:TypeInfo) (z:Value) (ht:P.underlying t=some (.slice e)) (hi:P.info? e=some i) (hz:i.zero=some z)
  (a0:Option Addr) (a:Addr) (n c:Nat) (news:List Value) (hl:news.length=n*i.size) (Cl: ∀j v,news[j]? =some v→w.cell? (a.add j)=some v)
  (h0:0<n) (Cm:(n:Int)≤9223372036854775807) (Cn:n*i.bytes≤281474976710656):
  (Builtin.append_ #[t,t] ty #[.slice a0 0 0,.slice (some a) n c]).run P w=
   .ok (.slice (some ⟨w.heap.size,0,none⟩) n (grownCap w n 0 e)) (w.drew.alloc (.cells (news.toArray++Builtin.zeroCells z.cells (grownCap w n 0 e-n)) e)):=by
 cases a0 with
 | none=>exact run_append_nil w t ty e i z ht hi hz a n c news hl Cl h0 Cm Cn
 | some b=>
  have:=run_append_grow (P:=P) w t ty e i z ht hi hz b 0 0 [] (by simp) (by simp) a n c news hl Cl (by omega) (by omega) (by rw[gj,nextslicecap_zero h0];omega)
  simpa using this
theorem Gu (S:aE P w I β hp B M w0) {t ty e:TypeId} {nb:Nat} {x:Value} {xs:List V} (hu:P.underlying t=some (.slice e)) (au:cH P e=true) (hn:hp nb=none)
  (dz:xs.length*P.bytesOf e≤cB) {a0:Option Addr} (hx:((∃a,x= .slice a 0 0)∧xs=[])∨∃a c news,Row P w I e x xs a c news):
  ∃v w' β',(Builtin.append_ #[t,t] ty #[.slice a0 0 0,x]).run P w= .ok v w'∧Le P w I β hp w' I β' (aG hp nb (some (.arr e xs false)))∧aE P w' I β' (aG hp nb (some (.arr e xs false))) B M w0∧
   ao P w' I β' (aG hp nb (some (.arr e xs false))) v (.whole e nb):=by
 obtain ⟨i,z,hi,hz,h3,h4,_⟩:=jK au
 have s4:=uV au
 have lG:P.bytesOf e=i.bytes:=by simp[Program.bytesOf,hi]
 have hlen:xs.length≤2^45:=by
  have:xs.length*1≤xs.length*P.bytesOf e:=sj _ s4
  simp only[cB] at dz
  omega
 have empty:xs=[]→(∃a c,x= .slice a 0 c)→∃v w' β',(Builtin.append_ #[t,t] ty #[.slice a0 0 0,x]).run P w= .ok v w'∧Le P w I β hp w' I β' (aG hp nb (some (.arr e xs false)))∧aE P w' I β' (aG hp nb (some (.arr e xs false))) B M w0∧
   ao P w' I β' (aG hp nb (some (.arr e xs false))) v (.whole e nb):=by
  intro fV Gv
  subst fV
  obtain ⟨a1,a2⟩:=BT S e hn
  exact ⟨_,_,_,LU hu hi a0 0 0 x Gv (bX _),a1,a2,.dq (cJ _ _ _) (cJ _ _ _)⟩
 rcases hx with ⟨⟨_,rfl⟩,rfl⟩|⟨a,c,news,hr⟩
 ·exact empty rfl ⟨_,_,rfl⟩
 ·by_cases h0:xs.length=0
  ·have fV:xs=[]:=kI h0
   refine empty fV ⟨some a,c,?_⟩
   rw[hr.val,h0]
  ·have cK:=Vr (P:=P) w t ty e i z hu hi hz a0 a xs.length c news (by rw[hr.len,h3]) hr.cell (by omega) (by omega) (by rw[←lG];simp only[cB] at dz;omega)
   have oK:=grownCap_ge w xs.length 0 e
   have s5:grownCap w xs.length 0 e≤maxLen:=grownCap_le_maxLen w xs.length 0 e (by simp only[maxLen];omega)
   obtain ⟨n1,n2,n3⟩:=vg S.drew (nb:=nb) (cap:=grownCap w xs.length 0 e) (es:=xs) (C0:=news.toArray++Builtin.zeroCells z.cells (grownCap w xs.length 0 e-xs.length)) au hn
    (by simp only[Be,pt,size_zeroCells,h4,hr.len,←c7];congr 1;omega) oK s5
    (fun i' j y t' hy ht hj=>by
     obtain ⟨u,fm,hp⟩:=hr.el i' j y t' hy ht hj
     have aL:=(bj.1 fm).1
     refine ⟨u,?_,Pure.drew hp⟩
     rw[Array.getElem?_append_left (by simpa using aL)]
     simpa using fm)
   rw[hr.val]
   exact ⟨_,_,_,cK,(Le.drew w I β hp).trans n1,n2,n3⟩
theorem Vs (S:aE P w I β hp B M w0) {t ty e:TypeId} {nb:Nat} {s x:Value} {sv xv:V} {r:R} {rd:List Nat} (hu:P.underlying t=some (.slice e)) (hs:ao P w I β hp s sv) (hx:ao P w I β hp x xv)
  (h:(uJ P nb e sv xv).run C hp=some (r,rd)):cM P ((Builtin.append_ #[t,t] ty #[s,x]).run P w) w I β hp B M w0 r:=by
 unfold uJ at h
 obtain ⟨au,h⟩:=aF h
 obtain ⟨xs,kZ,l0,h⟩:=Cj S.h.rel au hx h
 cases sv with
 | nilS e'=>
  obtain ⟨hc,h⟩:=aF h
  simp only[aI,aP,dK] at hc
  obtain ⟨hn,rfl⟩:=mH h
  obtain ⟨a0,rfl⟩: ∃a0,s= .slice a0 0 0:=by cases hs;exact ⟨_,rfl⟩
  obtain ⟨v,w',β',a1,a2,a3,a4⟩:=Gu (ty:=ty) S hu au hn hc.2 kZ
  exact ⟨v,w',I,β',a1,a2,a3,a4⟩
 | whole e' id=>
  obtain ⟨l,h⟩:=run_get h
  cases ab:hp id with
  | none=>rw[ab] at h;cases h
  | some blk=>
   rw[ab] at h
   cases blk with
   | dead=>cases h
   | var _=>cases h
   | nest _ _ _=>cases h
   | map _ _=>cases h
   | arr dm es fz=>
    cases fz with
    | true=>cases h
    | false=>
     obtain ⟨hc,h⟩:=aF h
     obtain ⟨hn,rfl⟩:=mH h
     simp only[aI,aP,dK] at hc
     obtain ⟨Gw,Gx,dz⟩:=hc
     subst Gw
     subst Gx
     have bt:nb≠id:=fun e=>by rw[e,ab] at hn;cases hn
     obtain ⟨k1,k2⟩:=BU S ab
     have jL:aG hp id (some an.dead) nb=none:=by rw[dP _ _ bt];exact hn
     cases hs with
     | dN hd=>rw[ab] at hd;cases hd
     | dW hd=>rw[ab] at hd;cases hd
     | dq hd hb=>
      rw[ab] at hd
      cases hd
      simp only[List.length_nil,gj] at dz
      have Vt:((∃a,x= .slice a 0 0)∧xs=[])∨∃a c news,Row P w I e x xs a c news:=kZ
      obtain ⟨v,w',β',a1,a2,a3,a4⟩:=Gu (ty:=ty) k2 hu au jL dz Vt
      exact ⟨v,w',I,β',a1,k1.trans a2,a3,a4⟩
     | @whole _ _ aJ my b cap hd hb aR bO hm=>
      rw[ab] at hd
      cases hd
      have hr:=S.h.rel id _ ab
      cases hr with
      | dr ay=>rw[ay] at hb;cases hb
      | @arr _ _ _ b' Ca _ ay hh oM hf dO lH=>
       rw[hb] at ay
       cases ay
       obtain ⟨i,z,hi,hz,h3,h4,_⟩:=jK au
       have s4:=uV au
       have lG:P.bytesOf e=i.bytes:=by simp[Program.bytesOf,hi]
       have hlen:es.length+xs.length≤2^45:=by
        have:(es.length+xs.length)*1≤(es.length+xs.length)*P.bytesOf e:=sj _ s4
        simp only[cB] at dz
        omega
       rw[mC hh] at aR
       have pT: ∀aC blk',aG hp id (some an.dead) aC=some blk'→¬bn P w (β aC) blk' b:=by
        intro aC blk' h1 U
        by_cases im:aC=id
        ·subst im;rw[cJ] at h1;cases h1;exact U.alive rfl
        ·rw[dP _ _ im] at h1
         exact im (S.h.inj aC id blk' _ b h1 ab U (.root (by simp) hb))
       have Gy:=S.h.rj id _ b ab (by simp) hb
       have room: ∀(C':Array Value) (w':World) (ys:List V),w'.heap[b]? =some (.cells C' e (0,0))→C'.size=Ca.size→(∀b',b'≠b→w'.heap[b']? =w.heap[b']?)→w.heap.size≤w'.heap.size→(w'.os=w.os∧w'.output=w.output)→ys.length≤cap→
         (∀(i j:Nat) (y:V) (t':TypeId),ys[i]? =some y→(aQ P e)[j]? =some t'→j<P.cellsOf e→∃v,C'[i*P.cellsOf e+j]? =some v∧Pure P w I t' v (bC P e y j))→
         Le P w I β hp w' I (aG β nb (some b)) (aG (aG hp id (some .dead)) nb (some (.arr e ys false)))∧aE P w' I (aG β nb (some b)) (aG (aG hp id (some .dead)) nb (some (.arr e ys false))) B M w0∧
         ao P w' I (aG β nb (some b)) (aG (aG hp id (some .dead)) nb (some (.arr e ys false))) (.slice (some ⟨b,0,none⟩) ys.length cap) (.whole e nb):=by
        intro C' w' ys hC nO Vu Vv Vw sX hy
        obtain ⟨a1,a2⟩:=yi k2 (blk:= .arr e ys false) (w':=w') jL pT (dO rfl) (fun b' h _=>Vu b' h) Vv Vw Gy
         (fun b' h=>(cU (h.flat (by simp))).symm) (fun hle=> .arr au rfl hC (by rw[nO,←aR];exact dk _ sX) (fun h=>by cases h) (fun _=>dO rfl) fun i j y t' a b c=>by
          obtain ⟨v,hv,hp⟩:=hy i j y t' a b c
          exact ⟨v,hv,hp.mono hle.cY hle.bQ⟩)
        refine ⟨k1.trans a1,a2,.whole (cJ _ _ _) (cJ _ _ _) ?_ sX hm⟩
        rw[mC hC,nO,aR]
       have same:xs=[]→(∃a c,x= .slice a 0 c)→cM P ((Builtin.append_ #[t,t] ty #[.slice (some ⟨b,0,none⟩) es.length cap,x]).run P w) w I β hp B M w0 ⟨.whole e nb,[(nb,.arr e (es++xs) false),(id,.dead)]⟩:=by
        intro fV Gv
        subst fV
        rw[dy]
        obtain ⟨a1,a2,a3⟩:=room Ca w es hh rfl (fun _ _=>rfl) (bX _) ⟨rfl,rfl⟩ bO lH
        exact ⟨_,_,_,_,LU hu hi _ _ _ x Gv bO,a1,a2,a3⟩
       rcases kZ with ⟨⟨_,rfl⟩,rfl⟩|⟨a,c,news,cq⟩
       ·exact same rfl ⟨_,_,rfl⟩
       ·have h1:=cq.one au
        have kY:es.length*P.cellsOf e≤Ca.toList.length:=by simpa using oM
        by_cases ry:es.length+xs.length≤cap
        ·have yB:es.length*P.cellsOf e+news.length≤Ca.size:=by rw[cq.len,←c7,←aR];exact dk _ ry
         have cK:=run_append_room (P:=P) w t ty e i hu hi b es.length cap Ca hh a xs.length c news (by rw[cq.len,h3]) cq.cell h1 ry (by rw[h3];exact yB)
         rw[h3] at cK
         have cI:=Ck (P:=P) (w:=w) (I:=I) (n:=es.length) (c:=Ca.toList) rfl (fun i j y t' a b c=>by
          obtain ⟨v,hv,hp⟩:=lH i j y t' a b c
          exact ⟨v,by simpa using hv,hp⟩) cq.el kY (Ca.toList.drop (es.length*P.cellsOf e+news.length))
         obtain ⟨a1,a2,a3⟩:=room (Ca.toList.take (es.length*P.cellsOf e)++news++Ca.toList.drop (es.length*P.cellsOf e+news.length)).toArray (w.setRow b _) (es++xs)
          (setRow_heap w b Ca _ e _ hh) (by simp;omega) (fun b' ay=>setRow_other w b b' _ ay) (by simp) ⟨rfl,rfl⟩ (by simpa using ry)
          (fun i j y t' a b c=>by
           obtain ⟨v,hv,hp⟩:=cI i j y t' a b c
           exact ⟨v,by simpa using hv,hp⟩)
         rw[cq.val]
         rw[ca] at a3
         exact ⟨_,_,_,_,cK,a1,a2,a3⟩
        ·have hold: ∀(j:Nat) v,(Ca.toList.take (es.length*P.cellsOf e))[j]? =some v→w.cell? ((⟨b,0,none⟩:Addr).add j)=some v:=by
          intro j v hj
          have bR:=(bj.1 hj).1
          have fI:j<es.length*P.cellsOf e:=by rw[fe] at bR;omega
          rw[eD fI] at hj
          rw[mF,cell?_cells hh,gj]
          simpa using hj
         have cK:=run_append_grow (P:=P) w t ty e i z hu hi hz ⟨b,0,none⟩ es.length cap (Ca.toList.take (es.length*P.cellsOf e)) (by rw[h3];simp;omega) hold a xs.length c news (by rw[cq.len,h3]) cq.cell (by omega) (by omega)
          (growslice_fits (by omega) (by rw[←lG];simp only[cB] at dz;omega))
         have oK:=grownCap_ge w (es.length+xs.length) cap e
         have s5:grownCap w (es.length+xs.length) cap e≤maxLen:=grownCap_le_maxLen w _ cap e (by simp only[maxLen];omega)
         have cI:=Ck (P:=P) (w:=w) (I:=I) (n:=es.length) (c:=Ca.toList) rfl (fun i j y t' a b c=>by
          obtain ⟨v,hv,hp⟩:=lH i j y t' a b c
          exact ⟨v,by simpa using hv,hp⟩) cq.el kY (Builtin.zeroCells z.cells (grownCap w (es.length+xs.length) cap e-(es.length+xs.length))).toList
         obtain ⟨n1,n2,n3⟩:=vg k2.drew (nb:=nb) (cap:=grownCap w (es.length+xs.length) cap e) (es:=es++xs)
          (C0:=(Ca.toList.take (es.length*P.cellsOf e)).toArray++news.toArray++Builtin.zeroCells z.cells (grownCap w (es.length+xs.length) cap e-(es.length+xs.length))) au jL
          (by
           have e1:(Ca.toList.take (es.length*P.cellsOf e)).length=es.length*P.cellsOf e:=by simp;omega
           simp only[Be,pt,size_zeroCells,h4,cq.len,e1,←c7];congr 1;omega) (by simpa using oK) s5
          (fun i j y t' a b c=>by
           obtain ⟨v,hv,hp⟩:=cI i j y t' a b c
           refine ⟨v,?_,Pure.drew hp⟩
           rw[←qQ]
           simpa using hv)
         rw[cq.val]
         rw[ca] at n3
         exact ⟨_,_,_,_,cK,(k1.trans (Le.drew w I β _)).trans n1,n2,n3⟩
 | _=>cases h
end
section
variable {P:Program} {w w':World} {I I':Nat→Prop} {β β':Nat→Option Nat} {hp hp':Nat→Option an} {C:ag} {B:Nat} {M:Nat→Prop} {w0:Start}
theorem run_copy_none (w:World) {dT sT ty elem:TypeId} {i:TypeInfo} (a0:Option Addr) (LV Vx:Nat) (a1:Option Addr) (LW Vy:Nat) (hu:P.underlying dT=some (.slice elem)) (hi:P.info? elem=some i) (h0:Nat.min LW LV=0):
  (Builtin.copy_ #[dT,sT] ty #[.slice a0 LV Vx,.slice a1 LW Vy]).run P w= .ok (goInt 0) w:=by
 cases a0<;>cases a1<;>simp[Builtin.copy_,run_underlying hu,Builtin.lenOf,Builtin.firstCells,sizeOf,typeInfo,hi,h0,storeCells,loadCells,loadCellsFrom]
theorem Vz (S:aE P w I β hp B M w0) {t u ty e:TypeId} {s x:Value} {sv xv:V} {r:R} {rd:List Nat} (hu:P.underlying t=some (.slice e)) (hs:ao P w I β hp s sv) (hx:ao P w I β hp x xv)
  (h:(FD P e sv xv).run C hp=some (r,rd)):cM P ((Builtin.copy_ #[t,u] ty #[s,x]).run P w) w I β hp B M w0 r:=by
 unfold FD at h
 obtain ⟨au,h'⟩:=aF h
 clear h
 simp only[aI,aP] at au
 obtain ⟨au,h1⟩:=au
 obtain ⟨xs,kZ,l0,h⟩:=Cj S.h.rel au hx h'
 obtain ⟨i,z,hi,hz,aR,_⟩:=jK au
 cases sv<;>simp only at h<;>first|(cases h;done)|skip
 rename_i e' id
 obtain ⟨l,U⟩:=run_get h
 clear h
 cases ab:hp id with
 | none=>rw[ab] at U;cases U
 | some blk=>
  rw[ab] at U
  cases blk<;>simp only at U<;>first|(cases U;done)|skip
  rename_i e2 es fz
  cases fz with
  | true=>cases U
  | false=>
  obtain ⟨hc,h3⟩:=aF U
  simp only[aI,aP] at hc
  obtain ⟨rfl,rfl⟩:=hc
  obtain rfl:=aM h3
  have mI:min xs.length es.length=0→(Builtin.copy_ #[t,u] ty #[s,x]).run P w= .ok (goInt 0) w→cM P ((Builtin.copy_ #[t,u] ty #[s,x]).run P w) w I β hp B M w0 ⟨.int .i64 (min xs.length es.length:Nat),[(id,.arr e (xs.take es.length++es.drop xs.length) false)]⟩:=by
   intro h0 hr
   have he:xs.take es.length++es.drop xs.length=es:=by
    rcases Nat.le_total xs.length es.length with hl|hl
    ·have:xs=[]:=kI (by omega)
     simp[this]
    ·have:es=[]:=kI (by omega)
     simp[this]
   have fG:bB hp [(id,.arr e (xs.take es.length++es.drop xs.length) false)]=hp:=by
    rw[he];exact FN hp id _ ab
   refine ⟨goInt 0,w,I,β,hr,?_⟩
   simp only[fG,h0]
   exact ⟨Le.refl w I β hp,S,.int⟩
  cases hs with
  | dN hd=>rw[ab] at hd;cases hd
  | dW hd=>rw[ab] at hd;cases hd
  | @dq _ _ fz a hd hb=>
   rw[ab] at hd
   cases hd
   refine mI (by simp) ?_
   rcases kZ with ⟨⟨a',rfl⟩,rfl⟩|⟨a',c,news,cq⟩
   ·exact run_copy_none w _ _ _ _ _ _ hu hi (by simp)
   ·rw[cq.val];exact run_copy_none w _ _ _ _ _ _ hu hi (by simp)
  | @whole _ _ aJ my b cap hd hb yC bO hm=>
   have eh:=hd
   rw[ab] at hd
   cases hd
   rcases kZ with ⟨⟨a',rfl⟩,rfl⟩|⟨a',c,news,cq⟩
   ·exact mI (by simp) (run_copy_none w _ _ _ _ _ _ hu hi (by simp))
   have hr:=S.h.rel id _ ab
   cases hr with
   | dr ay=>rw[ay] at hb;cases hb
   | @arr _ _ _ b' Ca _ ay hh oM hf dO lH=>
    rw[hb] at ay
    cases ay
    have jJ:news.length=xs.length:=by rw[cq.len,h1,ml]
    rw[h1,ml] at oM
    have jM:(news.take es.length).length=Nat.min xs.length es.length:=by
     rw[fe,jJ,Nat.min_comm]
    have LX:Nat.min xs.length es.length=min xs.length es.length:=rfl
    have cK:=run_copy_row (P:=P) w t u ty e b 0 es.length cap a' xs.length c Ca e (news.take es.length) hu (by rw[hi];simp[aR,h1]) hh jM
     (fun j v hj=>cq.cell j v (by
      have:=(bj.1 hj).1
      rw[fe] at this
      rwa [eD (by omega)] at hj)) (by rw[jM,LX];omega) (fun v hv=>cq.one au v (List.mem_of_mem_take hv))
    rw[cq.val]
    have hq:(goInt (news.take es.length).length)= .int .i64 ((min xs.length es.length:Nat):Int):=by rw[jM];rfl
    have iN:(xs.take es.length++es.drop xs.length).length=es.length:=by simp;omega
    have nO:(Ca.toList.take 0++news.take es.length++Ca.toList.drop (0+(news.take es.length).length)).toArray.size=Ca.size:=by
     simp only[pt,ca,sk,fe,jM,LX]
     simp
     omega
    obtain ⟨a1,a2⟩:=B6 S (blk':= .arr e (xs.take es.length++es.drop xs.length) false) (Cb:=(Ca.toList.take 0++news.take es.length++Ca.toList.drop (0+(news.take es.length).length)).toArray) ab (by simp) ⟨rfl,iN.symm⟩ hb (dO rfl) (by simp) hh nO
     (fun hle eu=> .arr au rfl eu (by rw[nO,iN,h1,ml];exact oM) (fun h=>by cases h) (fun _=>dO rfl) fun i j y t' hy ht hj=>by
      rw[h1] at hj⊢
      obtain rfl:j=0:=by omega
      rw[ml,Nat.add_zero]
      have qb:=(bj.1 hy).1
      rw[iN] at qb
      by_cases b8:i<xs.length
      ·rw[hG (by rw[fe];omega),eD qb] at hy
       obtain ⟨u',k1,k2⟩:=cq.el i 0 y t' hy ht (by omega)
       rw[h1,ml,Nat.add_zero] at k1
       refine ⟨u',?_,k2.mono hle.cY hle.bQ⟩
       simp only[List.take_zero,List.nil_append,mj]
       rw[hG (by rw[fe];omega),eD qb]
       exact k1
      ·have e1:(xs.take es.length).length=xs.length:=by rw[fe];omega
       rw[hO (by omega),e1,gF,show xs.length+(i-xs.length)=i by omega] at hy
       obtain ⟨u',k1,k2⟩:=lH i 0 y t' hy ht (by omega)
       rw[h1,ml,Nat.add_zero] at k1
       refine ⟨u',?_,k2.mono hle.cY hle.bQ⟩
       simp only[List.take_zero,List.nil_append,mj,gj]
       have e2:(news.take es.length).length=xs.length:=by rw[fe];omega
       rw[hO (by omega),e2,gF,show xs.length+(i-xs.length)=i by omega]
       simpa using k1)
    exact ⟨_,_,_,_,cK,a1,a2,by rw[hq];exact .int⟩
theorem VA (S:aE P w I β hp B M w0) {t ty e:TypeId} {x:Value} {xv:V} {r:R} {rd:List Nat} (hu:P.underlying t=some (.slice e)) (hx:ao P w I β hp x xv)
  (h:(FC P e xv).run C hp=some (r,rd)):cM P ((Builtin.clear_ #[t] ty #[x]).run P w) w I β hp B M w0 r:=by
 unfold FC at h
 obtain ⟨cI,h'⟩:=aF h
 clear h
 have au:cH P e=true:=by
  unfold lr at cI;simp only[aI] at cI;exact cI.1
 obtain ⟨i,z,hi,hz,aR,yD,VB⟩:=yA (w:=w) (I:=I) cI
 have kR:=(jG au).2
 cases xv<;>simp only at h'<;>first|(cases h';done)|skip
 rename_i e' id off len
 obtain ⟨l,U⟩:=run_get h'
 clear h'
 cases ab:hp id with
 | none=>rw[ab] at U;cases U
 | some blk=>
  rw[ab] at U
  cases blk<;>simp only at U<;>first|(cases U;done)|skip
  rename_i e2 es fz
  cases fz with
  | true=>cases U
  | false=>
  obtain ⟨hc,h3⟩:=aF U
  simp only[aI,aP] at hc
  obtain ⟨rfl,rfl⟩:=hc
  obtain rfl:=aM h3
  have mI:len=0→(Builtin.clear_ #[t] ty #[x]).run P w= .ok (.tuple #[]) w→cM P ((Builtin.clear_ #[t] ty #[x]).run P w) w I β hp B M w0 ⟨.aW [],[(id,.arr e (es.take off++(List.replicate len (cd P e (ef P e))++es.drop (off+len))) false)]⟩:=by
   intro h0 hr
   subst h0
   have fG:bB hp [(id,.arr e (es.take off++(List.replicate 0 (cd P e (ef P e))++es.drop (off+0))) false)]=hp:=by
    simp only[List.replicate_zero,List.nil_append,Nat.add_zero,Bf]
    exact FN hp id _ ab
   refine ⟨.tuple #[],w,I,β,hr,?_⟩
   simp only[fG]
   exact ⟨Le.refl w I β hp,S,.aW rfl fun j v x hj hx=>by simp at hx⟩
  cases hx with
  | fE hd=>rw[ab] at hd;cases hd
  | @fk _ _ _ a0 hd hb=>exact mI rfl (by cases a0<;>simp[Builtin.clear_,run_underlying hu])
  | @sub _ _ _ _ aJ my b o cap hd hb kh bO ho=>
   by_cases hlen:len=0
   ·refine mI hlen ?_
    subst hlen
    simp[Builtin.clear_,run_underlying hu]
   have VC:0<len:=by omega
   have eh:=hd
   rw[ab] at hd
   cases hd
   have hr:=S.h.rel id _ ab
   cases hr with
   | dr ay=>rw[ay] at hb;cases hb
   | @arr _ _ _ b' Ca _ ay hh oM hf dO lH=>
    rw[hb] at ay
    cases ay
    have ho:=ho VC
    subst ho
    have s0:(Builtin.zeroCells z.cells len).toList.length=len*P.cellsOf e:=by rw[Array.length_toList,size_zeroCells,yD]
    have hmul:off*P.cellsOf e+len*P.cellsOf e≤es.length*P.cellsOf e:=by rw[←c7];exact dk _ kh
    have p8: ∀v∈(Builtin.zeroCells z.cells len).toList,v.oneCell'=true:=by
     intro v hv
     obtain ⟨k,hk⟩:=qP hv
     have gT:=(bj.1 hk).1
     rw[s0] at gT
     have VD:(Builtin.zeroCells z.cells len)[k]? =z.cells[k %z.cells.size]? :=LP (z:=z.cells) (n:=len*z.cells.size) (by rw[yD];exact gT) (by rw[yD];exact kR)
     rw[qQ,VD] at hk
     have hm:k %z.cells.size<P.cellsOf e:=by rw[yD];exact Nat.mod_lt _ kR
     have VE:k %z.cells.size<(aQ P e).length:=by rw[eZ au];exact hm
     obtain ⟨v',pX,hp'⟩:=VB (k %z.cells.size) _ (bq VE) hm
     rw[hk] at pX
     cases pX
     generalize bC P e (cd P e (ef P e)) (k %z.cells.size)=y at hp'
     cases hp'<;>rfl
    have bS:=run_storeCells_at P b (off*P.cellsOf e) e (Builtin.zeroCells z.cells len).toList 0 Ca w hh (by rw[s0];omega) p8
    simp only[Nat.add_zero] at bS
    have cK:(Builtin.clear_ #[t] ty #[.slice (some ⟨b,off*P.cellsOf e,none⟩) len cap]).run P w= .ok (.tuple #[]) (w.setRow b (Ca.toList.take (off*P.cellsOf e)++(Builtin.zeroCells z.cells len).toList++Ca.toList.drop (off*P.cellsOf e+(Builtin.zeroCells z.cells len).toList.length)).toArray):=by
     obtain ⟨n,rfl⟩: ∃n,len=n+1:=⟨len-1,by omega⟩
     simp[Builtin.clear_,run_underlying hu,zeroValue,typeInfo,hi,hz,bS]
    have iN:(es.take off++(List.replicate len (cd P e (ef P e))++es.drop (off+len))).length=es.length:=by simp;omega
    have nO:(Ca.toList.take (off*P.cellsOf e)++(Builtin.zeroCells z.cells len).toList++Ca.toList.drop (off*P.cellsOf e+(Builtin.zeroCells z.cells len).toList.length)).toArray.size=Ca.size:=by
     simp only[pt,ca,sk,fe,s0,Array.length_toList]
     omega
    obtain ⟨a1,a2⟩:=B6 S (blk':= .arr e (es.take off++(List.replicate len (cd P e (ef P e))++es.drop (off+len))) false) ab (by simp) ⟨rfl,iN.symm⟩ hb (dO rfl) (by simp) hh nO
     (fun hle eu=> .arr au rfl eu (by rw[nO,iN];exact oM) (fun h=>by cases h) (fun _=>dO rfl) fun i' j y t' hy ht hj=>by
      have gy:=mG es (List.replicate len (cd P e (ef P e))) off i' (by simp;omega)
      rw[sm] at gy
      rw[gy] at hy
      have hC:(Ca.toList.take (off*P.cellsOf e)++(Builtin.zeroCells z.cells len).toList++Ca.toList.drop (off*P.cellsOf e+(Builtin.zeroCells z.cells len).toList.length)).toArray[i'*P.cellsOf e+j]? =
        if i'*P.cellsOf e+j<off*P.cellsOf e then Ca.toList[i'*P.cellsOf e+j]? else if i'*P.cellsOf e+j<off*P.cellsOf e+len*P.cellsOf e then (Builtin.zeroCells z.cells len).toList[i'*P.cellsOf e+j-off*P.cellsOf e]? else Ca.toList[i'*P.cellsOf e+j]? :=by
       have:=mG Ca.toList (Builtin.zeroCells z.cells len).toList (off*P.cellsOf e) (i'*P.cellsOf e+j) (by rw[s0,Array.length_toList];omega)
       rw[mj,b7,this,s0]
      by_cases Gz:i'<off
      ·rw[ak Gz] at hy
       have:(i'+1)*P.cellsOf e≤off*P.cellsOf e:=dk _ Gz
       rw[c7] at this
       rw[ak (by omega)] at hC
       obtain ⟨u,k1,k2⟩:=lH i' j y t' hy ht hj
       exact ⟨u,hC.trans (by simpa using k1),k2.mono hle.cY hle.bQ⟩
      ·rw[ai Gz] at hy
       have h1:off*P.cellsOf e≤i'*P.cellsOf e:=dk _ (by omega)
       rw[ai (by omega)] at hC
       by_cases gx:i'<off+len
       ·rw[ak gx] at hy
        have:(i'+1)*P.cellsOf e≤(off+len)*P.cellsOf e:=dk _ gx
        rw[c7,c7] at this
        rw[ak (by omega)] at hC
        obtain ⟨v,k1,k2⟩:=Ci (w:=w) (I:=I) cI hi hz len len (bX _) (i'-off) j y t' hy ht hj
        refine ⟨v,hC.trans ?_,k2.mono hle.cY hle.bQ⟩
        rw[show i'*P.cellsOf e+j-off*P.cellsOf e=(i'-off)*P.cellsOf e+j by rw[Nat.sub_mul];omega,qQ]
        unfold Builtin.zeroCells
        rw[yD] at k1⊢
        exact k1
       ·rw[ai gx] at hy
        have:(off+len)*P.cellsOf e≤i'*P.cellsOf e:=dk _ (by omega)
        rw[c7] at this
        rw[ai (by omega)] at hC
        obtain ⟨u,k1,k2⟩:=lH i' j y t' hy ht hj
        exact ⟨u,hC.trans (by simpa using k1),k2.mono hle.cY hle.bQ⟩)
    exact ⟨_,_,_,_,cK,a1,a2,.aW rfl fun j v x hj hx=>by simp at hx⟩
end
section
variable {P:Program} {w w':World} {I I':Nat→Prop} {β β':Nat→Option Nat} {hp hp':Nat→Option an} {C:ag} {B:Nat} {M:Nat→Prop} {w0:Start}
theorem VF (S:aE P w I β hp B M w0) {s:TypeId} {f:Nat} {v:Value} {x:V} {r:R} {rd:List Nat} (hv:ao P w I β hp v x)
  (h:(FG P s f x).run C hp=some (r,rd)):cM P ((Instr.field s v f).run P w) w I β hp B M w0 r:=by
 unfold FG Bt at h
 split at h
 ·rename_i fs hu
  cases hf:fs[f]? with
  | none=>rw[hf] at h;cases h
  | some fd=>
   rw[hf] at h
   simp only[uK] at h
   obtain ⟨ht,h⟩:=aF h
   obtain ⟨d,s6⟩:=ym ht
   obtain ⟨i,hi⟩:=u3 s6
   have aR:i.size=P.cellsOf fd.type:=by simp[Program.cellsOf,hi]
   cases x with
   | agg xs=>
    obtain ⟨cs,rfl,h1,U⟩:=hv.km
    dsimp only at h
    cases ha:bA P fd.type with
    | true=>
     rw[ha] at h
     simp only[cond_true] at h
     obtain ⟨hc,h⟩:=aF h
     obtain rfl:=aM h
     rw[dK] at hc
     refine .same S (v:= .agg (cs.extract fd.offset (fd.offset+P.cellsOf fd.type))) ?_ (.agg (by simp;omega) fun j u y fm hy=> ?_)
     ·simp[Instr.field,run_underlying hu,hf,part,F5 s6,ha,asAgg,sizeOf,typeInfo,hi,aR]
     ·have hj:j<P.cellsOf fd.type:=by
       have:=(gG.1 fm).1
       simp at this;omega
      rw[eD hj,gF] at hy
      refine U (fd.offset+j) u y ?_ hy
      rw[Array.getElem?_extract] at fm
      split at fm
      ·exact fm
      ·cases fm
    | false=>
     rw[ha] at h
     simp only[cond_false] at h
     obtain ⟨y,hy,h⟩:=kS h
     obtain rfl:=aM h
     have aL:fd.offset<cs.size:=by rw[h1];exact (bj.1 hy).1
     refine .same S (v:=cs[fd.offset]) ?_ (U _ _ _ (j8 aL) hy)
     simp[Instr.field,run_underlying hu,hf,part,F5 s6,ha,asAgg,aL]
   | _=>cases h
 ·cases h
theorem VG (S:aE P w I β hp B M w0) {i:Nat} {v:Value} {xs:List V} {r:R} {rd:List Nat} (hv:ao P w I β hp v (.aW xs))
  (h:(Rd.opt xs[i]? fun v=> .ret ⟨v,[]⟩).run C hp=some (r,rd)):cM P ((Instr.extract v i).run P w) w I β hp B M w0 r:=by
 obtain ⟨cs,rfl,h1,U⟩:=hv.sQ
 obtain ⟨y,hy,h⟩:=kS h
 obtain rfl:=aM h
 have aL:i<cs.size:=by rw[h1];exact (bj.1 hy).1
 exact .same S (v:=cs[i]) (by simp[Instr.extract,aL]) (U _ _ _ (j8 aL) hy)
theorem VH (S:aE P w I β hp B M w0) {t:TypeId} {s:ByteArray} {l:List UInt8} {k:IntKind} {i:Int} {r:R} {rd:List Nat} (hu:P.underlying t=some .string) (hs:s.data.toList=l)
  (h:(Rd.opt (bif decide (0≤i) then (l[i.toNat]?).map fun b=>V.int .u8 b.toNat else none) fun v=> .ret ⟨.int .u8 v.toInt,[]⟩).run C hp=some (r,rd)):
  cM P ((Instr.index t (.string s) (.int k i)).run P w) w I β hp B M w0 r:=by
 obtain ⟨v,hv,h⟩:=kS h
 obtain rfl:=aM h
 cases hc:decide (0≤i) with
 | false=>rw[hc] at hv;cases hv
 | true=>
  rw[hc] at hv
  simp only[cond_true] at hv
  have h0:0≤i:=by simpa using hc
  cases hb:l[i.toNat]? with
  | none=>rw[hb] at hv;cases hv
  | some b=>
   rw[hb] at hv
   simp only[Option.map_some,dC] at hv
   subst hv
   have VI:s[i.toNat]? =some b:=by
    subst hs
    obtain ⟨aL,he⟩:=bj.1 hb
    have GA:i.toNat<s.size:=by simpa using aL
    rw[getElem?_pos s i.toNat GA]
    congr 1
   refine .same S (v:= .int .u8 b.toNat) ?_ .int
   simp[Instr.index,asIntOf,run_underlying hu,h0,VI]
theorem GB (S:aE P w I β hp B M w0) (mx:Bool): ∀{vs:List Value} {xs:List V} {v:Value} {x:V} {r:R} {rd:List Nat},ao P w I β hp v x→vs.length=xs.length→
  (∀(j:Nat) u y,vs[j]? =some u→xs[j]? =some y→ao P w I β hp u y)→(uL mx x xs).run C hp=some (r,rd)→
  cM P ((vs.foldlM (if mx then Builtin.max2 else Builtin.min2) v).run P w) w I β hp B M w0 r
 | [],[],v,x,r,rd,hv,_,_,h=>by
  have:r=⟨x,[]⟩:=by
   cases x<;>(simp only[uL] at h;exact (aM h).symm)
  subst this
  exact .same S (by simp) hv
 | [],_::_,v,x,r,rd,hv,hl,_,h=>by simp at hl
 | _::_,[],v,x,r,rd,hv,hl,_,h=>by simp at hl
 | u::vs,y::xs,v,x,r,rd,hv,hl,hx,h=>by
  cases x<;>cases y<;>simp only[uL] at h<;>first|(cases h;done)|skip
  rename_i k a k' b
  obtain ⟨hc,h4⟩:=aF h
  clear h
  obtain rfl:k=k':=by simpa using hc
  have hu:=hx 0 u _ rfl rfl
  rw[hv.dE,hu.dE]
  have ih:=GB S mx (vs:=vs) (xs:=xs) (v:= .int k (bif mx then (if b>a then b else a) else (if b<a then b else a))) .int (by simpa using hl)
   (fun j u y h1 U=>hx (j+1) u y (by simpa using h1) (by simpa using U)) h4
  cases mx with
  | true=>simpa[List.foldlM_cons,Builtin.max2] using ih
  | false=>simpa[List.foldlM_cons,Builtin.min2] using ih
theorem qc {n cap:Nat} {isS:Bool} {lo hi:Option V} {lov hiv:Option Value} {k:Nat→Nat→Rd R} {r:R} {rd:List Nat} (hn:n≤cap)
  (iq: ∀x,lo=some x→∃v,lov=some v∧ao P w I β hp v x) (gz: ∀x,hi=some x→∃v,hiv=some v∧ao P w I β hp v x) (mJ:lo=none→lov=none) (nP:hi=none→hiv=none)
  (h:(q0 n lo hi k).run C hp=some (r,rd)): ∃l u,l≤u∧u≤n∧(Instr.sliceBounds isS n cap lov hiv none).run P w= .ok (l,u,cap) w∧(k l u).run C hp=some (r,rd):=by
 have ok: ∀(kk:IntKind) (i:Int) (y:Nat) (c:BoundsCode),0≤i→i≤y→(Instr.sliceBound (.int kk i) y c).run P w= .ok i.toNat w:=by
  intro kk i y c h1 U
  simp[Instr.sliceBound,asIntOf,h1,U]
 unfold q0 at h
 cases lo with
 | none=>
  rw[mJ rfl]
  cases hi with
  | none=>
   rw[nP rfl]
   exact ⟨0,n,j7 _,bX _,by simp[Instr.sliceBounds],h⟩
  | some x=>
   obtain ⟨v,rfl,hv⟩:=gz x rfl
   cases x<;>simp only at h<;>first|(cases h;done)|skip
   rename_i kk u
   obtain ⟨hc,h⟩:=aF h
   simp only[aI,dJ] at hc
   rw[hv.dE]
   have:=ok kk u cap (if isS then .sliceAcap else .sliceAlen) hc.1 (by omega)
   exact ⟨0,u.toNat,j7 _,by omega,by simp[Instr.sliceBounds,this],h⟩
 | some x=>
  obtain ⟨v,rfl,hv⟩:=iq x rfl
  cases hi with
  | none=>
   rw[nP rfl]
   cases x<;>simp only at h<;>first|(cases h;done)|skip
   rename_i kk l
   obtain ⟨hc,h⟩:=aF h
   simp only[aI,dJ] at hc
   rw[hv.dE]
   have:=ok kk l n .sliceB hc.1 (by omega)
   exact ⟨l.toNat,n,by omega,bX _,by simp[Instr.sliceBounds,this],h⟩
  | some y=>
   obtain ⟨v2,rfl,pQ⟩:=gz y rfl
   cases x<;>cases y<;>simp only at h<;>first|(cases h;done)|skip
   rename_i kk l VJ u
   obtain ⟨hc,h⟩:=aF h
   simp only[aI,dJ] at hc
   rw[hv.dE,pQ.dE]
   have h1:=ok VJ u cap (if isS then .sliceAcap else .sliceAlen) (by omega) (by omega)
   have U:=ok kk l u.toNat .sliceB hc.1 (by omega)
   exact ⟨l.toNat,u.toNat,by omega,by omega,by simp[Instr.sliceBounds,h1,U],h⟩
theorem Co {a:Option Addr} {t e:TypeId} {i:TypeInfo} (hu:P.underlying t=some (.slice e)) (hi:P.info? e=some i) {lov hiv:Option Value}
  (hb:(Instr.sliceBounds true 0 0 lov hiv none).run P w= .ok (0,0,0) w):(Instr.sliceAt t (.slice a 0 0) lov hiv none).run P w= .ok (.slice a 0 0) w:=by
 cases a<;>simp[Instr.sliceAt,Instr.slice,run_underlying hu,hb,sizeOf,typeInfo,hi]
theorem GC {t e:TypeId} {i:TypeInfo} {b o len cap l u:Nat} (hu:P.underlying t=some (.slice e)) (hi:P.info? e=some i) {lov hiv:Option Value} (huc:u≤cap)
  (hb:(Instr.sliceBounds true len cap lov hiv none).run P w= .ok (l,u,cap) w): ∃o',(0<u-l→o'=o+l*i.size)∧(Instr.sliceAt t (.slice (some ⟨b,o,none⟩) len cap) lov hiv none).run P w= .ok (.slice (some ⟨b,o',none⟩) (u-l) (cap-l)) w:=by
 by_cases hc:cap=l
 ·subst hc
  refine ⟨o,fun h=>by omega,?_⟩
  ·simp[Instr.sliceAt,Instr.slice,run_underlying hu,hb,sizeOf,typeInfo,hi]
 ·refine ⟨o+l*i.size,fun _=>rfl,?_⟩
  simp[Instr.sliceAt,Instr.slice,run_underlying hu,hb,sizeOf,typeInfo,hi,hc,mF]
theorem VK (s:ByteArray) (l:List UInt8) (h:s.data.toList=l) (a b:Nat):(s.extract a b).data.toList=(l.drop a).take (b-a):=by
 subst h
 simp[ByteArray.data_extract]
theorem VL (S:aE P w I β hp B M w0) {t:TypeId} {v:Value} {x:V} {lo hi:Option V} {lov hiv:Option Value} {r:R} {rd:List Nat} (hv:ao P w I β hp v x)
  (iq: ∀x,lo=some x→∃v,lov=some v∧ao P w I β hp v x) (gz: ∀x,hi=some x→∃v,hiv=some v∧ao P w I β hp v x) (mJ:lo=none→lov=none) (nP:hi=none→hiv=none)
  (h:(Bz P t x lo hi).run C hp=some (r,rd)):cM P ((Instr.sliceAt t v lov hiv none).run P w) w I β hp B M w0 r:=by
 unfold Bz at h
 cases hu:P.underlying t with
 | none=>rw[hu] at h;cases h
 | some d=>
  rw[hu] at h
  cases d<;>simp only at h<;>first|(cases h;done)|skip
  case string=>
   cases x<;>simp only at h<;>first|(cases h;done)|skip
   rename_i l
   obtain ⟨s,rfl,hs⟩:=hv.lD
   have aR:l.length=s.size:=by rw[←hs];simp
   obtain ⟨a,u,h1,U,h3,h4⟩:=qc (isS:=false) (cap:=s.size) (by omega) iq gz mJ nP h
   obtain rfl:=aM h4
   rw[aR] at h3
   refine .same S (v:= .string (s.extract a u)) ?_ (.str (VK s l hs a u))
   simp[Instr.sliceAt,Instr.slice,run_underlying hu,h3]
  case slice e=>
   cases x<;>simp only at h<;>first|(cases h;done)|skip
   case list e' es=>
    obtain ⟨hc,h⟩:=aF h
    simp only[aI,aP] at hc
    obtain ⟨dt,au⟩:=hc
    obtain ⟨i,z,dF,_,aR,_⟩:=jK au
    cases hv with
    | list hp'=>
     cases hp' with
     | nil=>
      obtain ⟨a,u,h1,U,h3,h4⟩:=qc (n:=0) (isS:=true) (cap:=0) (bX _) iq gz mJ nP h
      obtain rfl:=aM h4
      obtain rfl:u=0:=by omega
      obtain rfl:a=0:=by omega
      exact .same S (Co hu dF h3) (by simpa using ao.list ia.nil)
     | @emp ad cap=>
      obtain ⟨a,u,h1,U,h3,h4⟩:=qc (n:=0) (isS:=true) (cap:=cap) (j7 _) iq gz mJ nP h
      obtain rfl:=aM h4
      obtain rfl:u=0:=by omega
      obtain rfl:a=0:=by omega
      refine .same S (v:= .slice (some ad) 0 cap) ?_ (by simpa using ao.list ia.emp)
      by_cases hc:cap=0
      ·subst hc
       simp[Instr.sliceAt,Instr.slice,run_underlying hu,h3,sizeOf,typeInfo,dF]
      ·simp[Instr.sliceAt,Instr.slice,run_underlying hu,h3,sizeOf,typeInfo,dF,hc,Addr.add]
     | @list b o len cap _ g hl bO hI fF hx=>
      obtain ⟨a,u,h1,U,h3,h4⟩:=qc (isS:=true) (cap:=cap) (by omega) iq gz mJ nP h
      obtain rfl:=aM h4
      rw[hl] at U h3
      obtain ⟨o',iM,cK⟩:=GC (b:=b) (o:=o) hu dF (by omega) h3
      have fW:e=e':=dt
      refine .same S cK (.list ?_)
      rw[←fW]
      rw[←fW] at fF hx hI
      have hlen:((es.drop a).take (u-a)).length=u-a:=by simp;omega
      refine .list (fun i j=>g (a+i) j) hlen (by omega) (fun h=>hI (qM h (dk _ (by omega)))) (fun i j hi hj=> ?_) (fun i j y t' hy ht=> ?_)
      ·have:=fF (a+i) j (by omega) hj
       rw[c7,nq,←nq o] at this
       rw[iM (by omega),aR]
       exact this
      ·have hi:i<u-a:=by rw[←hlen];exact (bj.1 hy).1
       rw[eD hi,gF] at hy
       exact hx (a+i) j y t' hy ht
   case whole e' id=>
    obtain ⟨l,h⟩:=run_get h
    cases ab:hp id with
    | none=>rw[ab] at h;cases h
    | some blk=>
     rw[ab] at h
     cases blk<;>simp only at h<;>first|(cases h;done)|skip
     rename_i dm es fz
     obtain ⟨hc,h9⟩:=aF h
     clear h
     simp only[aI,aP] at hc
     obtain ⟨dt,ib,au⟩:=hc
     obtain ⟨i,z,dF,_,aR,_⟩:=jK au
     cases hv with
     | dN hd=>rw[ab] at hd;cases hd
     | dW hd=>rw[ab] at hd;cases hd
     | dq hd hb=>
      rw[ab] at hd
      cases hd
      obtain ⟨a,u,h1,U,h3,h4⟩:=qc (n:=0) (isS:=true) (cap:=0) (bX _) iq gz mJ nP h9
      obtain rfl:=aM h4
      obtain rfl:u=0:=by omega
      obtain rfl:a=0:=by omega
      exact .same S (Co hu dF h3) (.fk ab hb)
     | @whole _ _ aJ my b cap hd hb yC bO hm=>
      have eh:=hd
      rw[ab] at hd
      cases hd
      obtain ⟨a,u,h1,U,h3,h4⟩:=qc (isS:=true) (cap:=cap) bO iq gz mJ nP h9
      obtain rfl:=aM h4
      obtain ⟨o',iM,cK⟩:=GC (b:=b) (o:=0) hu dF (by omega) h3
      have fW:e=e':=dt
      exact .same S cK (.sub eh hb (by omega) (by omega) (fun h=>by rw[iM h,aR,fW,gj]))
   case sub e' id off len=>
    obtain ⟨l,h⟩:=run_get h
    cases ab:hp id with
    | none=>rw[ab] at h;cases h
    | some blk=>
     rw[ab] at h
     cases blk<;>simp only at h<;>first|(cases h;done)|skip
     rename_i dm es fz
     obtain ⟨hc,h⟩:=aF h
     simp only[aI,aP] at hc
     obtain ⟨dt,ib,au⟩:=hc
     obtain ⟨i,z,dF,_,aR,_⟩:=jK au
     cases hv with
     | fE hd=>rw[ab] at hd;cases hd
     | fk hd hb=>
      have eh:=hd
      obtain ⟨a,u,h1,U,h3,h4⟩:=qc (isS:=true) (cap:=0) (bX _) iq gz mJ nP h
      obtain rfl:=aM h4
      obtain rfl:u=0:=by omega
      obtain rfl:a=0:=by omega
      exact .same S (Co hu dF h3) (.fk eh hb)
     | @sub _ _ _ _ aJ my b o cap hd hb kh bO ho=>
      have eh:=hd
      obtain ⟨a,u,h1,U,h3,h4⟩:=qc (isS:=true) (cap:=cap) bO iq gz mJ nP h
      obtain rfl:=aM h4
      obtain ⟨o',iM,cK⟩:=GC (b:=b) (o:=o) hu dF (by omega) h3
      have fW:e=e':=dt
      exact .same S cK (.sub eh hb (by omega) (by omega) (fun h=>by rw[iM h,aR,ho (by omega),fW,c7]))
theorem VM (S:aE P w I β hp B M w0) {t:TypeId} {v:Value} {x:V} {lo hi mx:Option V} {lov hiv LY:Option Value} {r:R} {rd:List Nat} (hv:ao P w I β hp v x)
  (iq:lo=none→lov=none) (gz: ∀y,hi=some y→∃u,hiv=some u∧ao P w I β hp u y) (nH: ∀y,mx=some y→∃u,LY=some u∧ao P w I β hp u y)
  (h:(FE P t x lo hi mx).run C hp=some (r,rd)):cM P ((Instr.sliceAt t v lov hiv LY).run P w) w I β hp B M w0 r:=by
 unfold FE at h
 cases hu:P.underlying t with
 | none=>rw[hu] at h;cases h
 | some d=>
  rw[hu] at h
  cases d<;>(try (cases h;done))
  rename_i e
  cases lo<;>(try (cases h;done))
  cases hi<;>(try (cases h;done))
  rename_i vh
  cases vh<;>(try (cases h;done))
  cases mx<;>(try (cases h;done))
  rename_i VN
  cases VN<;>(try (cases h;done))
  obtain ⟨hc,h9⟩:=aF h
  clear h
  have h:=h9
  clear h9
  simp only[aI,dJ] at hc
  obtain ⟨rfl,rfl,au⟩:=hc
  obtain ⟨i,z,dF,_,_,_⟩:=jK au
  obtain ⟨u1,rfl,k1⟩:=gz _ rfl
  obtain ⟨u2,rfl,k2⟩:=nH _ rfl
  rw[k1.dE,k2.dE,iq rfl]
  have run: ∀{k k2:IntKind} (a:Option Addr) (len cap:Nat),(Instr.sliceAt t (.slice a len cap) none (some (.int k 0)) (some (.int k2 0))).run P w= .ok (.slice a 0 0) w:=by
   intro k k2 a len cap
   cases a<;>simp[Instr.sliceAt,Instr.slice,Instr.sliceBounds,Instr.sliceBound,asIntOf,run_underlying hu,sizeOf,typeInfo,dF]
  cases x<;>(try (cases h;done))
  ·simp only at h
   obtain rfl:=aM h
   cases hv with
   | list hp'=>cases hp'<;>exact .same S (run _ _ _) .nilS
  ·simp only at h
   obtain rfl:=aM h
   cases hv
   exact .same S (run _ _ _) .nilS
  ·rename_i e' id
   simp only at h
   obtain ⟨l,h⟩:=run_get h
   cases ab:hp id with
   | none=>rw[ab] at h;cases h
   | some blk=>
    rw[ab] at h
    cases blk<;>simp only at h<;>first|(cases h;done)|skip
    all_goals
     obtain rfl:=aM h
     cases hv with
     | dN hd=>rw[ab] at hd;cases hd
     | dW hd=>exact .same S (run _ _ _) .nilS
     | dq hd hb=>exact .same S (run _ _ _) .nilS
     | whole hd=>exact .same S (run _ _ _) .nilS
theorem VO (S:aE P w I β hp B M w0) {t:TypeId} {v ix:Value} {x y:V} {r:R} {rd:List Nat} (hv:ao P w I β hp v x) (hy:ao P w I β hp ix y)
  (h:(FH P t x y).run C hp=some (r,rd)):cM P ((Instr.indexAt t v ix).run P w) w I β hp B M w0 r:=by
 unfold FH at h
 cases hu:P.underlying t with
 | none=>rw[hu] at h;cases h
 | some d=>
  rw[hu] at h
  cases y<;>(try (cases d<;>cases h;done))
  rename_i k i
  rw[hy.dE]
  cases d<;>simp only at h<;>first|(cases h;done)|skip
  case slice e=>
   have run: ∀(b o len cap:Nat) (ie:TypeInfo),P.info? e=some ie→0≤i→i<(len:Int)→(Instr.indexAt t (.slice (some ⟨b,o,none⟩) len cap) (.int k i)).run P w= .ok (.pointer (some ⟨b,o+i.toNat*ie.size,none⟩)) w:=by
    intro b o len cap ie jh h0 h1
    simp[Instr.indexAt,asIntOf,run_underlying hu,h0,h1,sizeOf,typeInfo,jh,mF]
   cases x<;>simp only at h<;>first|(cases h;done)|skip
   case list e' es=>
    obtain ⟨hc,h⟩:=aF h
    simp only[aI,aP] at hc
    obtain ⟨dt,au⟩:=hc
    have fW:e=e':=dt
    obtain ⟨ie,z,dF,_,aR,_⟩:=jK au
    obtain ⟨el,cI,h⟩:=kS h
    obtain rfl:=aM h
    unfold idx at cI
    cases h0:decide (0≤i) with
    | false=>rw[h0] at cI;cases cI
    | true=>
     rw[h0] at cI
     simp only[cond_true] at cI
     have vi:0≤i:=by simpa using h0
     have aL:i.toNat<es.length:=(bj.1 cI).1
     cases hv with
     | list hp'=>
      cases hp' with
      | nil=>simp at aL
      | emp=>simp at aL
      | @list b o len cap _ g hl bO hI fF hx=>
       rw[←fW] at fF hx hI
       refine .same S (run b o len cap ie dF vi (by omega)) ?_
       have bL:=u4 (P:=P) e el
       have GD:=eZ au
       have LZ:(bif bA P e then flat P e else [e])=aQ P e:=rfl
       rw[LZ]
       refine .pref (by rw[bL]) (fun _=>hI ?_) (fun j t' y' ht yj=> ?_)
       ·have:=Nat.mul_pos (show 0<len by omega) (jG au).2
        exact this
       ·obtain ⟨t2,a1,a2⟩:=F6 yj
        rw[ht] at a1;cases a1
        have hj:j<P.cellsOf e:=by rw[←GD];exact (bj.1 ht).1
        have fH:=hx i.toNat j el t' cI ht
        refine ⟨g i.toNat j,?_,?_⟩
        ·rw[aR,nq];exact fF i.toNat j (by omega) hj
        ·rw[a2,fH.rp];exact fH
   case whole e' id=>
    obtain ⟨l,h⟩:=run_get h
    cases ab:hp id with
    | none=>rw[ab] at h;cases h
    | some blk=>
     rw[ab] at h
     cases blk<;>simp only at h<;>first|(cases h;done)|skip
     rename_i dm es fz
     obtain ⟨hc,h⟩:=aF h
     simp only[aI,aP] at hc
     obtain ⟨dt,ib⟩:=hc
     obtain ⟨ei,h⟩:=aF h
     simp only[aI,dJ] at ei
     obtain rfl:=aM h
     cases hv with
     | dN hd=>rw[ab] at hd;cases hd
     | dW hd=>rw[ab] at hd;cases hd
     | dq hd hb=>rw[ab] at hd;cases hd;simp at ei;omega
     | @whole _ _ aJ my b cap hd hb yC bO hm=>
      have eh:=hd
      rw[ab] at hd
      cases hd
      have hr:=S.h.rel id _ ab
      cases hr with
      | dr ay=>rw[ay] at hb;cases hb
      | arr au ay hh hs hf dO hx=>
       have fW:e=e':=dt
       obtain ⟨ie,z,dF,_,aR,_⟩:=jK au
       rw[←fW] at dF aR
       refine .same S (run b 0 _ cap ie dF ei.1 ei.2) ?_
       have:=ao.ptr (P:=P) (w:=w) (I:=I) (i:=i.toNat) (c:=0) eh (by simp) hb
       simp only[an.sz] at this
       rw[gj,aR,fW]
       simpa using this
     rename_i dm es aq
     obtain ⟨hc,h⟩:=aF h
     simp only[aI,aP] at hc
     obtain ⟨dt,ib⟩:=hc
     obtain ⟨ei,h⟩:=aF h
     simp only[aI,dJ] at ei
     obtain rfl:=aM h
     cases hv with
     | dN hd=>rw[ab] at hd;cases hd
     | dq hd hb=>rw[ab] at hd;cases hd
     | whole hd=>rw[ab] at hd;cases hd
     | @dW _ _ aJ vers' b cap hd hb yC bO hm=>
      have eh:=hd
      rw[ab] at hd
      cases hd
      have au:=(S.rows eh hb .here).ok
      have fW:e=e':=dt
      obtain ⟨ie,z,dF,_,aR,_⟩:=jK au
      rw[←fW] at dF aR
      refine .same S (run b 0 _ cap ie dF ei.1 ei.2) ?_
      have:=ao.ptr (P:=P) (w:=w) (I:=I) (i:=i.toNat) (c:=0) eh (by simp) hb
      simp only[an.sz] at this
      rw[gj,aR,fW]
      simpa using this
   case row e' id ver path=>
    obtain ⟨e0,es,aq,l,ab,h1,U,h3,h⟩:=nG h
    obtain ⟨e2,v',k1,k2,h⟩:=uW h
    obtain ⟨hc,h⟩:=aF h
    simp only[aI,aP] at hc
    obtain ⟨dt,ib⟩:=hc
    obtain ⟨ei,h⟩:=aF h
    simp only[aI,dJ] at ei
    obtain rfl:=aM h
    cases hv with
    | jc hd hp'=>rw[ab] at hd;cases hd;exact absurd hp' (uX h1 U h3)
    | @row v _ e0 t1 _ ver b i1 c1 q es l1 aq hd hb hq Gj ht fF=>
     have VP:=fF
     obtain ⟨b',e3,aJ,Ca,T,f,x,m1,m2,m3,m4,m5,m6⟩:=fF
     have ij:=hd
     rw[ab] at ij
     cases ij
     obtain ⟨n1,n2⟩:=BP m1 m3 m4 ht m5
     rw[n2] at k2
     cases k2
     simp only[V.toList] at ei
     have hR:=S.rows hd hb m1
     obtain ⟨C1,c2,c3,c4⟩:=hR.cells
     rw[m2] at c2
     cases c2
     have hj:c1<P.cellsOf e3:=by
      rw[←eZ hR.ok];exact (bj.1 m4).1
     obtain ⟨v2,d1,d2⟩:=c4 _ _ _ _ m3 m4 hj
     rw[m6] at d1
     cases d1
     rw[m5] at d2
     cases d2 with
     | fj a _=>unfold fg at a;rw[ht] at a;cases a
     | emp _ _=>simp at ei;omega
     | @row _ _ b1 cap _ hl _ _ _=>
      have au:=(S.rows hd hb (m1.snoc m2 m3 m4 ht m5 hl m6)).ok
      have fW:e=e':=dt
      obtain ⟨ie,z,dF,_,aR,_⟩:=jK au
      rw[←fW] at dF aR
      refine .same S (run b1 0 _ cap ie dF ei.1 ei.2) ?_
      have:=ao.cl (P:=P) (I:=I) (i:=i.toNat) (c:=0) hd hb hq Gj ht hl VP
      rw[gj,aR,fW]
      simpa using this
   case sub e' id off len=>
    obtain ⟨l,h⟩:=run_get h
    cases ab:hp id with
    | none=>rw[ab] at h;cases h
    | some blk=>
     rw[ab] at h
     cases blk<;>simp only at h<;>first|(cases h;done)|skip
     rename_i dm es fz
     obtain ⟨hc,h⟩:=aF h
     simp only[aI,aP] at hc
     obtain ⟨dt,ib⟩:=hc
     obtain ⟨ei,h⟩:=aF h
     simp only[aI,dJ] at ei
     obtain rfl:=aM h
     cases hv with
     | fE hd=>rw[ab] at hd;cases hd
     | fk hd hb=>simp at ei;omega
     | @sub _ _ _ _ aJ my b o cap hd hb kh bO ho=>
      have eh:=hd
      rw[ab] at hd
      cases hd
      have hr:=S.h.rel id _ ab
      cases hr with
      | dr ay=>rw[ay] at hb;cases hb
      | arr au ay hh hs hf dO hx=>
       have fW:e=e':=dt
       obtain ⟨ie,z,dF,_,aR,_⟩:=jK au
       rw[←fW] at dF aR
       refine .same S (run b o _ cap ie dF ei.1 ei.2) ?_
       have:=ao.ptr (P:=P) (w:=w) (I:=I) (i:=off+i.toNat) (c:=0) eh (by simp) hb
       simp only[an.sz] at this
       rw[ho (by omega),aR,fW,←c7]
       simpa using this
  case array n e=>
   have run: ∀(b o:Nat) (ie:TypeInfo),P.info? e=some ie→0≤i→i<(n:Int)→(Instr.indexAt t (.pointer (some ⟨b,o,none⟩)) (.int k i)).run P w= .ok (.pointer (some ⟨b,o+i.toNat*ie.size,none⟩)) w:=by
    intro b o ie jh h0 h1
    simp[Instr.indexAt,asIntOf,run_underlying hu,h0,h1,sizeOf,typeInfo,jh,mF,Instr.sureAddr]
   cases x<;>simp only at h<;>first|(cases h;done)|skip
   case ptr id j c=>
    obtain ⟨⟨blk,ab,hd⟩,l,h⟩:=u0 h
    obtain ⟨ei,h⟩:=aF h
    simp only[aI,dJ] at ei
    obtain rfl:=aM h
    obtain ⟨b,hb,rfl⟩:=hv.gu ab hd
    obtain ⟨d,s6⟩:=ym ei.1
    obtain ⟨ie,jh⟩:=u3 s6
    have aR:ie.size=P.cellsOf e:=by simp[Program.cellsOf,jh]
    refine .same S (run b _ ie jh ei.2.1 ei.2.2) ?_
    rw[aR,nq]
    exact .ptr ab hd hb
   case pref ts cs=>
    obtain ⟨ei,h⟩:=aF h
    simp only[aI,dJ] at ei
    obtain rfl:=aM h
    obtain ⟨b,o,rfl,h1,U,h3⟩:=hv.BY
    obtain ⟨d,s6⟩:=ym ei.1
    obtain ⟨ie,jh⟩:=u3 s6
    have aR:ie.size=P.cellsOf e:=by simp[Program.cellsOf,jh]
    refine .same S (run b _ ie jh ei.2.1 ei.2.2) ?_
    rw[aR]
    exact ao.Lc h1 U h3
end
end Go.AM
namespace Go.AM
open Go.Maps
section
variable {P:Program} {w w':World} {I I':Nat→Prop} {β β':Nat→Option Nat} {hp hp':Nat→Option an} {C:ag} {B:Nat} {M:Nat→Prop} {w0:Start}
theorem VQ (S:aE P w I β hp B M w0) {nb:Nat} {t:TypeId} {v:Value} {x:V} {lo hi:Option V} {lov hiv:Option Value} {r:R} {rd:List Nat} (hv:ao P w I β hp v x)
  (gz: ∀x,hi=some x→∃v,hiv=some v∧ao P w I β hp v x) (mJ:lo=none→lov=none)
  (h:(BA P nb t x lo hi).run C hp=some (r,rd)):cM P ((Instr.sliceAt t v lov hiv none).run P w) w I β hp B M w0 r:=by
 unfold BA at h
 split at h
 case h_2=>cases h
 rename_i e e' id k hh hu
 obtain ⟨l,h1⟩:=run_get h
 cases ab:hp id with
 | none=>rw[ab] at h1;cases h1
 | some blk=>
  rw[ab] at h1
  cases blk<;>simp only at h1<;>first|(cases h1;done)|skip
  rename_i e2 es fz
  cases fz with
  | true=>cases h1
  | false=>
  obtain ⟨hc,U⟩:=aF h1
  simp only[aI,aP,dJ] at hc
  obtain ⟨rfl,rfl,au,L0,L1⟩:=hc
  obtain ⟨hn,rfl⟩:=mH U
  have iq:=mJ rfl
  subst iq
  obtain ⟨GF,rfl,VR⟩:=gz _ rfl
  obtain rfl:=VR.dE
  obtain ⟨i,z,dF,_,aR,_⟩:=jK au
  have bt:nb≠id:=fun e=>by rw[e,ab] at hn;cases hn
  obtain ⟨k1,k2⟩:=BU S ab
  have jL:aG hp id (some an.dead) nb=none:=by rw[dP _ _ bt];exact hn
  have L3: ∀cap,es.length≤cap→(Instr.sliceBounds true es.length cap none (some (.int k hh)) none).run P w= .ok (0,hh.toNat,cap) w:=by
   intro cap bO
   have hb:(q0 es.length none (some (.int k hh)) fun l u=> .aB (decide (l=0∧u=hh.toNat)) (.ret (⟨.undef,[]⟩:R))).run C hp=some (⟨.undef,[]⟩,[]):=by
    simp[q0,Rd.run,L0,L1]
   obtain ⟨l,u,b1,b2,b3,b4⟩:=qc (P:=P) (w:=w) (I:=I) (β:=β) (hp:=hp) (n:=es.length) (isS:=true) (cap:=cap) (lov:=none) (hiv:=some (.int k hh)) bO (by simp) (fun x hx=>by cases hx;exact ⟨_,rfl,.int⟩) (fun _=>rfl) (by simp) hb
   obtain ⟨b5,_⟩:=aF b4
   simp only[dJ] at b5
   obtain ⟨rfl,rfl⟩:=b5
   exact b3
  cases hv with
  | dN hd=>rw[ab] at hd;cases hd
  | dW hd=>rw[ab] at hd;cases hd
  | @dq _ _ _ a0 hd hb=>
   rw[ab] at hd
   cases hd
   have Gb:hh=0:=by simpa using Int.le_antisymm L1 L0
   subst Gb
   have ay:=L3 0 (bX _)
   obtain ⟨a1,a2⟩:=BT k2 e jL
   refine ⟨_,w,I,_,Co hu dF ay,k1.trans a1,a2,.dq (cJ _ _ _) (cJ _ _ _)⟩
  | @whole _ _ aJ my b cap hd hb yC bO hm=>
   have eh:=hd
   rw[ab] at hd
   cases hd
   have hr:=S.h.rel id _ ab
   cases hr with
   | dr ay=>rw[ay] at hb;cases hb
   | @arr _ _ _ b' Ca _ ay Cp oM hf dO lH=>
    rw[hb] at ay
    cases ay
    have iN:(es.take hh.toNat).length=hh.toNat:=by rw[fe];omega
    have cK:(Instr.sliceAt t (.slice (some ⟨b,0,none⟩) es.length cap) none (some (.int k hh)) none).run P w= .ok (.slice (some ⟨b,0,none⟩) hh.toNat cap) w:=by
     have ay:=L3 cap bO
     by_cases L4:cap=0
     ·subst L4
      simp[Instr.sliceAt,Instr.slice,run_underlying hu,ay,sizeOf,typeInfo,dF]
     ·simp[Instr.sliceAt,Instr.slice,run_underlying hu,ay,sizeOf,typeInfo,dF,L4,mF]
    have pT: ∀aC blk',aG hp id (some an.dead) aC=some blk'→¬bn P w (β aC) blk' b:=by
     intro aC blk' h1 U
     by_cases im:aC=id
     ·subst im;rw[cJ] at h1;cases h1;exact U.alive rfl
     ·rw[dP _ _ im] at h1
      exact im (S.h.inj aC id blk' _ b h1 ab U (.root (by simp) hb))
    obtain ⟨a1,a2⟩:=yi k2 (blk:= .arr e (es.take hh.toNat) false) (w':=w) jL pT (dO rfl) (fun _ _ _=>rfl) (bX _) ⟨rfl,rfl⟩ (S.h.rj id _ b ab (by simp) hb)
     (fun b' h=>(cU (h.flat (by simp))).symm) (fun hle=> .arr au rfl Cp (by rw[iN];exact lq (dk _ (by omega)) oM) (fun h=>by cases h) (fun _=>dO rfl) fun i j y t' hy ht hj=>by
      have qb:=(bj.1 hy).1
      rw[iN] at qb
      rw[eD qb] at hy
      obtain ⟨v,hv,hp⟩:=lH i j y t' hy ht hj
      exact ⟨v,hv,hp.mono hle.cY hle.bQ⟩)
    refine ⟨_,w,I,_,cK,k1.trans a1,a2,?_⟩
    have:=ao.whole (P:=P) (w:=w) (I:=I) (β:=aG β nb (some b)) (hp:=aG (aG hp id (some .dead)) nb (some (.arr e (es.take hh.toNat) false))) (cap:=cap) (cJ _ _ _) (cJ _ _ _) yC (by rw[iN];omega) hm
    rw[iN] at this
    exact this
theorem qd {t:TypeId} {x:V} (h:oy P t x=true):
  (∃q n,P.underlying t=some (.int q)∧x= .int q n∧Fz q n=true)∨(∃b,P.underlying t=some .bool∧x= .bool b)∨(∃s,P.underlying t=some .string∧x= .str s∧s.length≤maxLen):=by
 unfold oy at h
 split at h
 ·rename_i q q' n hu
  simp only[aI,dJ] at h
  obtain ⟨rfl,h⟩:=h
  exact .inl ⟨_,_,hu,rfl,h⟩
 ·rename_i b hu
  exact .inr (.inl ⟨_,hu,rfl⟩)
 ·rename_i s hu
  exact .inr (.inr ⟨_,hu,rfl,by simpa using h⟩)
 ·cases h
theorem size_data (s:ByteArray):s.data.toList.length=s.size:=by simp
theorem VT {q:IntKind} {n:Int} (h:Fz q n=true):(Lit.int q n).wf=true:=h
theorem L5 {t:TypeId} {x:V} {v:Value} (h:oy P t x=true) (hv:iL v x): ∃l,mapKey P t v=some l∧∀d,P.keyLits (d+1) t [v]=some [l]:=by
 rcases qd h with ⟨q,n,hu,rfl,hn⟩|⟨b,hu,rfl⟩|⟨s,hu,rfl,hs⟩
 ·obtain rfl:v= .int q n:=hv
  have hw:=VT hn
  exact ⟨.int q n,by simp[mapKey,hu,hw],fun d=>by simp[Program.keyLits,hu,hw]⟩
 ·obtain rfl:v= .bool b:=hv
  exact ⟨.bool b,by simp[mapKey,hu],fun d=>by simp[Program.keyLits,hu]⟩
 ·obtain ⟨s',rfl,oN⟩:=hv
  have:s'.size≤maxLen:=by rw[←size_data,oN];exact hs
  exact ⟨.string s'.data.toList,by simp[mapKey,hu,this],fun d=>by simp[Program.keyLits,hu,this]⟩
theorem GG {t:TypeId}: ∀{xs:List V} {j:Nat} {x:V},pE P t xs=true→xs[j]? =some x→oy P t x=true
 | [],j,x,_,h=>by simp at h
 | y::ys,0,x,h,hx=>by
  simp only[pE,aI] at h
  simp at hx;subst hx;exact h.1
 | y::ys,j+1,x,h,hx=>by
  simp only[pE,aI] at h
  exact GG (j:=j) h.2 (by simpa using hx)
theorem mapM_some {α β:Type} {f:α→Option β}: ∀{l:List α},(∀a∈l,∃b,f a=some b)→∃bs,l.mapM f=some bs
 | [],_=>⟨[],rfl⟩
 | a::l,h=>by
  obtain ⟨b,hb⟩:=h a (qR ..)
  obtain ⟨bs,gr⟩:=mapM_some (l:=l) fun x hx=>h x (kJ _ hx)
  exact ⟨b::bs,by simp[List.mapM_cons,hb,gr]⟩
inductive GH (P:Program) (t:TypeId) (x:V):Prop
 | one:oy P t x=true→x.cells=[x]→GH P t x
 | arr {n:Nat} {e:TypeId} {xs:List V}:x= .agg xs→WideMaps.ArrKey P t e n→xs.length=n→0<P.types.size→pE P e xs=true→GH P t x
theorem vj {t:TypeId} {x:V} (h:mw P t x=true):GH P t x:=by
 unfold mw at h
 split at h
 ·rename_i n e xs hu
  simp only[aI,aP] at h
  rw[jv] at h
  exact .arr rfl ⟨hu,h.2.2.2.1,h.2.1,h.2.2.1⟩ h.1 h.2.2.2.2.1 h.2.2.2.2.2
 ·refine .one h ?_
  rcases qd h with ⟨q,n,hu,rfl,hn⟩|⟨b,hu,rfl⟩|⟨s,hu,rfl,hs⟩<;>rfl
theorem pM.one {x:V} {v:Value} (h:pM v x) (hx:x.cells=[x]):iL v x:=by
 cases x<;>first|exact h|skip
 simp only[V.cells] at hx
 rename_i cs
 have:=congrArg List.length hx
 cases cs with
 | nil=>simp at hx
 | cons c cs=>
  simp only[List.cons.injEq] at hx
  have:=congrArg SizeOf.sizeOf hx.1
  simp at this
  omega
theorem Cq {t:TypeId} {x:V} {v:Value} (h:mw P t x=true) (hv:pM v x): ∃l,Go.keyOf P t v=some l:=by
 cases vj h with
 | one h1 hx=>
  obtain ⟨l,hl,_⟩:=L5 h1 (hv.one hx)
  refine ⟨l,?_⟩
  rcases qd h1 with ⟨q,n,hu,_⟩|⟨b,hu,_⟩|⟨s,hu,_⟩<;>simp only[Go.keyOf,hu,hl]
 | @arr n e xs hx A hl hp0 hf=>
  subst hx
  obtain ⟨cs,rfl,hs,hc⟩:=hv
  obtain ⟨m,hm⟩: ∃m,P.types.size=m+1:=⟨P.types.size-1,by omega⟩
  have VU:=A.keyType ⟨m,hm⟩
  have hlen:cs.toList.length=P.cellsOf t:=by rw[A.size];simp[hs,hl]
  have VV:(Value.agg cs).formed P t=true:=by simp[Value.formed,A.hu,A.size,hs,hl]
  have hex: ∀i∈List.range n,∃y,P.keyLits (m+1) e (((Value.agg cs).cells.toList.drop (i*P.cellsOf e)).take (P.cellsOf e))=some y:=by
   intro i hi
   have hi:=List.mem_range.1 hi
   rw[A.one]
   have fJ:i<cs.size:=by omega
   have b8:i<xs.length:=by omega
   obtain ⟨l,_,U⟩:=L5 (GG hf (bq b8)) (hc i cs[i] xs[i] (j8 fJ) (bq b8))
   have e1:((Value.agg cs).cells.toList.drop (i*1)).take 1=[cs[i]]:=by
    show (cs.toList.drop (i*1)).take 1=_
    rw[ml,List.drop_eq_getElem_cons (by simpa using fJ)]
    simp
   rw[e1]
   exact ⟨_,U m⟩
  obtain ⟨bs,gr⟩:=mapM_some hex
  refine ⟨.string (keyBytes bs.flatten),?_⟩
  have VW:(Value.agg cs).cells.toList.length=P.cellsOf t:=hlen
  unfold Go.keyOf
  rw[A.hu]
  simp only[VU,VV,Bool.and_self,dj]
  unfold Program.keyLits
  rw[A.hu,hm]
  simp only[VW,dj,gr,Option.map_some]
theorem GI {t:TypeId} {x:V} (h:mw P t x=true):Keyed P t:=by
 cases vj h with
 | one h1 hx=>
  rcases qd h1 with ⟨q,n,hu,_⟩|⟨b,hu,_⟩|⟨s,hu,_⟩
  ·exact int_keyed hu
  ·exact bool_keyed hu
  ·exact string_keyed hu
 | arr hx A hl _ hf=>exact Keyed.of_law A.law
theorem L6 {t:TypeId} {x y:V} {v u:Value} (h1:oy P t x=true) (U:oy P t y=true) (hv:iL v x) (hu:iL u y):uI x y=true↔v=u:=by
 rcases qd h1 with ⟨q,n,lI,rfl,_⟩|⟨b,lI,rfl⟩|⟨s,lI,rfl,_⟩<;>
 rcases qd U with ⟨q',n',lJ,rfl,_⟩|⟨b',lJ,rfl⟩|⟨s',lJ,rfl,_⟩<;>
  (rw[lI] at lJ;cases lJ)
 ·obtain rfl:v= .int q n:=hv
  obtain rfl:u= .int q n':=hu
  simp[uI]
 ·obtain rfl:v= .bool b:=hv
  obtain rfl:u= .bool b':=hu
  simp[uI]
 ·obtain ⟨s1,rfl,e1⟩:=hv
  obtain ⟨s2,rfl,e2⟩:=hu
  simp only[uI,sn,Value.string.injEq,←e1,←e2]
  constructor
  ·intro h
   have:=Array.toList_inj.1 h
   cases s1;cases s2;simp_all
  ·rintro rfl;rfl
theorem L7 {t:TypeId}: ∀{xs ys:List V} {vs us:List Value},pE P t xs=true→pE P t ys=true→xs.length=ys.length→vs.length=xs.length→us.length=ys.length→
  (∀(j:Nat) v x,vs[j]? =some v→xs[j]? =some x→iL v x)→(∀(j:Nat) v x,us[j]? =some v→ys[j]? =some x→iL v x)→(sy xs ys=true↔vs=us)
 | [],[],vs,us,_,_,_,h1,U,_,_=>by
  have e1:=kI (l:=vs) (by simpa using h1)
  have e2:=kI (l:=us) (by simpa using U)
  simp[sy,e1,e2]
 | [],_::_,_,_,_,_,h,_,_,_,_=>by simp at h
 | _::_,[],_,_,_,_,h,_,_,_,_=>by simp at h
 | x::xs,y::ys,[],us,_,_,_,h,_,_,_=>by simp at h
 | x::xs,y::ys,v::vs,[],_,_,_,_,h,_,_=>by simp at h
 | x::xs,y::ys,v::vs,u::us,f1,f2,h,h1,U,r1,r2=>by
  simp only[pE,aI] at f1 f2
  have a:=L6 f1.1 f2.1 (r1 0 v x rfl rfl) (r2 0 u y rfl rfl)
  have b:=L7 (vs:=vs) (us:=us) f1.2 f2.2 (by simpa using h) (by simpa using h1) (by simpa using U) (fun j v x hj hx=>r1 (j+1) v x (by simpa using hj) (by simpa using hx)) (fun j v x hj hx=>r2 (j+1) v x (by simpa using hj) (by simpa using hx))
  simp only[sy,aI,a,b,List.cons.injEq]
theorem GJ {t:TypeId} {x y:V} {v u:Value} (h1:mw P t x=true) (U:mw P t y=true) (hv:pM v x) (hu:pM u y):ly x y=true↔v=u:=by
 unfold ly
 cases vj h1 with
 | one f1 c1=>
  cases vj U with
  | one f2 c2=>
   rw[c1,c2]
   simp only[sy,Bool.and_true]
   exact L6 f1 f2 (hv.one c1) (hu.one c2)
  | arr hy A hl _ hf=>
   rcases qd f1 with ⟨q,n,lI,_⟩|⟨b,lI,_⟩|⟨s,lI,_⟩<;>(rw[A.hu] at lI;cases lI)
 | arr hx A hl _ hf=>
  cases vj U with
  | one f2 c2=>
   rcases qd f2 with ⟨q,n,lI,_⟩|⟨b,lI,_⟩|⟨s,lI,_⟩<;>(rw[A.hu] at lI;cases lI)
  | arr hy A2 jx _ GK=>
   have fW:=A.hu.symm.trans A2.hu
   cases fW
   subst hx
   subst hy
   obtain ⟨cs,rfl,s1,r1⟩:=hv
   obtain ⟨ds,rfl,s2,r2⟩:=hu
   have:=L7 (vs:=cs.toList) (us:=ds.toList) hf GK (by omega) (by simpa using s1) (by simpa using s2) (fun j v x hj hx=>r1 j v x (by simpa using hj) hx) (fun j v x hj hx=>r2 j v x (by simpa using hj) hx)
   simp only[V.cells,this,Value.agg.injEq]
   exact Array.toList_inj
theorem L8 {k:V}: ∀{es:List V},(∀x∈es,ly k (x.comp 0)=false)→kN k es=false∧(∀z,lz k es z=z)∧∀v,hU k v es=es++[.aW [k,v]]
 | [],_=>⟨rfl,fun _=>rfl,fun _=>rfl⟩
 | e::es,h=>by
  have h0:=h e (qR ..)
  obtain ⟨a,b,c⟩:=L8 (k:=k) (es:=es) fun x hx=>h x (kJ _ hx)
  exact ⟨by simp[kN,h0,a],fun z=>by simp[lz,h0,b],fun v=>by simp[hU,h0,c]⟩
theorem L9 {k:V}: ∀{es:List V} {j:Nat} {k' y:V},es[j]? =some (.aW [k',y])→ly k k'=true→(∀i x,i<j→es[i]? =some x→ly k (x.comp 0)=false)→
  kN k es=true∧(∀z,lz k es z=y)∧∀v,hU k v es=es.set j (.aW [k',v])
 | [],j,k',y,h,_,_=>by simp at h
 | e::es,0,k',y,h,he,_=>by
  simp at h
  subst h
  exact ⟨by simp[kN,V.comp,V.nth,he],fun z=>by simp[lz,V.comp,V.nth,he],fun v=>by simp[hU,V.comp,V.nth,he]⟩
 | e::es,j+1,k',y,h,he,aL=>by
  have h0:=aL 0 e (by omega) rfl
  obtain ⟨a,b,c⟩:=L9 (k:=k) (es:=es) (j:=j) (by simpa using h) he fun i x hi hx=>aL (i+1) x (by omega) (by simpa using hx)
  exact ⟨by simp[kN,h0,a],fun z=>by simp[lz,h0,b],fun v=>by simp[hU,h0,c]⟩
theorem Ma {kt vt:TypeId} {E:Array MapEntry} {es:List V} {k:V} {kv:Value} (hs:E.size=es.length) (hx: ∀(j:Nat) (e:MapEntry) (x:V),E[j]? =some e→es[j]? =some x→BK P kt vt e x)
  (hn:E.toList.Pairwise (fun a b=>a.key≠b.key)) (hk:mw P kt k=true) (Cr:pM kv k) (w:World):
  ((Instr.findKey kt kv E.toList).run P w= .ok none w∧(∀e∈E.toList,e.key≠kv)∧kN k es=false∧(∀z,lz k es z=z)∧∀v,hU k v es=es++[.aW [k,v]])∨
  ∃j e k' y,(Instr.findKey kt kv E.toList).run P w= .ok (some (j,e.val)) w∧E[j]? =some e∧e.key=kv∧es[j]? =some (.aW [k',y])∧mw P kt k'=true∧pM kv k'∧ep P vt y=true∧iL e.val y∧
   kN k es=true∧(∀z,lz k es z=y)∧∀v,hU k v es=es.set j (.aW [k',v]):=by
 have K:=GI hk
 obtain ⟨l,hl⟩:=Cq hk Cr
 have Mb: ∀(j:Nat) x,es[j]? =some x→∃e,E[j]? =some e∧BK P kt vt e x:=by
  intro j x hj
  have aL:j<E.size:=by rw[hs];exact (bj.1 hj).1
  exact ⟨E[j],j8 aL,hx j _ x (j8 aL) hj⟩
 have keys: ∀e∈E.toList,∃l,Go.keyOf P kt e.key=some l:=by
  intro e he
  obtain ⟨j,hj⟩:=qP he
  have fU:E[j]? =some e:=by simpa using hj
  have aL:j<es.length:=by rw[←hs];exact (gG.1 fU).1
  obtain ⟨k',y,_,h1,U,_⟩:=hx j e es[j] fU (bq aL)
  exact Cq h1 U
 rcases K.find w hl E.toList keys with ⟨h1,U⟩|⟨j,e,h1,U,h3⟩
 ·left
  refine ⟨h1,U,L8 fun x VX=> ?_⟩
  obtain ⟨j,hj⟩:=qP VX
  obtain ⟨e,he,k',y,rfl,f1,f2,_⟩:=Mb j x hj
  cases hq:ly k (V.comp (.aW [k',y]) 0) with
  | false=>rfl
  | true=>
   have:=(GJ hk f1 Cr f2).1 hq
   exact absurd this.symm (U e (iZ (by simpa using he)))
 ·right
  have hE:E[j]? =some e:=by simpa using U
  have aL:j<es.length:=by rw[←hs];exact (gG.1 hE).1
  obtain ⟨k',y,hy,f1,f2,f3,f4⟩:=hx j e es[j] hE (bq aL)
  have hj:=bq aL
  rw[hy] at hj
  rw[h3] at f2
  refine ⟨j,e,k',y,h1,hE,h3,hj,f1,f2,f3,f4,L9 hj ((GJ hk f1 Cr f2).2 rfl) fun i x hi fS=> ?_⟩
  obtain ⟨e',gv,k2,y2,rfl,g1,g2,_⟩:=Mb i x fS
  cases hq:ly k (V.comp (.aW [k2,y2]) 0) with
  | false=>rfl
  | true=>
   have:=(GJ hk g1 Cr g2).1 hq
   have i1:i<E.toList.length:=by have:=(bj.1 fS).1;simp;omega
   have i2:j<E.toList.length:=by simp;omega
   have:=Bg.1 hn i j i1 i2 hi
   have a1:E.toList[i]=e':=by
    have:E.toList[i]? =some e':=by simpa using gv
    rw[bq i1] at this;exact cU this
   have a2:E.toList[j]=e:=by
    have:=U
    rw[bq i2] at this;exact cU this
   rw[a1,a2,h3] at this
   exact absurd (by rw[← ‹kv=e'.key›]) this
theorem ao.Mc {v:Value} {x:V} (h:ao P w I β hp v x) {t:TypeId} (hx:oy P t x=true):iL v x:=by
 rcases qd hx with ⟨q,n,_,rfl,_⟩|⟨b,_,rfl⟩|⟨s,_,rfl,_⟩
 ·exact h.dE
 ·exact h.jH
 ·exact h.lD
theorem ao.Md {v:Value} {x:V} (h:ao P w I β hp v x) {t:TypeId} (hx:mw P t x=true):pM v x:=by
 cases vj hx with
 | one f c=>
  have:=h.Mc f
  cases x<;>first|exact this|cases this
 | arr hx A hl _ hf=>
  subst hx
  obtain ⟨cs,rfl,h1,U⟩:=h.km
  exact ⟨cs,rfl,h1,fun j u y hu hy=>(U j u y hu hy).Mc (GG hf hy)⟩
theorem Me {vt:TypeId} {y:V} (h:mapVal P vt=true) (ht:ep P vt y=true):(∃q n,P.underlying vt=some (.int q)∧y= .int q n)∨∃b,P.underlying vt=some .bool∧y= .bool b:=by
 unfold mapVal at h
 unfold ep at ht
 split at h
 ·rename_i q hu
  rw[hu] at ht
  cases y<;>first|(simp at ht;done)|skip
  simp only[dJ] at ht
  subst ht
  exact .inl ⟨_,_,hu,rfl⟩
 ·rename_i hu
  rw[hu] at ht
  cases y<;>first|(simp at ht;done)|skip
  exact .inr ⟨_,hu,rfl⟩
 ·cases h
theorem iL.GL {vt:TypeId} {v:Value} {y:V} (h:mapVal P vt=true) (ht:ep P vt y=true) (hv:iL v y):ao P w I β hp v y:=by
 rcases Me h ht with ⟨q,n,_,rfl⟩|⟨b,_,rfl⟩
 ·obtain rfl:v= .int q n:=hv;exact .int
 ·obtain rfl:v= .bool b:=hv;exact .bool
theorem ao.VY {vt:TypeId} {v:Value} {y:V} (h:mapVal P vt=true) (ht:ep P vt y=true) (hv:ao P w I β hp v y):iL v y:=by
 rcases Me h ht with ⟨q,n,_,rfl⟩|⟨b,_,rfl⟩
 ·exact hv.dE
 ·exact hv.jH
theorem VZ {vt:TypeId} {z:V} (h:Bv P vt=some z) (w:World): ∃v,(zeroValue vt).run P w= .ok v w∧iL v z:=by
 unfold Bv at h
 cases hi:P.info? vt with
 | none=>rw[hi] at h;cases h
 | some i=>
  rw[hi] at h
  simp only[Option.bind_some] at h
  cases hz:i.zero with
  | none=>rw[hz] at h;cases h
  | some v=>
   rw[hz] at h
   refine ⟨v,by simp[zeroValue,typeInfo,hi,hz],?_⟩
   cases v<;>simp only at h<;>first|(cases h;done)|skip
   ·cases h;rfl
   ·cases h;rfl
theorem GM {t kt vt:TypeId} (h:kO P t=some (kt,vt)):P.underlying t=some (.map kt vt):=by
 unfold kO at h
 split at h
 ·rename_i k e hu;cases h;exact hu
 ·cases h
theorem GN (S:aE P w I β hp B M w0) {ok:Bool} {v:Value} {x:V} {b:Bool} {r:R} {rd:List Nat} {res:Result Value} (hv:ao P w I β hp v x)
  (hr:res= .ok (if ok then .tuple #[v,.bool b] else v) w) (h:(Bw ok x b).run C hp=some (r,rd)):cM P res w I β hp B M w0 r:=by
 unfold Bw at h
 obtain rfl:=aM h
 cases ok with
 | false=>exact .same S hr hv
 | true=>
  refine .same S hr (.aW rfl fun j u y hu hy=> ?_)
  match j,hu,hy with
  | 0,hu,hy=>simp at hu hy;subst hu;subst hy;exact hv
  | 1,hu,hy=>simp at hu hy;subst hu;subst hy;exact .bool
  | j+2,hu,hy=>simp at hy
theorem V0 (S:aE P w I β hp B M w0) {t kt vt:TypeId} (ht:kO P t=some (kt,vt)) {m k:Value} {mx kx:V} {ok:Bool} {r:R} {rd:List Nat} (hm:ao P w I β hp m mx) (hk:ao P w I β hp k kx)
  (h:(FA P t mx kx ok).run C hp=some (r,rd)):cM P ((Instr.lookup t m k ok).run P w) w I β hp B M w0 r:=by
 unfold FA at h
 rw[ht] at h
 simp only at h
 cases hz:Bv P vt with
 | none=>rw[hz] at h;cases h
 | some z=>
  rw[hz] at h
  obtain ⟨hc,h'⟩:=aF h
  clear h
  have h:=h'
  clear h'
  simp only[aI] at hc
  obtain ⟨oO,yE,Cs⟩:=hc
  have hu:=GM ht
  have vk:=hk.Md oO
  have K:=GI oO
  obtain ⟨l,hl⟩:=Cq oO vk
  obtain ⟨zv,Mf,Mg⟩:=VZ hz w
  cases mx<;>simp only at h<;>first|(cases h;done)|skip
  ·rename_i t' id
   obtain ⟨kX,h'⟩:=aF h
   clear h
   have h:=h'
   clear h'
   rw[aP] at kX
   subst kX
   obtain ⟨l2,h'⟩:=run_get h
   clear h
   have h:=h'
   clear h'
   cases ab:hp id with
   | none=>rw[ab] at h;cases h
   | some blk=>
    rw[ab] at h
    cases blk<;>simp only at h<;>first|(cases h;done)|skip
    rename_i t2 es
    obtain ⟨kX,h'⟩:=aF h
    clear h
    have h:=h'
    clear h'
    rw[aP] at kX
    subst kX
    cases hm with
    | gP hd=>rw[ab] at hd;cases hd
    | @cb _ _ b aJ hd hb=>
     rw[ab] at hd
     cases hd
     have hr:=S.h.rel id _ ab
     cases hr with
     | @map _ Mh Mi _ b' clock E fm ay hh hs hI hx hn=>
      rw[hb] at ay;cases ay
      rw[hu] at fm;cases fm
      rcases Ma hs hx hn oO vk w with ⟨h1,_,h3,h4,_⟩|⟨j,e,k',y,h1,_,_,_,_,_,h6,h7,h3,h4,_⟩
      ·rw[h3,h4,yl Cs] at h
       refine GN S (iL.GL yE Cs Mg) ?_ h
       unfold Instr.lookup
       simp only[Sem.run_bind,run_underlying hu,Result.andThen_ok,Go.MapKept.run_getObj_map hh,Sem.run_pure,K.check w E.isEmpty hl,h1,Mf]
      ·rw[h3,h4,yl h6] at h
       refine GN S (iL.GL yE h6 h7) ?_ h
       unfold Instr.lookup
       simp only[Sem.run_bind,run_underlying hu,Result.andThen_ok,Go.MapKept.run_getObj_map hh,Sem.run_pure,K.check w E.isEmpty hl,h1]
  ·rename_i t'
   obtain ⟨kX,h⟩:=aF h
   cases hm
   rw[yl Cs] at h
   refine GN S (iL.GL yE Cs Mg) ?_ h
   have hf:(Instr.findKey kt k []).run P w= .ok none w:=by
    rcases K.find w hl [] (by simp) with ⟨h1,_⟩|⟨j,e,_,U,_⟩
    ·exact h1
    ·simp at U
   unfold Instr.lookup
   simp[run_underlying hu,K.check w true hl,hf,Mf]
theorem V1 (S:aE P w I β hp B M w0) {t:TypeId} {nb:Nat} {r:R} {rd:List Nat} (h:(Rd.aB (kO P t).isSome (iI nb (.map t []) (.cb t nb) [])).run C hp=some (r,rd)):
  cM P ((Instr.makeMap t none).run P w) w I β hp B M w0 r:=by
 obtain ⟨ht,h⟩:=aF h
 obtain ⟨hn,rfl⟩:=mH h
 obtain ⟨⟨kt,vt⟩,ht⟩:=xx.1 ht
 have hu:=GM ht
 have cD: ¬I w.heap.size:=fun h=>Nat.lt_irrefl _ (S.h.je _ h)
 have eu:(w.alloc (.map #[] 0)).heap[w.heap.size]? =some (.map #[] 0):=heap_alloc_new w _
 obtain ⟨a1,a2⟩:=yi S (w':=w.alloc (.map #[] 0)) (blk:= .map t []) (b:=w.heap.size) hn (fun aC blk' h ho=>Nat.lt_irrefl _ (S.h.lt h ho)) cD
  (fun b' _ aL=>heap_alloc_old w _ b' aL) (by simp) ⟨rfl,rfl⟩ (.inr S.size) (fun b' h=>(cU (h.flat (by simp))).symm)
  (fun _=> .map hu rfl eu rfl cD (fun j e x he _=>by simp at he) (by simp))
 exact ⟨_,_,_,_,Go.RowKit.run_makeMap t w,a1,a2,.cb (cJ _ _ _) (cJ _ _ _)⟩
theorem Mj (S:aE P w I β hp B M w0) {t kt vt:TypeId} (ht:kO P t=some (kt,vt)) {m k v:Value} {mx kx vx:V} {r:R} {rd:List Nat} (hm:ao P w I β hp m mx) (hk:ao P w I β hp k kx) (hv:ao P w I β hp v vx)
  (h:(Bx P t mx kx vx).run C hp=some (r,rd)):oG P ((Instr.mapUpdate t m k v).run P w) w I β hp B M w0 r:=by
 unfold Bx at h
 rw[ht] at h
 obtain ⟨hc,h'⟩:=aF h
 clear h
 have h:=h'
 clear h'
 simp only[aI] at hc
 obtain ⟨oO,yE,s7⟩:=hc
 have hu:=GM ht
 have vk:=hk.Md oO
 have u5:=ao.VY yE s7 hv
 have K:=GI oO
 obtain ⟨l,hl⟩:=Cq oO vk
 cases mx<;>simp only at h<;>first|(cases h;done)|skip
 rename_i t' id
 obtain ⟨kX,h'⟩:=aF h
 clear h
 have h:=h'
 clear h'
 rw[aP] at kX
 subst kX
 obtain ⟨l2,h'⟩:=run_get h
 clear h
 have h:=h'
 clear h'
 cases ab:hp id with
 | none=>rw[ab] at h;cases h
 | some blk=>
  rw[ab] at h
  cases blk<;>simp only at h<;>first|(cases h;done)|skip
  rename_i t2 es
  obtain ⟨kX,h'⟩:=aF h
  clear h
  have h:=h'
  clear h'
  rw[aP] at kX
  subst kX
  obtain rfl:=aM h
  cases hm with
  | gP hd=>rw[ab] at hd;cases hd
  | @cb _ _ b aJ hd hb=>
   rw[ab] at hd
   cases hd
   have hr:=S.h.rel id _ ab
   cases hr with
   | @map _ Mh Mi _ b' clock E fm ay hh hs hI hx hn=>
    rw[hb] at ay;cases ay
    rw[hu] at fm;cases fm
    have aL:b<w.heap.size:=(gG.1 hh).1
    have fin: ∀(E':Array MapEntry) (yF:Nat),(Instr.mapUpdate t (.map (some b)) k v).run P w= .ok () {w with heap:=w.heap.setIfInBounds b (.map E' yF)}→E'.size=(hU kx vx es).length→
      (∀(j:Nat) (e:MapEntry) (x:V),E'[j]? =some e→(hU kx vx es)[j]? =some x→BK P kt vt e x)→E'.toList.Pairwise (fun a b=>a.key≠b.key)→
      oG P ((Instr.mapUpdate t (.map (some b)) k v).run P w) w I β hp B M w0 ⟨.undef,[(id,.map t (hU kx vx es))]⟩:=by
     intro E' yF cK oN cf GO
     have eu:({w with heap:=w.heap.setIfInBounds b (.map E' yF)}:World).heap[b]? =some (.map E' yF):=by simp[aL]
     obtain ⟨a1,a2⟩:=BV S (w':={w with heap:=w.heap.setIfInBounds b (.map E' yF)}) (blk':= .map t (hU kx vx es)) ab (by simp) rfl hb hI (by simp)
      (fun b' ay=>by simp[Array.getElem?_setIfInBounds,Ne.symm ay]) (by simp only[bsize,eu,hh]) (by simp) ⟨rfl,rfl⟩ (fun _=> .map hu rfl eu oN hI cf GO)
     exact ⟨_,I,β,cK,a1,a2,rfl⟩
    rcases Ma hs hx hn oO vk w with ⟨h1,U,_,_,h5⟩|⟨j,e,k',y,h1,hE,Mk,kq,V2,V3,_,_,_,_,h5⟩
    ·have e5:=h5 vx
     refine fin (E.push {key:=k,val:=v,born:=clock}) (clock+1) ?_ (by rw[e5];simp[hs]) (fun j e x he pV=> ?_) ?_
     ·unfold Instr.mapUpdate
      simp only[Sem.run_bind,run_underlying hu,Result.andThen_ok,Go.MapKept.run_getObj_map hh,K.check w false hl,h1,Go.MapKept.run_setObj_map _ hh]
     ·rw[e5] at pV
      rw[Array.getElem?_push] at he
      split at he
      ·rename_i hj
       rw[hO (by omega),hj,hs,Nat.sub_self] at pV
       simp at he pV
       subst he;subst pV
       exact ⟨kx,vx,rfl,oO,vk,s7,u5⟩
      ·have hj:j<E.size:=(gG.1 he).1
       rw[hG (by omega)] at pV
       exact hx j e x he pV
     ·rw[Array.toList_push,List.pairwise_append]
      refine ⟨hn,by simp,fun a ha b' ay=> ?_⟩
      simp only[dB] at ay
      subst ay
      exact U a ha
    ·have e5:=h5 vx
     have hj:j<E.size:=(gG.1 hE).1
     refine fin (E.modify j fun e=>{e with key:=k,val:=v}) clock ?_ (by rw[e5];simp[hs]) (fun i e' x he fS=> ?_) ?_
     ·have bS:=K.stays w hl
      unfold Instr.mapUpdate
      simp only[Sem.run_bind,run_underlying hu,Result.andThen_ok,Go.MapKept.run_getObj_map hh,K.check w false hl,h1]
      simp only[hE,Option.map_some,Option.getD_some,Mk,bS,Result.andThen_ok,Go.MapKept.run_setObj_map _ hh]
     ·rw[e5] at fS
      rw[xy] at he
      rw[List.getElem?_set] at fS
      split at he
      ·rename_i s8
       subst s8
       rw[ak rfl,ak (by omega)] at fS
       rw[hE] at he
       simp at he fS
       subst he;subst fS
       exact ⟨k',vx,rfl,V2,V3,s7,u5⟩
      ·rename_i s8
       rw[ai s8] at fS
       exact hx i e' x he fS
     ·have s9: ∀i (h1:i<(E.modify j fun e=>{e with key:=k,val:=v}).toList.length) (U:i<E.toList.length),((E.modify j fun e=>{e with key:=k,val:=v}).toList[i]).key=(E.toList[i]).key:=by
       intro i h1 U
       simp only[Array.getElem_toList,Array.getElem_modify]
       split
       ·rename_i s8
        subst s8
        have:=(gG.1 hE).2
        rw[this,Mk]
       ·rfl
      rw[Bg] at hn⊢
      intro i i' h1 U im
      have g1:i<E.toList.length:=by simpa using h1
      have g2:i'<E.toList.length:=by simpa using U
      rw[s9 i h1 g1,s9 i' U g2]
      exact hn i i' g1 g2 im
theorem V4 (S:aE P w I β hp B M w0) {t ty kt vt:TypeId} {v:Value} {x:V} {r:R} {rd:List Nat} (hu:P.underlying t=some (.map kt vt)) (hv:ao P w I β hp v x)
  (h:(By x).run C hp=some (r,rd)):cM P ((Builtin.len_ #[t] ty #[v]).run P w) w I β hp B M w0 r:=by
 unfold By at h
 cases x<;>simp only at h<;>first|(cases h;done)|skip
 ·rename_i t' id
  obtain ⟨l2,h'⟩:=run_get h
  clear h
  have h:=h'
  clear h'
  cases ab:hp id with
  | none=>rw[ab] at h;cases h
  | some blk=>
   rw[ab] at h
   cases blk<;>simp only at h<;>first|(cases h;done)|skip
   rename_i t2 es
   obtain rfl:=aM h
   cases hv with
   | gP hd=>rw[ab] at hd;cases hd
   | @cb _ _ b aJ hd hb=>
    rw[ab] at hd
    cases hd
    have hr:=S.h.rel id _ ab
    cases hr with
    | @map _ Mh Mi _ b' clock E fm ay hh hs hI hx hn=>
     rw[hb] at ay;cases ay
     refine .same S (v:= .int .i64 E.size) (by simp[Builtin.len_,run_underlying hu,Go.MapKept.run_getObj_map hh,goInt]) ?_
     rw[hs]
     exact .int
 ·obtain rfl:=aM h
  cases hv
  exact .same S (v:= .int .i64 0) (by simp[Builtin.len_,run_underlying hu,goInt]) .int
theorem ao.GP {v:Value} {t:TypeId} (h:ao P w I β hp v (.db t)):v= .map none:=by cases h;rfl
theorem ao.V5 {v:Value} {t t':TypeId} {id:Nat} {es:List V} (h:ao P w I β hp v (.cb t id)) (ab:hp id=some (.map t' es)): ∃b,v= .map (some b):=by
 cases h with
 | gP h=>rw[ab] at h;cases h
 | cb h hb=>exact ⟨_,rfl⟩
theorem Ml (S:aE P w I β hp B M w0) {op:BinOp} {t:TypeId} {a:Option Nat} {r:R} {rd:List Nat} (x y:Operand)
  (h:(Bs P op t a.isNone).run C hp=some (r,rd)):cM P ((do eqGuard op t x y (.map a) (.map none);binOp op t (.map a) (.map none)).run P w) w I β hp B M w0 r:=by
 unfold Bs at h
 split at h
 case h_2=>cases h
 rename_i kt vt hu
 have he:(Op.equal t (.map a) (.map none)).run P w= .ok a.isNone w:=by
  show (Op.equalIn (9999+1) t (.map a) (.map none)).run P w=_
  rw[Op.equalIn]
  cases a<;>simp[Sem.run_bind,run_underlying hu,Result.andThen_ok,Sem.run_pure]
 cases op<;>simp only at h<;>first|(cases h;done)|skip
 ·obtain rfl:=aM h
  exact .same S (by simp[eqGuard,binOp,he]) .bool
 ·obtain rfl:=aM h
  exact .same S (by simp[eqGuard,binOp,he]) .bool
end
end Go.AM
namespace Go.AM
section
variable {P:Program} {w w':World} {I I':Nat→Prop} {β β':Nat→Option Nat} {hp hp':Nat→Option an} {C:ag} {B:Nat} {M:Nat→Prop} {w0:Start}
theorem V6 {e:TypeId} (he:P.underlying e=some (.int .u8)) (hc:P.cellsOf e=1) (s:ByteArray): ∀(i j:Nat) (x:V) (t':TypeId),(s.data.toList.map dc)[i]? =some x→(aQ P e)[j]? =some t'→j<P.cellsOf e→
  ∃u,(Lib.strCells s)[i*P.cellsOf e+j]? =some u∧Pure P w I t' u (bC P e x j):=by
 intro i j x t' hx ht hj
 have mK:bA P e=false:=by simp[bA,he]
 obtain rfl:j=0:=by omega
 simp only[aQ,mK,cond_false,List.getElem?_cons_zero,dC] at ht
 subst ht
 rw[eT] at hx
 cases hb:s.data.toList[i]? with
 | none=>rw[hb] at hx;cases hx
 | some b=>
  rw[hb] at hx
  cases hx
  refine ⟨.int .u8 b.toNat,?_,?_⟩
  ·rw[hc,ml,Nat.add_zero]
   simp only[Lib.strCells,eT,hb,Option.map_some]
  ·simp only[bC,mK,cond_false]
   exact .int he
theorem V7 (w:World) (t u ty e:TypeId) (i:TypeInfo) (z:Value) (ht:P.underlying t=some (.slice e)) (hu:P.underlying u=some .string) (hi:P.info? e=some i) (hz:i.zero=some z)
  (s:ByteArray) (h0:0<s.size) (Cm:(s.size:Int)≤9223372036854775807) (Cn:s.size*i.bytes≤281474976710656) (a0:Option Addr):
  (Builtin.append_ #[t,u] ty #[.slice a0 0 0,.string s]).run P w=
   .ok (.slice (some ⟨w.heap.size,0,none⟩) s.size (grownCap w s.size 0 e))
    (w.drew.alloc (.cells (s.data.map (fun b=>Value.int .u8 b.toNat)++Builtin.zeroCells z.cells (grownCap w s.size 0 e-s.size)) e)):=by
 cases a0 with
 | none=>exact run_append_nil_string w t u ty e i z ht hu hi hz s h0 Cm Cn
 | some b=>
  rw[←run_append_nil_string w t u ty e i z ht hu hi hz s h0 Cm Cn]
  have hn:s.size≠0:=by omega
  have V8: ¬(9223372036854775807<(s.size:Int)):=by omega
  have V9: ¬(281474976710656<Builtin.nextslicecap s.size 0*i.bytes):=by rw[nextslicecap_zero h0];omega
  simp[Builtin.append_,run_underlying ht,run_underlying hu,sizeOf,typeInfo,zeroValue,hi,hz,Builtin.lenOf,Builtin.firstCells,hn,V8,V9,Question.forced,newRow,grownCap,loadCells,loadCellsFrom]
theorem Mm (S:aE P w I β hp B M w0) {t u ty e:TypeId} {nb:Nat} {x:ByteArray} {xs:List V} {i:TypeInfo} {z:Value} (hu:P.underlying t=some (.slice e)) (nQ:P.underlying u=some .string) (au:cH P e=true) (hn:hp nb=none)
 (hi:P.info? e=some i) (hz:i.zero=some z) (h3:i.size=P.cellsOf e) (h4:z.cells.size=P.cellsOf e) (vl:i.size=1) (lG:P.bytesOf e=i.bytes) (dz:xs.length*P.bytesOf e≤cB) (lK:xs.length=x.size) (jJ:(Lib.strCells x).length=x.size)
 (cI: ∀(i j:Nat) (y:V) (t':TypeId),xs[i]? =some y→(aQ P e)[j]? =some t'→j<P.cellsOf e→∃u,(Lib.strCells x)[i*P.cellsOf e+j]? =some u∧Pure P w I t' u (bC P e y j)):
 ∀a0,∃v w' β',(Builtin.append_ #[t,u] ty #[.slice a0 0 0,.string x]).run P w= .ok v w'∧Le P w I β hp w' I β' (aG hp nb (some (.arr e xs false)))∧aE P w' I β' (aG hp nb (some (.arr e xs false))) B M w0∧
  ao P w' I β' (aG hp nb (some (.arr e xs false))) v (.whole e nb):=by
 intro a0
 have s4:=uV au
 have hlen:xs.length≤2^45:=by
  have:xs.length*1≤xs.length*P.bytesOf e:=sj _ s4
  simp only[cB] at dz
  omega
 by_cases h0:x.size=0
 ·have fV:xs=[]:=kI (by omega)
  subst fV
  obtain ⟨a1,a2⟩:=BT S e hn
  have hf:=Lib.run_firstCells_string (P:=P) w 1 x
  rw[h0] at hf
  have p6:Lib.strCells x=[]:=kI (by omega)
  exact ⟨.slice a0 0 0,_,_,by cases a0<;>simp[storeCells,p6,Builtin.append_,run_underlying hu,run_underlying nQ,sizeOf,typeInfo,hi,vl,Builtin.lenOf,h0,hf],a1,a2,.dq (cJ _ _ _) (cJ _ _ _)⟩
 ·have cK:=V7 (P:=P) w t u ty e i z hu nQ hi hz x (by omega) (by omega) (by rw[←lG,←lK];simp only[cB] at dz;omega) a0
  have e1:(x.data.map fun b=>Value.int .u8 b.toNat)=(Lib.strCells x).toArray:=by
   apply Array.ext'
   simp[Lib.strCells]
  rw[e1,←lK] at cK
  have oK:=grownCap_ge w xs.length 0 e
  have s5:grownCap w xs.length 0 e≤maxLen:=grownCap_le_maxLen w xs.length 0 e (by simp only[maxLen];omega)
  obtain ⟨n1,n2,n3⟩:=vg S.drew (nb:=nb) (cap:=grownCap w xs.length 0 e) (es:=xs) (C0:=(Lib.strCells x).toArray++Builtin.zeroCells z.cells (grownCap w xs.length 0 e-xs.length)) au hn
   (by
    have:(Lib.strCells x).length=xs.length*P.cellsOf e:=by rw[jJ,lK,←h3,vl,ml]
    simp only[Be,pt,size_zeroCells,h4,this,←c7];congr 1;omega) oK s5
   (fun i' j y t' hy ht hj=>by
    obtain ⟨u,fm,hp⟩:=cI i' j y t' hy ht hj
    have aL:=(bj.1 fm).1
    refine ⟨u,?_,Pure.drew hp⟩
    rw[Array.getElem?_append_left (by simpa using aL)]
    simpa using fm)
  exact ⟨_,_,_,cK,(Le.drew w I β hp).trans n1,n2,n3⟩
theorem Wa (S:aE P w I β hp B M w0) {t u ty e:TypeId} {nb:Nat} {s:Value} {sv:V} {x:ByteArray} {r:R} {rd:List Nat} (hu:P.underlying t=some (.slice e)) (nQ:P.underlying u=some .string) (he:P.underlying e=some (.int .u8)) (hs:ao P w I β hp s sv)
  (h:(uJ P nb e sv (.list e (x.data.toList.map dc))).run C hp=some (r,rd)):cM P ((Builtin.append_ #[t,u] ty #[s,.string x]).run P w) w I β hp B M w0 r:=by
 unfold uJ at h
 obtain ⟨au,h⟩:=aF h
 simp only[qZ] at h
 obtain ⟨_,h⟩:=aF h
 have mK:bA P e=false:=by simp[bA,he]
 have dt:P.cellsOf e=1:=by rw[←(jG au).1,ye mK];rfl
 obtain ⟨i,z,hi,hz,h3,h4,_⟩:=jK au
 have vl:i.size=1:=by rw[h3,dt]
 have s4:=uV au
 have lG:P.bytesOf e=i.bytes:=by simp[Program.bytesOf,hi]
 have Ct:=V6 (P:=P) (w:=w) (I:=I) he dt x
 have lK:(x.data.toList.map dc).length=x.size:=by simp
 have jJ:(Lib.strCells x).length=x.size:=Lib.strCells_length x
 have h1:=Lib.strCells_oneCell x
 generalize fV:x.data.toList.map dc=xs at*
 cases sv with
 | nilS e'=>
  obtain ⟨hc,h⟩:=aF h
  simp only[aI,aP,dK] at hc
  obtain ⟨hn,rfl⟩:=mH h
  obtain ⟨a0,rfl⟩: ∃a0,s= .slice a0 0 0:=by cases hs;exact ⟨_,rfl⟩
  obtain ⟨v,w',β',a1,a2,a3,a4⟩:=Mm S hu nQ au hn hi hz h3 h4 vl lG hc.2 lK jJ Ct _
  exact ⟨v,w',I,β',a1,a2,a3,a4⟩
 | whole e' id=>
  obtain ⟨l,h⟩:=run_get h
  cases ab:hp id with
  | none=>rw[ab] at h;cases h
  | some blk=>
   rw[ab] at h
   cases blk with
   | dead=>cases h
   | var _=>cases h
   | nest _ _ _=>cases h
   | map _ _=>cases h
   | arr dm es fz=>
    cases fz with
    | true=>cases h
    | false=>
     obtain ⟨hc,h⟩:=aF h
     obtain ⟨hn,rfl⟩:=mH h
     simp only[aI,aP,dK] at hc
     obtain ⟨Gw,Gx,dz⟩:=hc
     subst Gw
     subst Gx
     have bt:nb≠id:=fun e=>by rw[e,ab] at hn;cases hn
     obtain ⟨k1,k2⟩:=BU S ab
     have jL:aG hp id (some an.dead) nb=none:=by rw[dP _ _ bt];exact hn
     cases hs with
     | dN hd=>rw[ab] at hd;cases hd
     | dW hd=>rw[ab] at hd;cases hd
     | dq hd hb=>
      rw[ab] at hd
      cases hd
      simp only[List.length_nil,gj] at dz
      obtain ⟨v,w',β',a1,a2,a3,a4⟩:=Mm k2 hu nQ au jL hi hz h3 h4 vl lG dz lK jJ Ct _
      exact ⟨v,w',I,β',a1,k1.trans a2,a3,a4⟩
     | @whole _ _ aJ my b cap hd hb aR bO hm=>
      rw[ab] at hd
      cases hd
      have hr:=S.h.rel id _ ab
      cases hr with
      | dr ay=>rw[ay] at hb;cases hb
      | @arr _ _ _ b' Ca _ ay hh oM hf dO lH=>
       rw[hb] at ay
       cases ay
       have hlen:es.length+xs.length≤2^45:=by
        have:(es.length+xs.length)*1≤(es.length+xs.length)*P.bytesOf e:=sj _ s4
        simp only[cB] at dz
        omega
       rw[mC hh] at aR
       have pT: ∀aC blk',aG hp id (some an.dead) aC=some blk'→¬bn P w (β aC) blk' b:=by
        intro aC blk' h1 U
        by_cases im:aC=id
        ·subst im;rw[cJ] at h1;cases h1;exact U.alive rfl
        ·rw[dP _ _ im] at h1
         exact im (S.h.inj aC id blk' _ b h1 ab U (.root (by simp) hb))
       have Gy:=S.h.rj id _ b ab (by simp) hb
       have kY:es.length*P.cellsOf e≤Ca.toList.length:=by simpa using oM
       have Mn:(Lib.strCells x).length=xs.length*P.cellsOf e:=by rw[jJ,lK,dt,ml]
       by_cases ry:es.length+xs.length≤cap
       ·have yB:es.length*P.cellsOf e+(Lib.strCells x).length≤Ca.size:=by rw[Mn,←c7,←aR];exact dk _ ry
        have cK:=Lib.run_append_room_string (P:=P) w t u ty e i hu nQ hi vl b es.length cap Ca hh x (by rw[←lK];exact ry) (by rw[←jJ];rw[dt,ml] at yB;exact yB)
        have cI:=Ck (P:=P) (w:=w) (I:=I) (n:=es.length) (c:=Ca.toList) rfl (fun i j y t' a b c=>by
         obtain ⟨v,hv,hp⟩:=lH i j y t' a b c
         exact ⟨v,by simpa using hv,hp⟩) Ct kY (Ca.toList.drop (es.length*P.cellsOf e+(Lib.strCells x).length))
        generalize vc:(Ca.toList.take es.length++Lib.strCells x++Ca.toList.drop (es.length+x.size)).toArray=C' at cK
        have nO:C'.size=Ca.size:=by
         rw[dt,ml] at yB
         rw[←vc];simp;omega
        have Mo:(w.setRow b C').heap[b]? =some (.cells C' e (0,0)):=setRow_heap w b Ca C' e _ hh
        obtain ⟨a1,a2⟩:=yi k2 (blk:= .arr e (es++xs) false) (w':=w.setRow b C') jL pT (dO rfl) (fun b' h _=>setRow_other w b b' _ h) (by simp) ⟨rfl,rfl⟩ Gy
         (fun b' h=>(cU (h.flat (by simp))).symm) (fun hle=> .arr au rfl Mo (by rw[nO,←aR];exact dk _ (by simpa using ry)) (fun h=>by cases h) (fun _=>dO rfl) fun i j y t' a b c=>by
          obtain ⟨v,hv,hp⟩:=cI i j y t' a b c
          refine ⟨v,?_,hp.mono hle.cY hle.bQ⟩
          rw[←vc,mj]
          rw[dt] at hv⊢
          simpa[jJ] using hv)
        refine ⟨_,_,_,_,cK,k1.trans a1,a2,?_⟩
        have a3:=ao.whole (P:=P) (w:=w.setRow b C') (I:=I) (β:=aG β nb (some b)) (hp:=aG (aG hp id (some .dead)) nb (some (.arr e (es++xs) false))) (cap:=cap) (b:=b) (es:=es++xs) (fz:=false) (id:=nb) (e:=e) (cJ _ _ _) (cJ _ _ _) (by rw[mC Mo,nO,aR]) (by simpa using ry) hm
        rw[ca,lK] at a3
        exact a3
       ·have hold: ∀(j:Nat) v,(Ca.toList.take (es.length*P.cellsOf e))[j]? =some v→w.cell? ((⟨b,0,none⟩:Addr).add j)=some v:=by
         intro j v hj
         have bR:=(bj.1 hj).1
         have fI:j<es.length*P.cellsOf e:=by rw[fe] at bR;omega
         rw[eD fI] at hj
         rw[mF,cell?_cells hh,gj]
         simpa using hj
        have cK:=Lib.run_append_grow_string (P:=P) w t u ty e i z hu nQ hi hz ⟨b,0,none⟩ es.length cap (Ca.toList.take (es.length*P.cellsOf e)) (by rw[h3];simp;omega) hold x (by omega) (by omega)
         (growslice_fits (by omega) (by rw[←lG,←lK];simp only[cB] at dz;omega))
        rw[←lK] at cK
        have oK:=grownCap_ge w (es.length+xs.length) cap e
        have s5:grownCap w (es.length+xs.length) cap e≤maxLen:=grownCap_le_maxLen w _ cap e (by simp only[maxLen];omega)
        have cI:=Ck (P:=P) (w:=w) (I:=I) (n:=es.length) (c:=Ca.toList) rfl (fun i j y t' a b c=>by
         obtain ⟨v,hv,hp⟩:=lH i j y t' a b c
         exact ⟨v,by simpa using hv,hp⟩) Ct kY (Builtin.zeroCells z.cells (grownCap w (es.length+xs.length) cap e-(es.length+xs.length))).toList
        obtain ⟨n1,n2,n3⟩:=vg k2.drew (nb:=nb) (cap:=grownCap w (es.length+xs.length) cap e) (es:=es++xs)
         (C0:=(Ca.toList.take (es.length*P.cellsOf e)).toArray++(Lib.strCells x).toArray++Builtin.zeroCells z.cells (grownCap w (es.length+xs.length) cap e-(es.length+xs.length))) au jL
         (by
          have e1:(Ca.toList.take (es.length*P.cellsOf e)).length=es.length*P.cellsOf e:=by simp;omega
          simp only[Be,pt,size_zeroCells,h4,Mn,e1,←c7];congr 1;omega) (by simpa using oK) s5
         (fun i j y t' a b c=>by
          obtain ⟨v,hv,hp⟩:=cI i j y t' a b c
          refine ⟨v,?_,Pure.drew hp⟩
          rw[←qQ]
          simpa using hv)
        rw[ca] at n3
        exact ⟨_,_,_,_,cK,(k1.trans (Le.drew w I β _)).trans n1,n2,n3⟩
 | _=>cases h
end
section
variable {P:Program} {w w':World} {I I':Nat→Prop} {β β':Nat→Option Nat} {hp hp':Nat→Option an} {C:ag} {B:Nat} {M:Nat→Prop} {w0:Start}
theorem Mp: ∀(ns:List Int) (s:ByteArray),(ns.foldl (fun r n=>r.push (UInt8.ofNat n.toNat)) s).data.toList=s.data.toList++ns.map fun n=>UInt8.ofNat n.toNat
 | [],s=>by simp
 | n::ns,s=>by
  simp only[List.foldl_cons,Mp ns,cG]
  simp[ByteArray.push]
theorem GQ {e:TypeId} {u:Value} {x:V} (he:P.underlying e=some (.int .u8)) (hp:Pure P w I e u x):u= .int .u8 x.toInt:=by
 cases hp with
 | int hp'=>rw[he] at hp';cases hp';rfl
 | bool hp'=>rw[he] at hp';cases hp'
 | str hp'=>rw[he] at hp';cases hp'
 | nil hp'=>rw[he] at hp';cases hp'
 | emp hp'=>rw[he] at hp';cases hp'
 | list _ hp'=>rw[he] at hp';cases hp'
theorem Wb (S:aE P w I β hp B M w0) {src dst e:TypeId} {v:Value} {x:V} {r:R} {rd:List Nat} (hs:P.underlying src=some (.slice e)) (he:P.underlying e=some (.int .u8)) (hd:P.underlying dst=some .string)
  (hv:ao P w I β hp v x) (h:(Rd.aB (cH P e) (qZ e x fun es=> .ret ⟨.str (ka es),[]⟩)).run C hp=some (r,rd)):cM P ((convert src dst v).run P w) w I β hp B M w0 r:=by
 obtain ⟨au,h⟩:=aF h
 obtain ⟨xs,hx,l,h⟩:=Cj S.h.rel au hv h
 obtain rfl:=aM h
 have mK:bA P e=false:=by simp[bA,he]
 have h1:P.cellsOf e=1:=by rw[←(jG au).1,ye mK];rfl
 rcases hx with ⟨⟨a,rfl⟩,rfl⟩|⟨a,c,news,hr⟩
 ·refine .same S (v:= .string .empty) ?_ (.str (by simp[ka]))
  rw[run_convert_bytes_string w src dst e a 0 0 hs he hd]
  cases a<;>simp[Conv.bytesToString,loadCells,loadCellsFrom]
 ·have Cl:news=(xs.map V.toInt).map (Value.int .u8):=by
   apply List.ext_getElem?
   intro j
   by_cases hj:j<xs.length
   ·obtain ⟨u,hu,hp⟩:=hr.el j 0 xs[j] e (bq hj) (by simp[aQ,mK]) (by omega)
    rw[h1] at hu
    simp only[bC,mK,cond_false] at hp
    have fm:news[j]? =some u:=by simpa using hu
    rw[fm]
    have:=GQ he hp
    simp[hj,←this]
   ·have hl:news.length=xs.length:=by rw[hr.len,h1];simp
    rw[xr (by omega),xr (by simp;omega)]
  have GR:=run_loadCells_list (P:=P) w a news hr.cell
  have hl:news.length=xs.length:=by rw[hr.len,h1];simp
  rw[hl] at GR
  rw[Cl] at GR
  refine .same S (v:= .string ((xs.map V.toInt).foldl (fun r n=>r.push (UInt8.ofNat n.toNat)) ByteArray.empty)) ?_ (.str ?_)
  ·rw[hr.val,run_convert_bytes_string w src dst e _ _ _ hs he hd]
   exact run_bytesToString w a xs.length c (xs.map V.toInt) GR
  ·rw[Mp]
   simp[ka]
theorem ao.Cu {v:Value} (h:ao P w I β hp v .c9):v= .pointer none:=by cases h;rfl
section
variable (w:World)
theorem Wc (t e:TypeId) (a:Addr) (h:P.underlying t=some (.pointer e)):(binOp .eql t (.pointer (some a)) (.pointer none)).run P w= .ok (.bool false) w:=by
 have h0: ∀d:Nat,(Op.equalIn (d+1) t (.pointer (some a)) (.pointer none)).run P w= .ok false w:=fun d=>by simp[Op.equalIn,run_underlying h]
 simp only[binOp]
 simp[Op.equal,Op.maxDepth,h0 9999]
theorem Wd (t e:TypeId) (a:Addr) (h:P.underlying t=some (.pointer e)):(binOp .neq t (.pointer (some a)) (.pointer none)).run P w= .ok (.bool (!false)) w:=by
 have h0: ∀d:Nat,(Op.equalIn (d+1) t (.pointer (some a)) (.pointer none)).run P w= .ok false w:=fun d=>by simp[Op.equalIn,run_underlying h]
 simp only[binOp]
 simp[Op.equal,Op.maxDepth,h0 9999]
theorem We (t e:TypeId) (a:Addr) (h:P.underlying t=some (.pointer e)):(binOp .eql t (.pointer none) (.pointer (some a))).run P w= .ok (.bool false) w:=by
 have h0: ∀d:Nat,(Op.equalIn (d+1) t (.pointer none) (.pointer (some a))).run P w= .ok false w:=fun d=>by simp[Op.equalIn,run_underlying h]
 simp only[binOp]
 simp[Op.equal,Op.maxDepth,h0 9999]
theorem Wf (t e:TypeId) (a:Addr) (h:P.underlying t=some (.pointer e)):(binOp .neq t (.pointer none) (.pointer (some a))).run P w= .ok (.bool (!false)) w:=by
 have h0: ∀d:Nat,(Op.equalIn (d+1) t (.pointer none) (.pointer (some a))).run P w= .ok false w:=fun d=>by simp[Op.equalIn,run_underlying h]
 simp only[binOp]
 simp[Op.equal,Op.maxDepth,h0 9999]
theorem Wg (t e:TypeId) (h:P.underlying t=some (.pointer e)):(binOp .eql t (.pointer none) (.pointer none)).run P w= .ok (.bool true) w:=by
 have h0: ∀d:Nat,(Op.equalIn (d+1) t (.pointer none) (.pointer none)).run P w= .ok true w:=fun d=>by simp[Op.equalIn,run_underlying h]
 simp only[binOp]
 simp[Op.equal,Op.maxDepth,h0 9999]
theorem Wh (t e:TypeId) (h:P.underlying t=some (.pointer e)):(binOp .neq t (.pointer none) (.pointer none)).run P w= .ok (.bool (!true)) w:=by
 have h0: ∀d:Nat,(Op.equalIn (d+1) t (.pointer none) (.pointer none)).run P w= .ok true w:=fun d=>by simp[Op.equalIn,run_underlying h]
 simp only[binOp]
 simp[Op.equal,Op.maxDepth,h0 9999]
end
theorem Cv (S:aE P w I β hp B M w0) {op:BinOp} {t:TypeId} {b:Bool} {x y:Operand} {v1 v2:Value} {r:R} {rd:List Nat} (h:(ptrEq P op t b).run C hp=some (r,rd)) (hg:(eqGuard op t x y v1 v2).run P w= .ok () w)
  (he: ∀e j,P.underlying t=some (.pointer e)→P.info? e=some j→(binOp .eql t v1 v2).run P w= .ok (.bool b) w∧(binOp .neq t v1 v2).run P w= .ok (.bool (!b)) w):
  cM P ((do eqGuard op t x y v1 v2;binOp op t v1 v2:Sem Value).run P w) w I β hp B M w0 r:=by
 unfold ptrEq at h
 cases hu:P.underlying t with
 | none=>rw[hu] at h;cases h
 | some d=>
  rw[hu] at h
  cases d<;>simp only at h<;>first|(cases h;done)|skip
  rename_i e
  obtain ⟨h1,U⟩:=aF h
  obtain ⟨j,hj⟩:=xx.1 h1
  obtain ⟨k1,k2⟩:=he e j hu hj
  cases op<;>simp only at U<;>first|(cases U;done)|skip
  ·obtain rfl:=aM U
   exact .same S (by simp only[Sem.run_bind,hg,Result.andThen_ok,k1]) .bool
  ·obtain rfl:=aM U
   exact .same S (by simp only[Sem.run_bind,hg,Result.andThen_ok,k2]) .bool
theorem Wi {b n:Nat}:(∀b',b'≠b→(w.freeze ⟨b,0,none⟩ n).heap[b']? =w.heap[b']?)∧bsize (w.freeze ⟨b,0,none⟩ n) b=bsize w b∧w.heap.size≤(w.freeze ⟨b,0,none⟩ n).heap.size∧(w.freeze ⟨b,0,none⟩ n).os=w.os∧(w.freeze ⟨b,0,none⟩ n).output=w.output:=by
 unfold World.freeze
 split
 ·exact ⟨fun _ _=>rfl,rfl,bX _,rfl,rfl⟩
 ·refine ⟨fun b' hb=> ?_,?_,by simp,rfl,rfl⟩
  ·simp only[xy]
   rw[ai (fun e=>hb e.symm)]
  ·simp only[bsize,xy,dj]
   cases w.heap[b]? with
   | none=>rfl
   | some o=>cases o<;>rfl
theorem Wj {e:TypeId} (hb:isByte P e=true):P.underlying e=some (.int .u8):=by
 unfold isByte at hb
 split at hb
 ·assumption
 ·cases hb
theorem Wk (S:aE P w I β hp B M w0) {ts:Array TypeId} {ty e:TypeId} {v:Value} {id:Nat} {es:List V} {fz:Bool} (hv:ao P w I β hp v (.whole e id)) (ab:hp id=some (.arr e es fz)) (h0:0<es.length):
  cM P ((Builtin.unsafeSliceData_ ts ty #[v]).run P w) w I β hp B M w0 ⟨.ptr id 0 0,[]⟩:=by
 cases hv with
 | dN h=>rw[ab] at h;cases h
 | dq h _=>rw[ab] at h;cases h;simp at h0
 | dW h _ _ _ _=>rw[ab] at h;cases h
 | @whole _ _ aJ my b cap h hb bO hle hm=>
  rw[ab] at h;cases h
  refine .same S (Lib.run_unsafeSliceData_row w ts ty ⟨b,0,none⟩ es.length cap (by omega)) ?_
  have:=ao.ptr (P:=P) (w:=w) (I:=I) (β:=β) (i:=0) (c:=0) ab (by simp) hb
  simpa using this
theorem Wl (S:aE P w I β hp B M w0) {t u ty e:TypeId} {vx:Value} {id:Nat} {n:Int} {es:List V} (hu:P.underlying t=some (.pointer e)) (hb:isByte P e=true) (hv:ao P w I β hp vx (.ptr id 0 0))
  (ab:hp id=some (.arr e es false)) (h0:0<n) (hn:n≤es.length) (hm:n.toNat≤qY) (kW:(es.take n.toNat).all uO=true):cM P ((Builtin.unsafeString_ #[t,u] ty #[vx,.int .i64 n]).run P w) w I β hp B M w0 ⟨.str (ka (es.take n.toNat)),[(id,.dead)]⟩:=by
 obtain ⟨b,GS,rfl⟩:=hv.gu ab (by simp)
 have he:P.underlying e=some (.int .u8):=by
  unfold isByte at hb
  split at hb
  ·assumption
  ·cases hb
 have mK:bA P e=false:=by simp[bA,he]
 have hr:=S.h.rel id _ ab
 rw[GS] at hr
 cases hr with
 | dr ay=>cases ay
 | @arr _ _ _ b1 Ca au kY hh hs hI cD cI=>
  cases kY
  have h1:P.cellsOf e=1:=by rw[←(jG au).1,ye mK];rfl
  have aL:=S.Uu ab (by simp) GS
  have hl:(ka (es.take n.toNat)).length=n.toNat:=by simp[ka];omega
  have GO:n=((ka (es.take n.toNat)).length:Nat):=by rw[hl];omega
  have cK:=Lib.run_unsafeString_row (P:=P) w t u ty e hu h1 b Ca.size (by simp[World.shape?,hh]) (ka (es.take n.toNat)) (fun h=>by rw[h] at hl;simp at hl;omega) (by rw[hl];rw[h1] at hs;omega) (by rw[hl];unfold qY at hm;omega) (fun j x hx=>by
   have hj:j<n.toNat:=by
    have:=(bj.1 hx).1
    rw[hl] at this;exact this
   have gR:j<es.length:=by omega
   simp only[ka,eT,eD hj,bq gR,Option.map_some,dC] at hx
   obtain ⟨v,vh,bh⟩:=cI j 0 es[j] e (bq gR) (by simp[aQ,mK]) (by omega)
   rw[h1] at vh
   simp only[bC,mK,cond_false] at bh
   have:=GQ he bh
   have hr:=eS.1 kW es[j] (iZ (by rw[eD hj];exact bq gR))
   simp only[uO,aI,dJ] at hr
   have oH:(x.toNat:Int)=es[j].toInt:=by
    rw[←hx]
    have:es[j].toInt.toNat<256:=by omega
    simp only[UInt8.toNat_ofNat']
    omega
   rw[mF,cell?_cells hh,oH]
   rw[show 0+j=j*1+0 by omega,vh,this])
  obtain ⟨f1,f2,f3,f4,f5⟩:=Wi (w:=w) (b:=b) (n:=n.toNat)
  obtain ⟨k1,k2⟩:=BV (w':=w.freeze ⟨b,0,none⟩ n.toNat) S ab (by simp) (blk':= .dead) (by trivial) GS (cD rfl) (by simp) f1 f2 f3 ⟨f4,f5⟩ (fun _=> .dead)
  rw[←GO,hl] at cK
  refine ⟨.string ⟨(ka (es.take n.toNat)).toArray⟩,_,I,β,?_,k1,k2,.str ?_⟩
  ·simpa using cK
  ·rfl
def GU:Op→Bool
 | .call {callee:= .value (.func _),..}=>true
 | .call {callee:= .value (.tmp _),..}=>true
 | .defer _=>true
 | _=>false
theorem oE.val {o:Oper} {a:Act} {s:Sem Value} {r:R} (he:execOp a.eval o=(do Pure.pure (Next.value (←s)))) (h:cM P (s.run P w) w I β hp B M w0 r):oE P ((execOp a.eval o).run P w) w I β hp B M w0 r:=by
 rw[he];exact h.op
theorem Wm {A:cm} (S:aE P w I β hp B M w0) (hg:fN P A.aD w I) {a:Act} {sl:Nat→V} (hs:ki P w I β hp a sl) {ix nb:Nat} {o:Oper} (GV:GU o.op=false) {r:R} {rd:List Nat}
  (h:(eX P A sl ix nb o).run C hp=some (r,rd)):oE P ((execOp a.eval o).run P w) w I β hp B M w0 r:=by
 obtain ⟨dst,op,ty,pos,after,guard⟩:=o
 cases op<;>simp only[eX] at h<;>first|(cases h;done)|skip
 case move x=>
  obtain rfl:=aM h
  exact ⟨_,w,I,β,.inl (by simp[execOp]),Le.refl w I β hp,S,hs.ev hg ty x⟩
 case assign x=>
  obtain rfl:=aM h
  exact ⟨_,w,I,β,.inl (by simp[execOp]),Le.refl w I β hp,S,hs.ev hg ty x⟩
 case pick c x y=>
  have hc:=hs.ev hg ty c
  cases sZ:aN P A.aD ty sl c<;>rw[sZ] at h hc<;>simp only at h<;>first|(cases h;done)|skip
  rename_i t
  have Wn:=hc.jH
  have hx:=hs.ev hg ty x
  have hy:=hs.ev hg ty y
  have fin: ∀z:V,ao P w I β hp (if t then a.eval x else a.eval y) z→oE P ((execOp a.eval ⟨dst,.pick c x y,ty,pos,after,guard⟩).run P w) w I β hp B M w0 ⟨z,[]⟩:=by
   intro z hz
   exact ⟨_,w,I,β,.inl (by simp[execOp,Wn,asBool]),Le.refl w I β hp,S,hz⟩
  cases Mq:gone (aN P A.aD ty sl x) with
  | true=>
   rw[Mq] at h
   obtain ⟨h1,h⟩:=aF h
   obtain rfl:=aM h
   have:t=false:=by simpa using h1
   subst this
   refine fin _ ?_
   simpa using hy
  | false=>
   rw[Mq] at h
   simp only[cond_false] at h
   cases Cw:gone (aN P A.aD ty sl y) with
   | true=>
    rw[Cw] at h
    obtain ⟨h1,h⟩:=aF h
    obtain rfl:=aM h
    subst h1
    refine fin _ ?_
    simpa using hx
   | false=>
    rw[Cw] at h
    obtain rfl:=aM h
    exact fin _ (La hx hy)
 case makeFunc fn x y=>
  cases fn<;>simp only[eX] at h<;>first|(cases h;done)|skip
  rename_i f
  obtain rfl:=aM h
  refine ⟨.func (.func f) (x.map a.eval) (y.map a.eval),w,I,β,.inl (by simp[execOp,Instr.makeFunc]),Le.refl w I β hp,S,.fn (by simp) (fun j v z hj hz=> ?_) (by simp) (fun j v z hj hz=> ?_)⟩
  ·rw[Array.getElem?_map] at hj
   rw[eT,qQ] at hz
   cases hx:x[j]? with
   | none=>rw[hx] at hj;cases hj
   | some o1=>
    rw[hx] at hj hz
    cases hj
    cases hz
    exact hs.ev hg ty o1
  ·rw[Array.getElem?_map] at hj
   rw[eT,qQ] at hz
   cases hx:y[j]? with
   | none=>rw[hx] at hj;cases hj
   | some o1=>
    rw[hx] at hj hz
    cases hj
    cases hz
    exact hs.ev hg ty o1
 case defer c=>cases GV
 case makeMap t res=>
  cases res with
  | some x=>cases h
  | none=>exact .val rfl (V1 S h)
 case lookup t m k ok=>
  cases ht:kO P t with
  | none=>rw[ht] at h;cases h
  | some q=>
   obtain ⟨kt,vt⟩:=q
   rw[ht] at h
   exact .val (s:=Instr.lookup t (a.eval m) (a.eval k) ok) rfl (V0 S ht (hs.ev hg t m) (hs.ev hg kt k) h)
 case mapUpdate t m k x=>
  cases ht:kO P t with
  | none=>rw[ht] at h;cases h
  | some q=>
   obtain ⟨kt,vt⟩:=q
   rw[ht] at h
   have:=Mj S ht (hs.ev hg t m) (hs.ev hg kt k) (hs.ev hg vt x) h
   exact this.op
 case insert t m k x=>
  cases ht:kO P t with
  | none=>rw[ht] at h;cases h
  | some q=>
   obtain ⟨kt,vt⟩:=q
   rw[ht] at h
   have:=Mj S ht (hs.ev hg t m) (hs.ev hg kt k) (hs.ev hg vt x) h
   exact this.op
 case alloc e=>
  exact .val rfl (Vc S h)
 case box e x=>
  exact .val rfl (Vd S (hs.ev hg e x) h)
 case build t ps=>exact .val rfl (Vf S hs hg h)
 case buildSlice t len ps=>
  cases hu:P.underlying t with
  | none=>rw[hu] at h;cases h
  | some d=>
   rw[hu] at h
   cases d<;>simp only at h<;>first|(cases h;done)|skip
   exact .val rfl (Vn S hs hg hu h)
 case load t x=>exact .val rfl (UK S (hs.ev hg ty x) h)
 case store t x y=>
  have:=U7 S (hs.ev hg ty x) (hs.ev hg t y) h
  exact this.op
 case nilCheck x=>
  have hx:=hs.ev hg ty x
  cases eN:aN P A.aD ty sl x<;>rw[eN] at h hx<;>simp only at h<;>first|(cases h;done)|skip
  ·obtain ⟨⟨blk,ab,hd⟩,l,h⟩:=u0 h
   obtain rfl:=aM h
   have cf:=hx
   obtain ⟨b,hb,he⟩:=hx.gu ab hd
   rw[he] at cf
   exact ⟨_,w,I,β,.inl (by simp only[execOp,he];rfl),Le.refl w I β hp,S,cf⟩
  ·obtain rfl:=aM h
   have cf:=hx
   obtain ⟨b,o,he,_⟩:=hx.BY
   rw[he] at cf
   exact ⟨_,w,I,β,.inl (by simp only[execOp,he];rfl),Le.refl w I β hp,S,cf⟩
  ·obtain ⟨e0,es,aq,l,ab,h1,U,h3,h⟩:=nG h
   obtain rfl:=aM h
   have cf:=hx
   obtain ⟨b,o,he,_⟩:=hx.K8 ab h1 U h3
   rw[he] at cf
   exact ⟨_,w,I,β,.inl (by simp only[execOp,he];rfl),Le.refl w I β hp,S,cf⟩
 case binOp op t x y yt=>
  have hx:=hs.ev hg t x
  have hy:=hs.ev hg t y
  refine .val (s:=do eqGuard op t x y (a.eval x) (a.eval y);binOp op t (a.eval x) (a.eval y)) rfl ?_
  cases eN:aN P A.aD t sl x<;>cases rz:aN P A.aD t sl y<;>rw[eN,rz] at h<;>rw[eN] at hx<;>rw[rz] at hy<;>first|(simp only[jA] at h;cases h;done)|skip
  ·rw[hx.dE,hy.dE]
   have:=UA S h
   simpa[Ux] using this
  ·rw[hx.jH,hy.jH]
   have:=UC S h
   simpa[Uy] using this
  ·obtain ⟨s1,e1,l1⟩:=hx.lD
   obtain ⟨s2,e2,l2⟩:=hy.lD
   rw[e1,e2]
   rw[←l1,←l2] at h
   have:=UD (t:=t) S h
   simpa[Uz] using this
  ·obtain ⟨cs,e1,h1,U⟩:=hx.km
   obtain ⟨ds,e2,h3,h4⟩:=hy.km
   rw[e1,e2]
   exact UE S h1 h3 U h4 h
  ·
   simp only[jA] at h
   obtain ⟨h1,U⟩:=aF h
   clear h
   simp only[aI,aP] at h1
   obtain ⟨rfl,rfl,rfl⟩:=h1
   obtain ⟨⟨blk,ab,hd⟩,l,h⟩:=u0 U
   obtain ⟨b,hb,e1⟩:=hx.gu ab hd
   obtain ⟨b',ay,e2⟩:=hy.gu ab hd
   rw[hb] at ay;cases ay
   rw[e1,e2]
   exact Cv S h (by cases op<;>simp[eqGuard]) fun e j he hj=>⟨run_eql_ptr_same w _ he hj,Lib.run_neq_ptr_same w _ he hj⟩
  ·simp only[jA] at h
   obtain ⟨⟨blk,ab,hd⟩,l,h⟩:=u0 h
   obtain ⟨b,_,e1⟩:=hx.gu ab hd
   rw[e1,hy.Cu]
   exact Cv S h (by cases op<;>simp[eqGuard]) fun e j he hj=>⟨Wc w t e _ he,Wd w t e _ he⟩
  ·simp only[jA] at h
   obtain ⟨⟨blk,ab,hd⟩,l,h⟩:=u0 h
   obtain ⟨b,_,e1⟩:=hy.gu ab hd
   rw[e1,hx.Cu]
   exact Cv S h (by cases op<;>simp[eqGuard]) fun e j he hj=>⟨We w t e _ he,Wf w t e _ he⟩
  ·simp only[jA] at h
   rw[hx.Cu,hy.Cu]
   exact Cv S h (by cases op<;>simp[eqGuard]) fun e j he hj=>⟨Wg w t e he,Wh w t e he⟩
  ·
   simp only[jA] at h
   obtain ⟨l,h⟩:=run_get h
   split at h
   ·rename_i t2 es ab
    obtain ⟨b,hb⟩:=hx.V5 ab
    rw[hy.GP,hb]
    exact Ml (a:=some b) S x y h
   ·cases h
  ·simp only[jA] at h
   rw[hx.GP,hy.GP]
   exact Ml (a:=none) S x y h
 case unOp op t x=>exact .val rfl (UF S (hs.ev hg ty x) h)
 case convert src dst x=>
  have hx:=hs.ev hg ty x
  refine .val (s:=convert src dst (a.eval x)) rfl ?_
  cases ic:P.underlying src with
  | none=>rw[ic] at h;cases h
  | some d1=>
   cases mL:P.underlying dst with
   | none=>rw[ic,mL] at h;cases d1<;>cases h
   | some d2=>
    rw[ic,mL] at h
    have gH: ∀{b:Nat} {T:TypeId} {cs:List V} {id:Nat},hp id=some (.var T cs)→β id=some b→w.shape? b=some (T,cs.length):=by
     intro b T cs id ab hb
     have hr:=S.h.rel id _ ab
     rw[hb] at hr
     cases hr with
     | var ay hh aR _ _ _=>cases ay;simp[World.shape?,hh,aR]
    cases d1<;>(try (cases d2<;>cases h;done))
    ·cases d2<;>(try (cases h;done))
     rename_i k1 k2
     cases eN:aN P A.aD ty sl x<;>rw[eN] at h hx<;>simp only at h<;>first|(cases h;done)|skip
     obtain rfl:=aM h
     rw[hx.dE]
     exact .same S (by simp[convert,run_underlying ic,run_underlying mL,Conv.intToInt]) .int
    ·cases d2<;>(try (cases h;done))
     rename_i u
     cases eN:aN P A.aD ty sl x<;>rw[eN] at h hx<;>simp only at h<;>first|(cases h;done)|skip
     rename_i id i c
     obtain ⟨l,h1⟩:=run_get h
     cases ab:hp id with
     | none=>rw[ab] at h1;cases h1
     | some blk=>
      rw[ab] at h1
      cases blk<;>simp only at h1<;>first|(cases h1;done)|skip
      rename_i T cs
      obtain ⟨U,h3⟩:=aF h1
      simp only[aI,aP] at U
      obtain ⟨rfl,h4,h5⟩:=U
      obtain ⟨b,hb,e1⟩:=hx.gu ab (by simp)
      obtain rfl:=aM h3
      obtain ⟨j,hj⟩:=xx.1 h4
      have cf:=hx
      rw[e1] at cf⊢
      exact .same S (Lib.run_from_unsafe w _ ic mL hj (gH ab hb) (by simpa using h5)) cf
    ·cases d2<;>(try (cases h;done))
     rename_i t
     cases eN:aN P A.aD ty sl x<;>rw[eN] at h hx<;>simp only at h<;>first|(cases h;done)|skip
     rename_i id i c
     obtain ⟨l,h1⟩:=run_get h
     cases ab:hp id with
     | none=>rw[ab] at h1;cases h1
     | some blk=>
      rw[ab] at h1
      cases blk<;>simp only at h1<;>first|(cases h1;done)|skip
      rename_i T cs
      obtain ⟨U,h3⟩:=aF h1
      simp only[aI,aP,jv] at U
      obtain ⟨rfl,h4,h5⟩:=U
      obtain ⟨b,hb,e1⟩:=hx.gu ab (by simp)
      obtain rfl:=aM h3
      cases hj:P.info? t with
      | none=>rw[hj] at h5;cases h5
      | some j=>
       rw[hj] at h5
       simp only[mi] at h5
       have h6:j.size≠0:=fun e=>by rw[e] at h5;cases h5
       have cf:=hx
       rw[e1] at cf⊢
       exact .same S (Lib.run_to_unsafe w _ ic mL hj h6 (gH ab hb) (by simpa using h4)) cf
    ·rename_i e
     cases d2<;>(try (cases h;done))
     simp only at h
     cases he:P.underlying e with
     | none=>rw[he] at h;cases h
     | some d3=>
      rw[he] at h
      cases d3<;>(try (cases h;done))
      rename_i k
      cases k<;>(try (cases h;done))
      exact Wb S ic he mL hx h
 case fieldAddr s x f=>exact .val rfl (UG S (hs.ev hg ty x) h)
 case field s x f=>exact .val rfl (VF S (hs.ev hg ty x) h)
 case indexAddr t x y=>exact .val rfl (VO S (hs.ev hg ty x) (hs.ev hg 0 y) h)
 case index t x y=>
  have hx:=hs.ev hg ty x
  have hy:=hs.ev hg 0 y
  refine .val (s:=Instr.index t (a.eval x) (a.eval y)) rfl ?_
  cases hu:P.underlying t with
  | none=>rw[hu] at h;cases h
  | some d=>
   rw[hu] at h
   cases d<;>(try (cases h;done))
   cases eN:aN P A.aD ty sl x<;>rw[eN] at h hx<;>(try (cases h;done))
   cases rz:aN P A.aD 0 sl y<;>rw[rz] at h hy<;>(try (cases h;done))
   obtain ⟨s,e1,l1⟩:=hx.lD
   rw[e1,hy.dE]
   exact VH S hu l1 h
 case slice t x lo hi mx=>
  cases mx with
  | some m=>
   simp only at h
   refine .val (s:=Instr.sliceAt t (a.eval x) (lo.map a.eval) (hi.map a.eval) (some (a.eval m))) (by simp[execOp]) (VM S (hs.ev hg ty x) (fun hy=> ?_) (fun y hy=> ?_) (fun y hy=> ?_) h)
   ·cases lo with
    | none=>rfl
    | some l=>cases hy
   ·cases hi with
    | none=>cases hy
    | some l=>cases hy;exact ⟨_,rfl,hs.ev hg 0 l⟩
   ·cases hy;exact ⟨_,rfl,hs.ev hg 0 m⟩
  | none=>
   simp only at h
   have plain:(Bz P t (aN P A.aD ty sl x) (lo.map (aN P A.aD 0 sl)) (hi.map (aN P A.aD 0 sl))).run C hp=some (r,rd)→oE P ((execOp a.eval ⟨dst,.slice t x lo hi none,ty,pos,after,guard⟩).run P w) w I β hp B M w0 r:=by
    intro h
    refine .val (s:=Instr.sliceAt t (a.eval x) (lo.map a.eval) (hi.map a.eval) none) (by simp[execOp]) (VL S (hs.ev hg ty x) (fun y hy=> ?_) (fun y hy=> ?_) (fun hy=> ?_) (fun hy=> ?_) h)
    ·cases lo with
     | none=>cases hy
     | some l=>cases hy;exact ⟨_,rfl,hs.ev hg 0 l⟩
    ·cases hi with
     | none=>cases hy
     | some l=>cases hy;exact ⟨_,rfl,hs.ev hg 0 l⟩
    ·cases lo with
     | none=>rfl
     | some l=>cases hy
    ·cases hi with
     | none=>rfl
     | some l=>cases hy
   have tr:(BA P nb t (aN P A.aD ty sl x) (lo.map (aN P A.aD 0 sl)) (hi.map (aN P A.aD 0 sl))).run C hp=some (r,rd)→oE P ((execOp a.eval ⟨dst,.slice t x lo hi none,ty,pos,after,guard⟩).run P w) w I β hp B M w0 r:=by
    intro h
    refine .val (s:=Instr.sliceAt t (a.eval x) (lo.map a.eval) (hi.map a.eval) none) (by simp[execOp]) (VQ S (hs.ev hg ty x) (fun y hy=> ?_) (fun hy=> ?_) h)
    ·cases hi with
     | none=>cases hy
     | some l=>cases hy;exact ⟨_,rfl,hs.ev hg 0 l⟩
    ·cases lo with
     | none=>rfl
     | some l=>cases hy
   cases dst with
   | none=>exact plain h
   | some d=>
    simp only at h
    cases Mr:jy A.uF d with
    | true=>rw[Mr] at h;exact tr h
    | false=>rw[Mr] at h;exact plain h
 case extract x i=>
  have hx:=hs.ev hg ty x
  cases eN:aN P A.aD ty sl x<;>rw[eN] at h hx<;>simp only at h<;>first|(cases h;done)|skip
  exact .val (s:=Instr.extract (a.eval x) i) rfl (VG S hx h)
 case makeSlice t l c=>
  have hl:=hs.ev hg 0 l
  have hc:=hs.ev hg 0 c
  refine .val (s:=Instr.makeSlice t (a.eval l) (a.eval c)) rfl ?_
  cases hu:P.underlying t with
  | none=>rw[hu] at h;cases h
  | some d=>
   rw[hu] at h
   cases d<;>(try (cases h;done))
   cases GW:aN P A.aD 0 sl l<;>rw[GW] at h hl<;>(try (cases h;done))
   cases sZ:aN P A.aD 0 sl c<;>rw[sZ] at h hc<;>(try (cases h;done))
   rw[hl.dE,hc.dE]
   cases dst with
   | none=>exact LQ S hu h
   | some d=>
    simp only at h
    cases hg:jy A.uF d with
    | true=>rw[hg] at h;exact Vp S hu h
    | false=>rw[hg] at h;exact LQ S hu h
 case call c=>
  obtain ⟨callee,args,argTypes⟩:=c
  cases callee with
  | invoke r m=>cases h
  | value f=>
   cases f with
   | func f=>cases GV
   | tmp f=>cases GV
   | _=>cases h
  | builtin b=>
   have one: ∀{x:Operand},args.toList=[x]→args= #[x]:=fun h=>by rw[←Array.toArray_toList (xs:=args),h]
   have qe: ∀(s:Array TypeId→TypeId→Array Value→Sem Value),builtin b argTypes ty (args.map fun| .const _=>true|_=>false) (args.map a.eval)=(do Pure.pure (Next.value (←s argTypes ty (args.map a.eval))))→
     execOp a.eval ⟨dst,.call ⟨.builtin b,args,argTypes⟩,ty,pos,after,guard⟩=(do Pure.pure (Next.value (←s argTypes ty (args.map a.eval)))):=by
    intro s hb
    simp only[execOp,resolve,pure_bind,invoke]
    exact hb
   cases b<;>(try (cases h;done))
   case append=>
    simp only at h
    cases ha:args.toList with
    | nil=>rw[ha] at h;cases h
    | cons x l=>
     cases l with
     | nil=>rw[ha] at h;cases h
     | cons y l2=>
      cases l2 with
      | cons _ _=>rw[ha] at h;cases h
      | nil=>
       cases cZ:argTypes.toList with
       | nil=>rw[ha,cZ] at h;cases h
       | cons t l3=>
        cases l3 with
        | nil=>rw[ha,cZ] at h;cases h
        | cons u l4=>
         cases l4 with
         | cons _ _=>rw[ha,cZ] at h;cases h
         | nil=>
          rw[ha,cZ] at h
          simp only at h
          have e1:args= #[x,y]:=by rw[←Array.toArray_toList (xs:=args),ha]
          have e2:argTypes= #[t,u]:=by rw[←Array.toArray_toList (xs:=argTypes),cZ]
          cases hu:P.underlying t with
          | none=>rw[hu] at h;cases h
          | some d=>
           rw[hu] at h
           cases d<;>(try (cases h;done))
           cases hc:Nat.beq t u with
           | true=>
            rw[hc] at h
            rw[aP] at hc
            subst hc
            have:=Vs (ty:=ty) S hu (hs.ev hg t x) (hs.ev hg t y) h
            refine .val (qe Builtin.append_ rfl) ?_
            rw[e1,e2]
            simpa using this
           | false=>
            rw[hc] at h
            simp only[cond_false] at h
            have hy:=hs.ev hg u y
            cases nQ:P.underlying u with
            | none=>rw[nQ] at h;cases h
            | some du=>
             rw[nQ] at h
             cases du<;>(try (cases h;done))
             cases rz:aN P A.aD u sl y<;>rw[rz] at h hy<;>(try (cases h;done))
             simp only at h
             obtain ⟨hb,h⟩:=aF h
             obtain ⟨s1,q1,q2⟩:=hy.lD
             subst q2
             have:=Wa (ty:=ty) S hu nQ (Wj hb) (hs.ev hg t x) h
             refine .val (qe Builtin.append_ rfl) ?_
             rw[e1,e2]
             simpa[q1] using this
   case len=>
    simp only at h
    cases ha:args.toList with
    | nil=>rw[ha] at h;cases h
    | cons x l=>
     cases l with
     | cons _ _=>rw[ha] at h;cases h
     | nil=>
      cases cZ:argTypes.toList with
      | nil=>rw[ha,cZ] at h;cases h
      | cons t l3=>
       cases l3 with
       | cons _ _=>rw[ha,cZ] at h;cases h
       | nil=>
        rw[ha,cZ] at h
        simp only at h
        have e1:args= #[x]:=by rw[←Array.toArray_toList (xs:=args),ha]
        have e2:argTypes= #[t]:=by rw[←Array.toArray_toList (xs:=argTypes),cZ]
        have hx:=hs.ev hg ty x
        refine .val (qe Builtin.len_ rfl) ?_
        rw[e1,e2]
        cases hu:P.underlying t with
        | none=>rw[hu] at h;cases h
        | some d=>
         rw[hu] at h
         cases d<;>(try (cases h;done))
         ·cases eN:aN P A.aD ty sl x<;>rw[eN] at h hx<;>(try (cases h;done))
          have:=Lb (t:=t) (ty:=ty) S hx (fun l hl=>hu) (fun hn=>absurd rfl (hn _)) h
          simpa using this
         ·have U:(∀l,aN P A.aD ty sl x≠ .str l)∧(Bu P (aN P A.aD ty sl x)).run C hp=some (r,rd):=by
           cases eN:aN P A.aD ty sl x<;>rw[eN] at h<;>first|(cases h;done)|exact ⟨fun l=>by simp,h⟩
          have:=Lb (t:=t) (ty:=ty) S hx (fun l hl=>absurd hl (U.1 l)) (fun _=>⟨_,hu⟩) U.2
          simpa using this
         ·have U:(By (aN P A.aD ty sl x)).run C hp=some (r,rd):=by
           cases eN:aN P A.aD ty sl x<;>rw[eN] at h<;>exact h
          have:=V4 (t:=t) (ty:=ty) S hu hx U
          simpa using this
   case unsafeSliceData=>
    simp only at h
    cases ha:args.toList with
    | nil=>rw[ha] at h;cases h
    | cons x l=>
     cases l with
     | cons _ _=>rw[ha] at h;cases h
     | nil=>
      rw[ha] at h
      simp only at h
      have e1:args= #[x]:=by rw[←Array.toArray_toList (xs:=args),ha]
      have hx:=hs.ev hg ty x
      refine .val (qe Builtin.unsafeSliceData_ rfl) ?_
      rw[e1]
      cases eN:aN P A.aD ty sl x<;>rw[eN] at h hx<;>simp only at h<;>first|(cases h;done)|skip
      rename_i e id
      obtain ⟨l2,h1⟩:=run_get h
      cases ab:hp id with
      | none=>rw[ab] at h1;cases h1
      | some blk=>
       rw[ab] at h1
       cases blk<;>simp only at h1<;>first|(cases h1;done)|skip
       rename_i e' es fz
       obtain ⟨U,h3⟩:=aF h1
       simp only[aI,aP,jv] at U
       obtain ⟨rfl,h4⟩:=U
       obtain rfl:=aM h3
       have:=Wk (ts:=argTypes) (ty:=ty) S hx ab h4
       simpa using this
   case unsafeString=>
    simp only at h
    cases ha:args.toList with
    | nil=>rw[ha] at h;cases h
    | cons x l=>
     cases l with
     | nil=>rw[ha] at h;cases h
     | cons y l2=>
      cases l2 with
      | cons _ _=>rw[ha] at h;cases h
      | nil=>
       cases cZ:argTypes.toList with
       | nil=>rw[ha,cZ] at h;cases h
       | cons t l3=>
        cases l3 with
        | nil=>rw[ha,cZ] at h;cases h
        | cons u l4=>
         cases l4 with
         | cons _ _=>rw[ha,cZ] at h;cases h
         | nil=>
          rw[ha,cZ] at h
          simp only at h
          have e1:args= #[x,y]:=by rw[←Array.toArray_toList (xs:=args),ha]
          have e2:argTypes= #[t,u]:=by rw[←Array.toArray_toList (xs:=argTypes),cZ]
          have hx:=hs.ev hg ty x
          have hy:=hs.ev hg ty y
          cases hu:P.underlying t with
          | none=>rw[hu] at h;cases h
          | some d=>
           rw[hu] at h
           cases d<;>(try (cases h;done))
           rename_i e
           cases eN:aN P A.aD ty sl x<;>rw[eN] at h hx<;>(try (cases h;done))
           cases rz:aN P A.aD ty sl y<;>rw[rz] at h hy<;>(try (cases h;done))
           rename_i id i c k n
           cases k<;>(try (cases h;done))
           simp only at h
           obtain ⟨l2,h1⟩:=run_get h
           cases ab:hp id with
           | none=>rw[ab] at h1;cases h1
           | some blk=>
            rw[ab] at h1
            cases blk<;>simp only at h1<;>first|(cases h1;done)|skip
            rename_i e' es fz
            cases fz<;>simp only at h1<;>first|(cases h1;done)|skip
            obtain ⟨U,h3⟩:=aF h1
            simp only[aI,aP,dK,dJ] at U
            obtain ⟨rfl,h4,rfl,rfl,h5,h6,h7,h8⟩:=U
            obtain rfl:=aM h3
            have:=Wl (u:=u) (ty:=ty) S hu h4 hx ab h5 h6 h7 h8
            refine .val (qe Builtin.unsafeString_ rfl) ?_
            rw[e1,e2]
            simpa[hy.dE] using this
   case copy=>
    simp only at h
    cases ha:args.toList with
    | nil=>rw[ha] at h;cases h
    | cons x l=>
     cases l with
     | nil=>rw[ha] at h;cases h
     | cons y l2=>
      cases l2 with
      | cons _ _=>rw[ha] at h;cases h
      | nil=>
       cases cZ:argTypes.toList with
       | nil=>rw[ha,cZ] at h;cases h
       | cons t l3=>
        cases l3 with
        | nil=>rw[ha,cZ] at h;cases h
        | cons u l4=>
         cases l4 with
         | cons _ _=>rw[ha,cZ] at h;cases h
         | nil=>
          rw[ha,cZ] at h
          simp only at h
          have e1:args= #[x,y]:=by rw[←Array.toArray_toList (xs:=args),ha]
          have e2:argTypes= #[t,u]:=by rw[←Array.toArray_toList (xs:=argTypes),cZ]
          cases hu:P.underlying t with
          | none=>rw[hu] at h;cases h
          | some d=>
           rw[hu] at h
           cases d<;>(try (cases h;done))
           have:=Vz (u:=u) (ty:=ty) S hu (hs.ev hg t x) (hs.ev hg u y) h
           refine .val (qe Builtin.copy_ rfl) ?_
           rw[e1,e2]
           simpa using this
   case clear=>
    simp only at h
    cases ha:args.toList with
    | nil=>rw[ha] at h;cases h
    | cons x l=>
     cases l with
     | cons _ _=>rw[ha] at h;cases h
     | nil=>
      cases cZ:argTypes.toList with
      | nil=>rw[ha,cZ] at h;cases h
      | cons t l3=>
       cases l3 with
       | cons _ _=>rw[ha,cZ] at h;cases h
       | nil=>
        rw[ha,cZ] at h
        simp only at h
        have e1:args= #[x]:=by rw[←Array.toArray_toList (xs:=args),ha]
        have e2:argTypes= #[t]:=by rw[←Array.toArray_toList (xs:=argTypes),cZ]
        cases hu:P.underlying t with
        | none=>rw[hu] at h;cases h
        | some d=>
         rw[hu] at h
         cases d<;>(try (cases h;done))
         have:=VA (ty:=ty) S hu (hs.ev hg t x) h
         refine .val (qe Builtin.clear_ rfl) ?_
         rw[e1,e2]
         simpa using this
   case max=>
    simp only at h
    cases ha:args.toList with
    | nil=>rw[ha] at h;cases h
    | cons x l=>
     rw[ha] at h
     simp only at h
     have:=GB S true (vs:=l.map a.eval) (xs:=l.map (aN P A.aD ty sl)) (hs.ev hg ty x) (by simp) (fun j u y hu hy=>by
      simp only[eT] at hu hy
      cases hl:l[j]? with
      | none=>rw[hl] at hu;cases hu
      | some z=>rw[hl] at hu hy;cases hu;cases hy;exact hs.ev hg ty z) h
     refine .val (qe Builtin.max_ rfl) ?_
     simpa[Builtin.max_,ha] using this
   case min=>
    simp only at h
    cases ha:args.toList with
    | nil=>rw[ha] at h;cases h
    | cons x l=>
     rw[ha] at h
     simp only at h
     have:=GB S false (vs:=l.map a.eval) (xs:=l.map (aN P A.aD ty sl)) (hs.ev hg ty x) (by simp) (fun j u y hu hy=>by
      simp only[eT] at hu hy
      cases hl:l[j]? with
      | none=>rw[hl] at hu;cases hu
      | some z=>rw[hl] at hu hy;cases hu;cases hy;exact hs.ev hg ty z) h
     refine .val (qe Builtin.min_ rfl) ?_
     simpa[Builtin.min_,ha] using this
end
section
variable {P:Program} {A:cm} {w w':World} {I I' I2:Nat→Prop} {μ β β':Nat→Option Nat} {hp hp':Nat→Option an} {C:ag} {B:Nat} {M:Nat→Prop} {w0:Start}
theorem vm: ∀{l m:List Nat},dU.nB l m=true→l=m
 | [],[],_=>rfl
 | [],_::_,h=>by cases h
 | _::_,[],h=>by cases h
 | a::l,b::m,h=>by
  simp only[dU.nB,aI,aP] at h
  rw[h.1,vm h.2]
@[simp] theorem Ms (n:Nat):kb (dL n)=n:=by simp[kb,dL,V.toInt]
theorem Cx: ∀(path:List (Nat × Nat)) (rest:List V),xO (path.map (·.2)) ((path.map fun p=>dL p.1)++rest)=path
 | [],_=>rfl
 | p::l,rest=>by
  simp only[cG,List.cons_append,xO,V.nth,Ms,j9,iG,Cx l rest]
theorem Cy {l:LS} {x:V} {ds:List V} (h:dU l x=some ds):ds.length=l.size∧(l= .pD∨∀rest,hX l (ds++rest)=x):=by
 cases l with
 | pD=>simp only[dU,dC] at h;subst h;exact ⟨rfl,.inl rfl⟩
 | int k=>
  cases x<;>simp only[dU] at h<;>first|(cases h;done)|skip
  rename_i k' n
  by_cases hk:k=k'
  ·subst hk
   simp only[qN,cond_true,dC] at h
   subst h
   exact ⟨rfl,.inr fun _=>rfl⟩
  ·simp[hk] at h
 | bool=>
  cases x<;>simp only[dU] at h<;>first|(cases h;done)|skip
  cases h
  exact ⟨rfl,.inr fun _=>rfl⟩
 | str=>
  cases x<;>simp only[dU] at h<;>first|(cases h;done)|skip
  cases h
  exact ⟨rfl,.inr fun _=>rfl⟩
 | list e=>
  cases x<;>simp only[dU] at h<;>first|(cases h;done)|skip
  rename_i e' es
  cases hb:Nat.beq e e' with
  | false=>rw[hb] at h;cases h
  | true=>
   rw[hb] at h
   rw[aP] at hb
   subst hb
   cases h
   exact ⟨rfl,.inr fun _=>rfl⟩
 | whole e j=>
  cases x<;>simp only[dU] at h<;>first|(cases h;done)|skip
  rename_i e' id
  cases hb:(Nat.beq e e'&&Nat.beq j id) with
  | false=>rw[hb] at h;cases h
  | true=>
   rw[hb] at h
   simp only[aI,aP] at hb
   obtain ⟨rfl,rfl⟩:=hb
   cases h
   exact ⟨rfl,.inr fun _=>rfl⟩
 | sub e j=>
  cases x<;>simp only[dU] at h<;>first|(cases h;done)|skip
  rename_i e' id o n
  cases hb:(Nat.beq e e'&&Nat.beq j id) with
  | false=>rw[hb] at h;cases h
  | true=>
   rw[hb] at h
   simp only[aI,aP] at hb
   obtain ⟨rfl,rfl⟩:=hb
   cases h
   exact ⟨rfl,.inr fun _=>by simp[hX,V.nth]⟩
 | ptr j=>
  cases x<;>simp only[dU] at h<;>first|(cases h;done)|skip
  rename_i id i c
  cases hb:(Nat.beq j id) with
  | false=>rw[hb] at h;cases h
  | true=>
   rw[hb] at h
   rw[aP] at hb
   subst hb
   cases h
   exact ⟨rfl,.inr fun _=>by simp[hX,V.nth]⟩
 | mr j i c=>
  cases x<;>simp only[dU] at h<;>first|(cases h;done)|skip
  rename_i id i' c'
  cases hb:(Nat.beq j id&&(Nat.beq i i'&&Nat.beq c c')) with
  | false=>rw[hb] at h;cases h
  | true=>
   rw[hb] at h
   simp only[aI,aP] at hb
   obtain ⟨rfl,rfl,rfl⟩:=hb
   cases h
   exact ⟨rfl,.inr fun _=>rfl⟩
 | nilS e=>
  cases x<;>simp only[dU] at h<;>first|(cases h;done)|skip
  rename_i e'
  cases hb:Nat.beq e e' with
  | false=>rw[hb] at h;cases h
  | true=>
   rw[hb] at h
   rw[aP] at hb
   subst hb
   cases h
   exact ⟨rfl,.inr fun _=>rfl⟩
 | c9=>
  cases x<;>simp only[dU] at h<;>first|(cases h;done)|skip
  cases h
  exact ⟨rfl,.inr fun _=>rfl⟩
 | cb e j=>
  cases x<;>simp only[dU] at h<;>first|(cases h;done)|skip
  rename_i e' id
  cases hb:(Nat.beq e e'&&Nat.beq j id) with
  | false=>rw[hb] at h;cases h
  | true=>
   rw[hb] at h
   simp only[aI,aP] at hb
   obtain ⟨rfl,rfl⟩:=hb
   cases h
   exact ⟨rfl,.inr fun _=>rfl⟩
 | db e=>
  cases x<;>simp only[dU] at h<;>first|(cases h;done)|skip
  rename_i e'
  cases hb:Nat.beq e e' with
  | false=>rw[hb] at h;cases h
  | true=>
   rw[hb] at h
   rw[aP] at hb
   subst hb
   cases h
   exact ⟨rfl,.inr fun _=>rfl⟩
 | Bn k n=>
  cases x<;>simp only[dU] at h<;>first|(cases h;done)|skip
  rename_i k' m
  cases hb:(decide (k=k')&&decide (m=n)) with
  | false=>rw[hb] at h;cases h
  | true=>
   rw[hb] at h
   simp only[aI,dJ] at hb
   obtain ⟨rfl,rfl⟩:=hb
   cases h
   exact ⟨rfl,.inr fun _=>rfl⟩
 | Bo b=>
  cases x<;>simp only[dU] at h<;>first|(cases h;done)|skip
  rename_i c
  cases hb:decide (b=c) with
  | false=>rw[hb] at h;cases h
  | true=>
   rw[hb] at h
   obtain rfl:=mh hb
   cases h
   exact ⟨rfl,.inr fun _=>rfl⟩
 | row e j cs=>
  cases x<;>simp only[dU] at h<;>first|(cases h;done)|skip
  rename_i e' id ver path
  cases hb:(Nat.beq e e'&&(Nat.beq j id&&(Nat.beq ver 0&&dU.nB cs (path.map (·.2))))) with
  | false=>rw[hb] at h;cases h
  | true=>
   rw[hb] at h
   simp only[aI,aP] at hb
   obtain ⟨rfl,rfl,rfl,nK⟩:=hb
   have:=vm nK
   subst this
   cases h
   exact ⟨by simp[LS.size],.inr fun rest=>by simp only[hX,Cx]⟩
 | cl j cs c=>
  cases x<;>simp only[dU] at h<;>first|(cases h;done)|skip
  rename_i id ver path i c'
  cases hb:(Nat.beq j id&&(Nat.beq ver 0&&(Nat.beq c c'&&dU.nB cs (path.map (·.2))))) with
  | false=>rw[hb] at h;cases h
  | true=>
   rw[hb] at h
   simp only[aI,aP] at hb
   obtain ⟨rfl,rfl,rfl,nK⟩:=hb
   have:=vm nK
   subst this
   cases h
   exact ⟨by simp[LS.size],.inr fun rest=>by simp only[hX,List.cons_append,V.nth,Ms,j9,iG,Cx]⟩
def LS.below (n:Nat) (x:V):Prop:= ∀id∈dV x,id<n
def Mt:V→Prop
 | .agg _=>False
 | .aW _=>False
 | .fn .. =>False
 | .pref .. =>False
 | _=>True
theorem ta {c:Bool} {a d:List V} (h:(bif c then some a else none)=some d):c=true:=by
 cases c with
 | true=>rfl
 | false=>cases h
theorem Wo {l:LS} {x:V} {ds:List V} {n:Nat} (h:dU l x=some ds) (hl:l≠ .pD) (au:l.ok n=true):Mt x∧LS.below n x:=by
 cases l<;>cases x<;>simp only[dU] at h<;>first|(cases h;done)|(exact absurd rfl hl)|skip
 all_goals refine ⟨trivial,fun id ab=> ?_⟩
 all_goals simp only[dV,dB,List.not_mem_nil] at ab
 all_goals subst ab
 all_goals simp only[LS.ok,jv] at au
 all_goals
  have hb:=ta h
  simp only[aI,aP] at hb
  omega
theorem ao.Wp {v:Value} {x:V} (h:ao P w I β hp v x) (hx:Mt x) (hs: ∀id∈dV x,hp' id=hp id∧β' id=β id):ao P w I β' hp' v x:=by
 have one: ∀{id},id∈dV x→hp' id=hp id∧β' id=β id:=fun h=>hs _ h
 cases h with
 | undef=>exact .undef
 | int=>exact .int
 | bool=>exact .bool
 | str h=>exact .str h
 | list h=>exact .list h
 | nilS=>exact .nilS
 | agg=>exact hx.elim
 | aW=>exact hx.elim
 | c9=>exact .c9
 | fn=>exact hx.elim
 | pref=>exact hx.elim
 | dN h=>exact .dN ((one (by simp[dV])).1.trans h)
 | fE h=>exact .fE ((one (by simp[dV])).1.trans h)
 | jE h=>exact .jE ((one (by simp[dV])).1.trans h)
 | dq h hb=>exact .dq ((one (by simp[dV])).1.trans h) ((one (by simp[dV])).2.trans hb)
 | whole h hb a b c=>exact .whole ((one (by simp[dV])).1.trans h) ((one (by simp[dV])).2.trans hb) a b c
 | dW h hb a b c=>exact .dW ((one (by simp[dV])).1.trans h) ((one (by simp[dV])).2.trans hb) a b c
 | fk h hb=>exact .fk ((one (by simp[dV])).1.trans h) ((one (by simp[dV])).2.trans hb)
 | sub h hb a b c=>exact .sub ((one (by simp[dV])).1.trans h) ((one (by simp[dV])).2.trans hb) a b c
 | ptr h hd hb=>exact .ptr ((one (by simp[dV])).1.trans h) hd ((one (by simp[dV])).2.trans hb)
 | jc h qa=>exact .jc ((one (by simp[dV])).1.trans h) qa
 | jd h qa=>exact .jd ((one (by simp[dV])).1.trans h) qa
 | row h hb a b c d=>exact .row ((one (by simp[dV])).1.trans h) ((one (by simp[dV])).2.trans hb) a b c d
 | cl h hb a b c d e=>exact .cl ((one (by simp[dV])).1.trans h) ((one (by simp[dV])).2.trans hb) a b c d e
 | db=>exact .db
 | gP h=>exact .gP ((one (by simp[dV])).1.trans h)
 | cb h hb=>exact .cb ((one (by simp[dV])).1.trans h) ((one (by simp[dV])).2.trans hb)
theorem mM {a b:List V} {n:Nat} (h:a.length=n):(a++b).drop n=b:=by subst h;simp
def yG (n:Nat) (β:Nat→Option Nat) (hp:Nat→Option an) (β':Nat→Option Nat) (hp':Nat→Option an):Prop:= ∀id,id<n→hp' id=hp id∧β' id=β id
theorem Mu {l:LS} {x:V} {ds:List V} {n:Nat} {v:Value} (h:dU l x=some ds) (au:l.ok n=true) (iu:yG n β hp β' hp') (hv:ao P w I β hp v x) (rest:List V):
  ao P w I β' hp' v (hX l (ds++rest)):=by
 rcases (Cy h).2 with e|e
 ·subst e;exact .undef
 ·rw[e rest]
  by_cases hu:l= .pD
  ·subst hu
   have:x= .undef:=(e rest).symm
   subst this
   exact .undef
  ·obtain ⟨h1,U⟩:=Wo h hu au
   exact hv.Wp h1 fun id ab=>iu id (U id ab)
theorem yH {n:Nat} (iu:yG n β hp β' hp'): ∀{ls:List LS} {xs:List V} {ds:List V},oz ls xs=some ds→ls.all (LS.ok n)=true→
  ds.length=jB ls∧(∀rest,(gI ls (ds++rest)).length=xs.length)∧
  ∀(rest:List V) (j:Nat) (v:Value) (y:V),(∀x,xs[j]? =some x→ao P w I β hp v x)→(gI ls (ds++rest))[j]? =some y→ao P w I β' hp' v y
 | [],[],ds,h,_=>by cases h;exact ⟨rfl,fun _=>rfl,fun rest j v y _ hy=>by simp[gI] at hy⟩
 | [],_::_,ds,h,_=>by cases h
 | _::_,[],ds,h,_=>by cases h
 | l::ls,x::xs,ds,h,au=>by
  simp only[oz] at h
  obtain ⟨a,h1,h⟩:=bind_some h
  obtain ⟨b,U,h⟩:=bind_some h
  cases h
  simp only[List.all_cons,aI] at au
  obtain ⟨i1,i2,i3⟩:=yH iu U au.2
  have bU:=(Cy h1).1
  have hd: ∀rest,(a++b++rest).drop l.size=b++rest:=fun rest=>by rw[b7];exact mM bU
  refine ⟨by simp only[ca,jB];omega,fun rest=>by simp only[gI,List.length_cons,hd,i2],fun rest j v y hv hy=> ?_⟩
  simp only[gI,hd] at hy
  cases j with
  | zero=>
   simp at hy
   subst hy
   exact Mu h1 au.1 iu (hv x rfl) _
  | succ j=>exact i3 rest j v y (fun x hx=>hv x (by simpa using hx)) (by simpa using hy)
theorem GX: ∀{ls:List LS} {xs:List V} {ds:List V},oz ls xs=some ds→ls.all LS.plain=true→ds.length=jB ls∧∀rest,gI ls (ds++rest)=xs
 | [],[],ds,h,_=>by cases h;exact ⟨rfl,fun _=>rfl⟩
 | [],_::_,ds,h,_=>by cases h
 | _::_,[],ds,h,_=>by cases h
 | l::ls,x::xs,ds,h,au=>by
  simp only[oz] at h
  obtain ⟨a,h1,h⟩:=bind_some h
  obtain ⟨b,U,h⟩:=bind_some h
  cases h
  simp only[List.all_cons,aI] at au
  obtain ⟨i1,i2⟩:=GX U au.2
  obtain ⟨bU,hm⟩:=Cy h1
  refine ⟨by simp only[ca,jB];omega,fun rest=> ?_⟩
  simp only[gI]
  rw[show (a++b++rest).drop l.size=b++rest by rw[b7];exact mM bU,i2,b7]
  rcases hm with e|e
  ·subst e;cases au.1
  ·rw[e]
theorem GY {n:Nat} (iu:yG n β hp β' hp') {s:VS} {x:V} {ds:List V} (h:oA s x=some ds) (au:s.ok n=true):
  ds.length=s.size∧∀(rest:List V) (v:Value),ao P w I β hp v x→ao P w I β' hp' v (kg s (ds++rest)):=by
 cases s with
 | one l=>exact ⟨(Cy h).1,fun rest v hv=>Mu h au iu hv rest⟩
 | agg ls=>
  cases x<;>simp only[oA] at h<;>first|(cases h;done)|skip
  rename_i xs
  obtain ⟨i1,i2,i3⟩:=yH (P:=P) (w:=w) (I:=I) iu h au
  refine ⟨i1,fun rest v hv=> ?_⟩
  obtain ⟨cs,rfl,e1,e2⟩:=hv.km
  exact .agg (by rw[i2];exact e1) fun j v y hj hy=>i3 rest j v y (fun x hx=>e2 j v x hj hx) hy
 | aW ls=>
  cases x<;>simp only[oA] at h<;>first|(cases h;done)|skip
  rename_i xs
  obtain ⟨i1,i2,i3⟩:=yH (P:=P) (w:=w) (I:=I) iu h au
  refine ⟨i1,fun rest v hv=> ?_⟩
  obtain ⟨cs,rfl,e1,e2⟩:=hv.sQ
  exact .aW (by rw[i2];exact e1) fun j v y hj hy=>i3 rest j v y (fun x hx=>e2 j v x hj hx) hy
 | fn f a b=>
  cases x<;>simp only[oA] at h<;>first|(cases h;done)|skip
  rename_i f' xs ys
  cases hb:Nat.beq f f' with
  | false=>rw[hb] at h;cases h
  | true=>
   rw[hb] at h
   rw[aP] at hb
   subst hb
   simp only[cond_true] at h
   obtain ⟨p,h1,h⟩:=bind_some h
   obtain ⟨q,U,h⟩:=bind_some h
   cases h
   simp only[VS.ok,aI] at au
   obtain ⟨i1,i2,i3⟩:=yH (P:=P) (w:=w) (I:=I) iu h1 au.1
   obtain ⟨j1,j2,j3⟩:=yH (P:=P) (w:=w) (I:=I) iu U au.2
   refine ⟨by simp only[ca,VS.size];omega,fun rest v hv=> ?_⟩
   cases hv with
   | fn a1 a2 b1 b2=>
    simp only[kg]
    rw[show (p++q++rest).drop (jB a)=q++rest by rw[b7];exact mM i1,b7]
    exact .fn (by rw[i2];exact a1) (fun j v y hj hy=>i3 _ j v y (fun x hx=>a2 j v x hj hx) hy) (by rw[j2];exact b1) (fun j v y hj hy=>j3 _ j v y (fun x hx=>b2 j v x hj hx) hy)
 | pref ts ls=>
  cases x<;>simp only[oA] at h<;>first|(cases h;done)|skip
  rename_i uM xs
  cases hb:dU.nB ts uM with
  | false=>rw[hb] at h;cases h
  | true=>
   rw[hb] at h
   have:=vm hb
   subst this
   simp only[cond_true] at h
   refine ⟨?_,fun rest v hv=> ?_⟩
   ·exact (GX h au).1
   ·simp only[kg]
    rw[(GX h au).2]
    cases hv with
    | pref hl hI hc=>exact .pref hl hI hc
theorem yI {n:Nat} (iu:yG n β hp β' hp'): ∀{ls:List VS} {xs:List V} {ds:List V},pq ls xs=some ds→ls.all (VS.ok n)=true→
  ds.length=ra ls∧(∀rest,(eW ls (ds++rest)).length=xs.length)∧
  ∀(rest:List V) (j:Nat) (v:Value) (y:V),(∀x,xs[j]? =some x→ao P w I β hp v x)→(eW ls (ds++rest))[j]? =some y→ao P w I β' hp' v y
 | [],[],ds,h,_=>by cases h;exact ⟨rfl,fun _=>rfl,fun rest j v y _ hy=>by simp[eW] at hy⟩
 | [],_::_,ds,h,_=>by cases h
 | _::_,[],ds,h,_=>by cases h
 | l::ls,x::xs,ds,h,au=>by
  simp only[pq] at h
  obtain ⟨a,h1,h⟩:=bind_some h
  obtain ⟨b,U,h⟩:=bind_some h
  cases h
  simp only[List.all_cons,aI] at au
  obtain ⟨i1,i2,i3⟩:=yI iu U au.2
  obtain ⟨bU,vh⟩:=GY (P:=P) (w:=w) (I:=I) iu h1 au.1
  have hd: ∀rest,(a++b++rest).drop l.size=b++rest:=fun rest=>by rw[b7];exact mM bU
  refine ⟨by simp only[ca,ra];omega,fun rest=>by simp only[eW,List.length_cons,hd,i2],fun rest j v y hv hy=> ?_⟩
  simp only[eW,hd] at hy
  cases j with
  | zero=>
   simp at hy
   subst hy
   exact vh _ v (hv x rfl)
  | succ j=>exact i3 rest j v y (fun x hx=>hv x (by simpa using hx)) (by simpa using hy)
end
section
variable {P:Program} {A:cm} {w w':World} {I I' I2:Nat→Prop} {μ β β':Nat→Option Nat} {hp hp' hp0:Nat→Option an} {C:ag} {B:Nat} {M:Nat→Prop} {w0:Start}
theorem gA: ∀{l:List an} {j:Nat},ja l j=l[j]?
 | [],j=>by simp[ja]
 | b::l,0=>rfl
 | b::l,j+1=>by simp only[ja,gA,List.getElem?_cons_succ]
theorem GZ {sl:Nat→V} {k:Nat} {y:V}: ∀{l:List (Nat × VS)} {ds:List V},xM sl l=some ds→(∀p∈l,∀d,oA p.2 (sl p.1)=some d→d.length=p.2.size)→
  ds.length=nC l∧∀rest,dp (eK l (ds++rest)) k=some y→∃s d fK,(k,s)∈l∧oA s (sl k)=some d∧y=kg s (d++fK)
 | [],ds,h,_=>by cases h;exact ⟨rfl,fun rest h=>by cases h⟩
 | (q,s)::l,ds,h,hz=>by
  simp only[xM] at h
  obtain ⟨a,h1,h⟩:=bind_some h
  obtain ⟨b,U,h⟩:=bind_some h
  cases h
  obtain ⟨i1,i2⟩:=GZ (k:=k) (y:=y) U fun p hp=>hz p (kJ _ hp)
  have bU:=hz (q,s) (qR ..) a h1
  refine ⟨by simp only[ca,nC];simp only at bU;omega,fun rest hl=> ?_⟩
  simp only[eK,dp] at hl
  rw[show (a++b++rest).drop s.size=b++rest by rw[b7];exact mM bU] at hl
  cases hb:Nat.beq k q with
  | true=>
   rw[hb] at hl
   rw[aP] at hb
   subst hb
   cases hl
   exact ⟨s,a,b++rest,qR ..,h1,by rw[b7]⟩
  | false=>
   rw[hb] at hl
   obtain ⟨s',d,fK,m1,m2,m3⟩:=i2 rest hl
   exact ⟨s',d,fK,kJ _ m1,m2,m3⟩
theorem G0 {α:Type} {c:Bool} {x:Option α} {a:α} (h:(bif c then x else none)=some a):c=true∧x=some a:=by
 cases c with
 | true=>exact ⟨rfl,h⟩
 | false=>cases h
theorem Wq {n:Nat} {b:BS} {o:Option an} {ds:List V} (h:kf b o=some ds) (au:b.ok n=true):ds.length=b.size:=by
 cases b with
 | dead=>cases o<;>(cases h;rfl)
 | var T0 ls=>
  cases o with
  | none=>cases h
  | some blk=>
   cases blk<;>simp only[kf] at h<;>first|(cases h;done)|skip
   exact (yI (P:=default) (w:=default) (I:=fun _=>False) (β:=fun _=>none) (hp:=fun _=>none) (fun _ _=>⟨rfl,rfl⟩) (G0 h).2 au).1
 | arr e fz=>
  cases o with
  | none=>cases h
  | some blk=>
   cases blk<;>simp only[kf] at h<;>first|(cases h;done)|skip
   rw[ta h] at h
   cases h
   rfl
 | nest e=>
  cases o with
  | none=>cases h
  | some blk=>
   cases blk<;>simp only[kf] at h<;>first|(cases h;done)|skip
   rw[ta h] at h
   cases h
   rfl
 | map t=>
  cases o with
  | none=>cases h
  | some blk=>
   cases blk<;>simp only[kf] at h<;>first|(cases h;done)|skip
   rw[ta h] at h
   cases h
   rfl
theorem Mv {n:Nat}: ∀{l:List BS} {j:Nat} {ds:List V},xN hp j l=some ds→l.all (BS.ok n)=true→
  (∀rest,(eg l (ds++rest)).length=l.length)∧∀(rest:List V) (i:Nat) (blk:an),(eg l (ds++rest))[i]? =some blk→∃b d fK,l[i]? =some b∧b.ok n=true∧kf b (hp (j+i))=some d∧blk=fh b (d++fK)
 | [],j,ds,h,_=>by cases h;exact ⟨fun _=>rfl,fun rest i blk hb=>by simp[eg] at hb⟩
 | b::l,j,ds,h,au=>by
  simp only[xN] at h
  obtain ⟨a,h1,h⟩:=bind_some h
  obtain ⟨c,U,h⟩:=bind_some h
  cases h
  simp only[List.all_cons,aI] at au
  obtain ⟨i1,i2⟩:=Mv U au.2
  have bU:=Wq h1 au.1
  have hd: ∀rest,(a++c++rest).drop b.size=c++rest:=fun rest=>by rw[b7];exact mM bU
  refine ⟨fun rest=>by simp only[eg,List.length_cons,hd,i1],fun rest i blk hb=> ?_⟩
  simp only[eg,hd] at hb
  cases i with
  | zero=>
   simp at hb
   exact ⟨b,a,c++rest,rfl,au.1,h1,by rw[←hb]⟩
  | succ i=>
   obtain ⟨b',d,fK,m1,m2,m3,m4⟩:=i2 rest i blk (by simpa using hb)
   exact ⟨b',d,fK,by simpa using m1,m2,by rw[show j+(i+1)=j+1+i by omega];exact m3,m4⟩
theorem Wr {n:Nat} {b:BS} {blk:an} {ds rest:List V} (h:kf b (some blk)=some ds) (au:b.ok n=true):
  blk.le (fh b (ds++rest))∧(fh b (ds++rest)= .dead∨fh b (ds++rest)=blk∨∃T ls cs,b= .var T ls∧blk= .var T cs∧pq ls cs=some ds∧fh b (ds++rest)= .var T (eW ls (ds++rest))):=by
 cases b with
 | dead=>exact ⟨by cases blk<;>trivial,.inl rfl⟩
 | var T0 ls=>
  cases blk<;>simp only[kf] at h<;>first|(cases h;done)|skip
  obtain ⟨hT,h0⟩:=G0 h
  clear h
  rw[aP] at hT
  subst hT
  exact ⟨rfl,.inr (.inr ⟨_,_,_,rfl,rfl,h0,rfl⟩)⟩
 | arr e fz=>
  cases blk<;>simp only[kf] at h<;>first|(cases h;done)|skip
  rename_i e' es my
  have hb:=ta h
  simp only[aI,aP,sn] at hb
  obtain ⟨rfl,rfl⟩:=hb
  simp only[iY,beq_self_eq_true,Bool.and_self,cond_true,dC] at h
  subst h
  exact ⟨⟨rfl,rfl⟩,.inr (.inl rfl)⟩
 | nest e=>
  cases blk<;>simp only[kf] at h<;>first|(cases h;done)|skip
  rename_i e' es aq
  have hb:=ta h
  simp only[aI,aP] at hb
  obtain ⟨rfl,hv⟩:=hb
  have:=vm hv
  subst this
  simp only[iY,mn] at h
  cases h
  exact ⟨⟨rfl,rfl,rfl,fun _=>bX _⟩,.inr (.inl rfl)⟩
 | map t=>
  cases blk<;>simp only[kf] at h<;>first|(cases h;done)|skip
  rename_i t' es
  have hb:=ta h
  rw[aP] at hb
  subst hb
  simp only[iY,cond_true,dC] at h
  subst h
  exact ⟨rfl,.inr (.inl rfl)⟩
theorem Mw {m:Nat} {S:Shape} {st:St} {ds:List V} (h:jb m S st=some ds):
  S.ok=true∧m≤S.aY.length∧∃a b,xM st.sl S.bE=some a∧xN st.hp 0 S.aY=some b∧ds=a++b:=by
 unfold jb at h
 cases hc:(S.ok&&Nat.ble m S.aY.length) with
 | false=>rw[hc] at h;cases h
 | true=>
  rw[hc] at h
  simp only[cond_true] at h
  simp only[aI,dK] at hc
  obtain ⟨a,h1,h⟩:=bind_some h
  obtain ⟨b,U,h⟩:=bind_some h
  cases h
  exact ⟨hc.1,hc.2,a,b,h1,U,rfl⟩
theorem reshape {m:Nat} {S:Shape} {st:St} {ds:List V} (h:jb m S st=some ds) (hS:aE P w I β st.hp B M w0):
  aE P w I β (bd S ds).hp B M w0∧(∀(k:Nat) (v:Value),ao P w I β st.hp v (st.sl k)→ao P w I β (bd S ds).hp v ((bd S ds).sl k))∧
  (∀(μ:Nat→Option Nat) (hp0:Nat→Option an),(∀id blk,hp0 id=some blk→id<m)→Le P w0.w w0.I μ hp0 w I β st.hp→Le P w0.w w0.I μ hp0 w I β (bd S ds).hp)∧
  ∀j blk',(bd S ds).hp j=some blk'→blk'≠ .dead→∃blk,st.hp j=some blk∧blk.le blk'∧∀o b,bn P w o blk' b→bn P w o blk b:=by
 obtain ⟨au,hm,a,b,h1,U,rfl⟩:=Mw h
 unfold Shape.ok at au
 rw[aI] at au
 obtain ⟨Mx,GD⟩:=au
 have aR: ∀p∈S.bE,∀d,oA p.2 (st.sl p.1)=some d→d.length=p.2.size:=fun p hp d hd=>
  (GY (P:=P) (w:=w) (I:=I) (β:=β) (hp:=st.hp) (fun _ _=>⟨rfl,rfl⟩) hd (eS.1 Mx p hp)).1
 have bU:a.length=nC S.bE:=(GZ (k:=0) (y:= .undef) h1 aR).1
 have Cp:(bd S (a++b)).hp=ja (eg S.aY (b++[])):=by
  simp only[bd,mk,dy]
  rw[mM bU]
 obtain ⟨bl,bg⟩:=Mv U GD
 have get: ∀j blk',(bd S (a++b)).hp j=some blk'→j<S.aY.length∧∃bs d fK,bs.ok S.aY.length=true∧kf bs (st.hp j)=some d∧blk'=fh bs (d++fK):=by
  intro j blk' hj
  rw[Cp,gA] at hj
  obtain ⟨bs,d,fK,m1,m2,m3,m4⟩:=bg [] j blk' hj
  rw[gj] at m3
  exact ⟨(bj.1 m1).1,bs,d,fK,m2,m3,m4⟩
 have have': ∀j,j<S.aY.length→∃blk',(bd S (a++b)).hp j=some blk':=by
  intro j hj
  rw[Cp,gA]
  exact ⟨_,bq (by rw[bl];exact hj)⟩
 generalize fH:(bd S (a++b)).hp=tc at*
 let bh:Nat→Option an:=fun id=>if id<S.aY.length then tc id else st.hp id
 have back: ∀j blk',tc j=some blk'→blk'≠ .dead→∃blk,st.hp j=some blk∧blk.le blk'∧(blk'=blk∨∃T ls cs d fK,ls.all (VS.ok S.aY.length)=true∧blk= .var T cs∧pq ls cs=some d∧blk'= .var T (eW ls (d++fK))):=by
  intro j blk' hj hd
  obtain ⟨bR,bs,d,fK,m1,m2,m3⟩:=get j blk' hj
  cases bS:st.hp j with
  | none=>
   rw[bS] at m2
   cases bs<;>simp only[kf] at m2<;>first|(cases m2;done)|skip
   exact absurd m3 hd
  | some blk=>
   rw[bS] at m2
   obtain ⟨n1,n2⟩:=Wr (rest:=fK) m2 m1
   rw[←m3] at n1 n2
   refine ⟨blk,rfl,n1,?_⟩
   rcases n2 with e|e|⟨T,ls,cs,e1,e2,e3,e4⟩
   ·exact absurd e hd
   ·exact .inl e
   ·subst e1
    exact .inr ⟨T,ls,cs,d,fK,m1,e2,e3,e4⟩
 have Ws: ∀j blk,st.hp j=some blk→j<S.aY.length→∃blk',tc j=some blk'∧blk.le blk':=by
  intro j blk hj bR
  obtain ⟨blk',ay⟩:=have' j bR
  refine ⟨blk',ay,?_⟩
  by_cases hd:blk'= .dead
  ·subst hd;cases blk<;>trivial
  ·obtain ⟨bK,e1,e2,_⟩:=back j blk' ay hd
   rw[hj] at e1;cases e1
   exact e2
 have Wt: ∀j e es aq e' aJ vers',st.hp j=some (.nest e es aq)→tc j=some (.nest e' aJ vers')→e'=e∧aJ=es∧vers'=aq:=by
  intro j e es aq e' aJ vers' hj fU
  obtain ⟨blk,e1,_,e3⟩:=back j _ fU (by simp)
  rw[hj] at e1;cases e1
  rcases e3 with e3|⟨_,_,_,_,_,_,e3,_⟩
  ·cases e3;exact ⟨rfl,rfl,rfl⟩
  ·cases e3
 have hle:Le P w I β st.hp w I β bh:=by
  refine ⟨fun _ h=>h,fun _ _=>rfl,fun id blk ab=> ?_,fun _ _ _ _ _ _ _ _=>rfl,Le.rk (fun _ _ _ _ _ _=>rfl) fun id e es aq e' aJ vers' ab bu=> ?_⟩
  ·by_cases hl:id<S.aY.length
   ·obtain ⟨blk',e1,e2⟩:=Ws id blk ab hl
    exact ⟨blk',by simp only[bh,ak hl];exact e1,e2,fun _=>rfl⟩
   ·exact ⟨blk,by simp only[bh,ai hl];exact ab,an.le_refl _,fun _=>rfl⟩
  ·by_cases hl:id<S.aY.length
   ·simp only[bh,ak hl] at bu
    exact Wt _ _ _ _ _ _ _ ab bu
   ·simp only[bh,ai hl] at bu
    rw[ab] at bu;cases bu
    exact ⟨rfl,rfl,rfl⟩
 have iu:yG S.aY.length β bh β tc:=fun id ab=>⟨by simp only[bh,ak ab],rfl⟩
 have va: ∀j blk' blk o b,tc j=some blk'→st.hp j=some blk→bn P w o blk' b→bn P w o blk b:=by
  intro j blk' blk o b fU hj ho
  obtain ⟨bK,e1,_,e3⟩:=back j blk' fU ho.alive
  rw[hj] at e1;cases e1
  rcases e3 with e3|⟨T,ls,cs,d,fK,_,e3,_,e5⟩
  ·subst e3;exact ho
  ·subst e3;subst e5
   exact .root (by simp) (ho.flat (by simp))
 refine ⟨⟨⟨fun j blk' hj=> ?_,fun j1 j2 b1 b2 b' e1 e2 o1 o2=> ?_,fun j blk b' hj ho=> ?_,hS.h.je⟩,hS.bQ,hS.size,hS.new,hS.io⟩,fun k v hv=> ?_,fun μ hp0 aL hE=> ?_,fun j blk' hj hd=> ?_⟩
 ·by_cases hd:blk'= .dead
  ·subst hd;exact .dead
  ·obtain ⟨blk,e1,_,e3⟩:=back j blk' hj hd
   have hr:=hS.h.rel j blk e1
   generalize β j=o at hr
   rcases e3 with e3|⟨T0,ls,cs,d,fK,q1,e3,e4,e5⟩
   ·subst e3
    cases hr with
    | @var xs b' Ca T hb hh hs cD hx fG=>
     obtain ⟨bR,bs,d,fK,m1,m2,m3⟩:=get j _ hj
     rw[e1] at m2
     cases bs<;>simp only[kf] at m2<;>first|(cases m2;done)|skip
     ·rename_i T0 ls
      simp only[fh] at m3
      obtain ⟨hT,m2⟩:=G0 m2
      obtain ⟨i1,i2,i3⟩:=yI (P:=P) (w:=w) (I:=I) iu m2 m1
      injection m3 with m4 m3
      rw[m3]
      exact .var hb hh (by rw[i2];exact hs) cD (fun i v y hi hy=>i3 fK i v y (fun x cf=>(hx i v x hi cf).mono hle) hy) fG
     ·simp only[fh] at m3
      cases m3
    | dr hb=>exact .dr hb
    | arr a1 a2 a3 a4 a5 a6 a7=>exact .arr a1 a2 a3 a4 a5 a6 a7
    | dead=>exact absurd rfl hd
    | nest a1 a2 a3=>exact .nest a1 a2 a3
    | map a1 a2 a3 a4 a5 a6 a7=>exact .map a1 a2 a3 a4 a5 a6 a7
   ·subst e3
    subst e5
    cases hr with
    | @var xs b' Ca T hb hh hs cD hx fG=>
     obtain ⟨i1,i2,i3⟩:=yI (P:=P) (w:=w) (I:=I) iu e4 q1
     exact .var hb hh (by rw[i2];exact hs) cD (fun i v y hi hy=>i3 fK i v y (fun x cf=>(hx i v x hi cf).mono hle) hy) fG
 ·obtain ⟨c1,x1,_,_⟩:=back j1 b1 e1 o1.alive
  obtain ⟨c2,x2,_,_⟩:=back j2 b2 e2 o2.alive
  exact hS.h.inj j1 j2 c1 c2 b' x1 x2 (va _ _ _ _ _ e1 x1 o1) (va _ _ _ _ _ e2 x2 o2)
 ·obtain ⟨c1,x1,_,_⟩:=back j blk hj ho.alive
  exact hS.h.own j c1 b' x1 (va _ _ _ _ _ hj x1 ho)
 ·change ao P w I β tc v (iJ (eK S.bE (a++b)) k)
  unfold iJ
  cases G1:dp (eK S.bE (a++b)) k with
  | none=>exact .undef
  | some y=>
   obtain ⟨s,d,fK,n1,n2,n3⟩:=(GZ h1 aR).2 b G1
   simp only[Option.getD_some,n3]
   exact (GY (P:=P) (w:=w) (I:=I) iu n2 (eS.1 Mx _ n1)).2 fK v (hv.mono hle)
 ·have h3:=hE.trans hle
  refine ⟨h3.cY,h3.bQ,fun id blk ab=> ?_,fun id blk blk' b' ab bu hd hb=> ?_,fun id e es aq e' aJ vers' b2 q i c t v e1 l ab bu=> ?_⟩
  ·have hl:=aL id blk ab
   obtain ⟨blk',k1,k2,k3⟩:=h3.blk id blk ab
   simp only[bh,ak (show id<S.aY.length by omega)] at k1
   exact ⟨blk',k1,k2,k3⟩
  ·have hl:=aL id blk ab
   exact h3.size id blk blk' b' ab (by simp only[bh,ak (show id<S.aY.length by omega)];exact bu) hd hb
  ·have hl:=aL id _ ab
   exact h3.row id e es aq e' aJ vers' b2 q i c t v e1 l ab (by simp only[bh,ak (show id<S.aY.length by omega)];exact bu)
 ·obtain ⟨blk,e1,e2,_⟩:=back j blk' hj hd
  exact ⟨blk,e1,e2,fun o b' ho=>va _ _ _ _ _ hj e1 ho⟩
end
section
variable {P:Program} {A:cm} {w w':World} {I I' I2:Nat→Prop} {μ β β':Nat→Option Nat} {hp hp' hp0:Nat→Option an} {C:ag} {B:Nat} {M:Nat→Prop} {w0:Start}
inductive dG (P:Program) (w:World) (β:Nat→Option Nat) (hp:Nat→Option an):Place→Option Nat→an→Prop
 | var {id:Nat} {T:TypeId} {cs G2:List V}:hp id=some (.var T cs)→dG P w β hp (.blk id) (β id) (.var T G2)
 | arr {id:Nat} {e:TypeId} {es:List V}:hp id=some (.arr e es false)→dG P w β hp (.blk id) (β id) (.arr e es false)
 | nest {id:Nat} {e:TypeId} {es:List V} {aq:List Nat}:hp id=some (.nest e es aq)→dG P w β hp (.blk id) (β id) (.nest e es [0,0,0])
 | row {id ver b b':Nat} {path:Path} {e0 e':TypeId} {es l:List V} {aq:List Nat}:hp id=some (.nest e0 es aq)→β id=some b→At P w b e0 es path b' e' l→xL P e'=true→
   0<path.length→path.length≤aq.length→br aq (path.length-1)=ver→0<l.length→dG P w β hp (.row id ver path) (some b') (.arr e' l false)
 | map {id:Nat} {t:TypeId} {es:List V}:hp id=some (.map t es)→dG P w β hp (.blk id) (β id) (.map t es)
def yJ (P:Program) (w:World) (β:Nat→Option Nat) (hp:Nat→Option an) (ρ:List Place) (μ:Nat→Option Nat) (hp0:Nat→Option an):Prop:=
 ∀j p,dM ρ j=some p→∃blk,hp0 j=some blk∧dG P w β hp p (μ j) blk
theorem nR: ∀{l m:List Place} {j:Nat} {p:Place},dM l j=some p→dM (l++m) j=some p
 | [],m,j,p,h=>by cases h
 | a::l,m,0,p,h=>h
 | a::l,m,j+1,p,h=>nR (l:=l) h
theorem k0: ∀{l:List Place} {j:Nat},dM l j=l[j]?
 | [],j=>by simp[dM]
 | a::l,0=>rfl
 | a::l,j+1=>by simp only[dM,k0,List.getElem?_cons_succ]
structure Ext (P:Program) (w:World) (I:Nat→Prop) (β:Nat→Option Nat) (hp:Nat→Option an) (h h':Hand) (d:List V) (u:List (Nat × an)):Prop where
 ds:h'.ds=h.ds++d
 upd:h'.upd=h.upd++u
 Cz: ∀q∈u,yd hp q
 pl: ∃m,h'.pl=h.pl++m
 nodup:(h.pl.map Place.id).Nodup→(h'.pl.map Place.id).Nodup
theorem Ext.refl (h:Hand):Ext P w I β hp h h [] []:=⟨by simp,by simp,by simp,⟨[],by simp⟩,id⟩
theorem Ext.trans {h1 U h3:Hand} {d1 d2:List V} {u1 u2:List (Nat × an)} (a:Ext P w I β hp h1 U d1 u1) (b:Ext P w I β hp U h3 d2 u2):Ext P w I β hp h1 h3 (d1++d2) (u1++u2):=by
 obtain ⟨m1,e1⟩:=a.pl
 obtain ⟨m2,e2⟩:=b.pl
 exact ⟨by rw[b.ds,a.ds,b7],by rw[b.upd,a.upd,b7],fun q hq=>(ee.1 hq).elim (a.Cz q) (b.Cz q),⟨m1++m2,by rw[e2,e1,b7]⟩,fun h=>b.nodup (a.nodup h)⟩
theorem Ext.look {h h':Hand} {d:List V} {u:List (Nat × an)} (a:Ext P w I β hp h h' d u) {j:Nat} {p:Place} (hj:dM h.pl j=some p):dM h'.pl j=some p:=by
 obtain ⟨m,e⟩:=a.pl
 rw[e]
 exact nR hj
theorem Ext.leaf (h:Hand) (x:V):Ext P w I β hp h {h with ds:=h.ds++[x]} [x] []:=⟨rfl,by simp,by simp,⟨[],by simp⟩,id⟩
theorem Wu {α:Type} {ρ:List Place} {j:Nat} {p:Place} {k:List Place→Rd α} {r:α} {rd:List Nat} (h:(unify ρ j p k).run C hp=some (r,rd)) (hb: ∃id,p= .blk id∨∃ver path,p= .row id ver path):
  ∃ji,(k ji).run C hp=some (r,rd)∧(∃m,ji=ρ++m)∧dM ji j=some p∧((ρ.map Place.id).Nodup→(ji.map Place.id).Nodup):=by
 unfold unify at h
 cases hc:Nat.blt j ρ.length with
 | true=>
  rw[hc] at h
  obtain ⟨h1,U⟩:=aF h
  refine ⟨ρ,U,⟨[],by simp⟩,?_,id⟩
  unfold KY at h1
  split at h1
  ·rename_i a b he
   rw[aP] at h1
   subst h1
   exact he
  ·cases h1
 | false=>
  rw[hc] at h
  obtain ⟨h1,U⟩:=aF h
  simp only[aI,aP,mi] at h1
  obtain ⟨rfl,h3⟩:=h1
  refine ⟨ρ++[p],U,⟨[p],rfl⟩,?_,fun hn=> ?_⟩
  ·rw[k0];simp
  ·rw[fQ,Bh]
   refine ⟨hn,by simp,fun a ha b hb=> ?_⟩
   simp only[cG,gl,dB] at hb
   subst hb
   intro e
   subst e
   rw[u6 ha] at h3
   cases h3
theorem td {α:Type} {h:Hand} {j:Nat} {p:Place} {k:List Place→Rd α} {r:α} {rd:List Nat} (hr:(unify h.pl j p k).run C hp=some (r,rd)) (ds:List V):
  ∃ji,(k ji).run C hp=some (r,rd)∧dM ji j=some p∧Ext P w I β hp h {h with pl:=ji,ds:=h.ds++ds} ds []:=by
 obtain ⟨ji,a,b,c,d⟩:=Wu hr (by cases p with|blk id=>exact ⟨id,.inl rfl⟩|row id ver path=>exact ⟨id,.inr ⟨ver,path,rfl⟩⟩)
 exact ⟨ji,a,c,⟨rfl,by simp,by simp,b,d⟩⟩
theorem Wv {o:Option Nat} {blk:an} {e:TypeId} {id j:Nat} {v:Value} (hv:ao P w I β hp v (.whole e id)) (hl:dG P w β hp (.blk id) o blk) (hj:hp0 j=some blk) (jk:μ j=o):ao P w I' μ hp0 v (.whole e j):=by
 cases hl with
 | var h=>
  cases hv with
  | dN U=>rw[h] at U;cases U
  | dq U=>rw[h] at U;cases U
  | whole U=>rw[h] at U;cases U
  | dW U=>rw[h] at U;cases U
 | arr h=>
  cases hv with
  | dN U=>rw[h] at U;cases U
  | dq U hb=>rw[h] at U;cases U;exact .dq hj (jk.trans hb)
  | whole U hb a b c=>rw[h] at U;cases U;exact .whole hj (jk.trans hb) a b c
  | dW U=>rw[h] at U;cases U
 | nest h=>
  cases hv with
  | dN U=>rw[h] at U;cases U
  | dq U=>rw[h] at U;cases U
  | whole U=>rw[h] at U;cases U
  | dW U hb a b c=>rw[h] at U;cases U;exact .dW hj (jk.trans hb) a b c
 | map h=>
  cases hv with
  | dN U=>rw[h] at U;cases U
  | dq U=>rw[h] at U;cases U
  | whole U=>rw[h] at U;cases U
  | dW U=>rw[h] at U;cases U
theorem Ww {o:Option Nat} {blk:an} {t:TypeId} {id j:Nat} {v:Value} (hv:ao P w I β hp v (.cb t id)) (hl:dG P w β hp (.blk id) o blk) (hj:hp0 j=some blk) (jk:μ j=o):ao P w I' μ hp0 v (.cb t j):=by
 cases hv with
 | gP U=>cases hl<;>(rename_i h;rw[h] at U;cases U)
 | cb U hb=>
  cases hl<;>(rename_i h;rw[h] at U;cases U)
  exact .cb hj (jk.trans hb)
theorem Wx {o:Option Nat} {blk:an} {e:TypeId} {id off n j:Nat} {v:Value} (hv:ao P w I β hp v (.sub e id off n)) (hl:dG P w β hp (.blk id) o blk) (hj:hp0 j=some blk) (jk:μ j=o):ao P w I' μ hp0 v (.sub e j off n):=by
 cases hl with
 | var h=>
  cases hv with
  | fE U=>rw[h] at U;cases U
  | fk U=>rw[h] at U;cases U
  | sub U=>rw[h] at U;cases U
 | arr h=>
  cases hv with
  | fE U=>rw[h] at U;cases U
  | fk U hb=>rw[h] at U;cases U;exact .fk hj (jk.trans hb)
  | sub U hb a b c=>rw[h] at U;cases U;exact .sub hj (jk.trans hb) a b c
 | nest h=>
  cases hv with
  | fE U=>rw[h] at U;cases U
  | fk U=>rw[h] at U;cases U
  | sub U=>rw[h] at U;cases U
 | map h=>
  cases hv with
  | fE U=>rw[h] at U;cases U
  | fk U=>rw[h] at U;cases U
  | sub U=>rw[h] at U;cases U
theorem My {o:Option Nat} {blk:an} {id i c j:Nat} {v:Value} (hv:ao P w I β hp v (.ptr id i c)) (hl:dG P w β hp (.blk id) o blk) (hj:hp0 j=some blk) (jk:μ j=o):ao P w I' μ hp0 v (.ptr j i c):=by
 cases hl with
 | @var _ T0 cs G2 h=>
  obtain ⟨b,hb,rfl⟩:=hv.gu h (by simp)
  exact ao.ptr (blk:= .var T0 G2) hj (by simp) (jk.trans hb)
 | @arr _ e es h=>
  obtain ⟨b,hb,rfl⟩:=hv.gu h (by simp)
  exact ao.ptr (blk:= .arr e es false) hj (by simp) (jk.trans hb)
 | @nest _ e es aq h=>
  obtain ⟨b,hb,rfl⟩:=hv.gu h (by simp)
  exact ao.ptr (blk:= .nest e es [0,0,0]) hj (by simp) (jk.trans hb)
 | @map _ t es h=>
  obtain ⟨b,hb,rfl⟩:=hv.gu h (by simp)
  exact ao.ptr (blk:= .map t es) hj (by simp) (jk.trans hb)
theorem Wy (cp: ∀id blk,hp id=some blk→dD P w I β hp (β id) blk) {id b i c:Nat} {e0 t:TypeId} {es l:List V} {aq:List Nat} {q:Path} {e:TypeId} {v:Value} (ab:hp id=some (.nest e0 es aq)) (hb:β id=some b)
  (ht:P.underlying t=some (.slice e)) (hc:lB P w b e0 es q i c t v (.list e l)) (hl:0<l.length): ∃b1 cap,v= .slice (some ⟨b1,0,none⟩) l.length cap∧cap*P.cellsOf e=bsize w b1∧l.length≤cap∧cap≤maxLen∧At P w b e0 es (q++[(i,c)]) b1 e l:=by
 obtain ⟨b2,e1,m,Ca,T,f,x,n1,n2,n3,n4,n5,n6⟩:=hc
 have hr:=cp _ _ ab
 cases hr with
 | nest ay hr hn=>
  rw[hb] at ay;cases ay
  have hR:=hr _ _ _ _ n1
  obtain ⟨yg,c1,c2,c3⟩:=hR.cells
  rw[n2] at c1
  cases c1
  have sP:c<P.cellsOf e1:=by rw[←eZ hR.ok];exact (bj.1 n4).1
  obtain ⟨v',d1,d2⟩:=c3 i c x t n3 n4 sP
  rw[n6] at d1
  cases d1
  rw[n5] at d2
  generalize hy:V.list e l=y at d2
  cases d2 with
  | fj a p=>unfold fg at a;rw[ht] at a;cases a
  | emp hu ha=>cases hy;simp at hl
  | row hu jf aR bO nH=>
   cases hy
   exact ⟨_,_,rfl,aR,bO,nH,n1.snoc n2 n3 n4 ht n5 jf n6⟩
theorem Wz (S:aE P w I β hp B M w0) {o:Option Nat} {blk:an} {e:TypeId} {id ver j:Nat} {path:Path} {v:Value} (hv:ao P w I β hp v (.row e id ver path)) (hl:dG P w β hp (.row id ver path) o blk) (hj:hp0 j=some blk) (jk:μ j=o):ao P w I' μ hp0 v (.whole e j):=by
 cases hl with
 | row h hb ha hf h1 U h3 h4=>
  obtain ⟨b2,q,i,c,t,l2,rfl,ik,ht,hc⟩:=hv.K6 h h1 U h3
  rw[hb] at ik;cases ik
  obtain ⟨p1,p2⟩:=F0 ha
  have ib:=hc
  obtain ⟨b3,e3,m3,Ca,T,f,x,n1,n2,n3,n4,n5,n6⟩:=ib
  obtain ⟨q1,q2⟩:=BP n1 n3 n4 ht n5
  rw[p1] at q1
  rw[p2] at q2
  cases q1
  cases q2
  obtain ⟨b1,cap,rfl,m1,m2,m4,m5⟩:=Wy S.h.rel h hb ht hc h4
  have:=WA ha m5
  subst this
  exact .whole hj jk m1 m2 m4
where
 WA {b b1 b2:Nat} {e e1 e2:TypeId} {es l l2:List V} {q:Path} (h:At P w b e es q b1 e1 l) (U:At P w b e es q b2 e2 l2):b2=b1:=(h.fun U).1
theorem Mz (S:aE P w I β hp B M w0) {α:Type} {l:LS} {x:V} {h:Hand} {k:Hand→Rd α} {r:α} {rd:List Nat} {v:Value} (hr:(BC P l x h k).run C hp=some (r,rd)) (hv:ao P w I β hp v x):
  ∃h' ew d u,(k h').run C hp=some (r,ew)∧Ext P w I β hp h h' d u∧d.length=l.size∧
   ∀(I':Nat→Prop) (μ:Nat→Option Nat) (hp0:Nat→Option an),(∀b,I b→I' b)→(∀q∈u,∀b,rm P w β hp q.1 b→I' b)→∀ρ m,ρ=h'.pl++m→yJ P w β hp ρ μ hp0→∀rest,ao P w I' μ hp0 v (hX l (d++rest)):=by
 have plain: ∀{x':V} {iO:List Nat},(k {h with ds:=h.ds++[x']}).run C hp=some (r,iO)→l.size=1→(∀I' μ hp0 rest,ao P w I' μ hp0 v (hX l ([x']++rest)))→∃h' ew d u,(k h').run C hp=some (r,ew)∧Ext P w I β hp h h' d u∧d.length=l.size∧
   ∀(I':Nat→Prop) (μ:Nat→Option Nat) (hp0:Nat→Option an),(∀b,I b→I' b)→(∀q∈u,∀b,rm P w β hp q.1 b→I' b)→∀ρ m,ρ=h'.pl++m→yJ P w β hp ρ μ hp0→∀rest,ao P w I' μ hp0 v (hX l (d++rest)):=
  fun hk hs hx=>⟨_,_,_,_,hk,Ext.leaf h _,hs.symm,fun I' μ hp0 _ _ _ _ _ _ rest=>hx I' μ hp0 rest⟩
 have mI: ∀{iO:List Nat},(k h).run C hp=some (r,iO)→l.size=0→(∀I' μ hp0 rest,ao P w I' μ hp0 v (hX l rest))→∃h' ew d u,(k h').run C hp=some (r,ew)∧Ext P w I β hp h h' d u∧d.length=l.size∧
   ∀(I':Nat→Prop) (μ:Nat→Option Nat) (hp0:Nat→Option an),(∀b,I b→I' b)→(∀q∈u,∀b,rm P w β hp q.1 b→I' b)→∀ρ m,ρ=h'.pl++m→yJ P w β hp ρ μ hp0→∀rest,ao P w I' μ hp0 v (hX l (d++rest)):=
  fun hk hs hx=>⟨_,_,_,_,hk,Ext.refl h,by simp[hs],fun I' μ hp0 _ _ _ _ _ _ rest=>hx I' μ hp0 rest⟩
 unfold BC at hr
 cases l with
 | pD=>exact mI hr rfl fun _ _ _ _=> .undef
 | int kd=>
  cases x<;>simp only at hr<;>first|(cases hr;done)|skip
  obtain ⟨h1,U⟩:=aF hr
  simp only[dJ] at h1
  subst h1
  obtain rfl:=hv.dE
  exact plain U rfl fun _ _ _ _=> .int
 | bool=>
  cases x<;>simp only at hr<;>first|(cases hr;done)|skip
  obtain rfl:=hv.jH
  exact plain hr rfl fun _ _ _ _=> .bool
 | str=>
  cases x<;>simp only at hr<;>first|(cases hr;done)|skip
  obtain ⟨s,rfl,hl⟩:=hv.lD
  exact plain hr rfl fun _ _ _ _=> .str hl
 | nilS e=>
  cases x<;>simp only at hr<;>first|(cases hr;done)|skip
  obtain ⟨h1,U⟩:=aF hr
  cases hv with
  | nilS=>exact mI U rfl fun _ _ _ _=> .nilS
 | c9=>
  cases x<;>simp only at hr<;>first|(cases hr;done)|skip
  cases hv with
  | c9=>exact mI hr rfl fun _ _ _ _=> .c9
 | row e j cs=>
  cases x<;>simp only at hr<;>first|(cases hr;done)|skip
  rename_i e' id ver path
  obtain ⟨e0,es,aq,l0,ab,p1,p2,p3,hr⟩:=nG hr
  obtain ⟨h1,U⟩:=aF hr
  simp only[aI,aP,dK] at h1
  obtain ⟨rfl,nK,WB⟩:=h1
  have:=vm nK
  subst this
  obtain ⟨ji,a,b,c⟩:=td (P:=P) (w:=w) (I:=I) (β:=β) U (path.map fun p=>dL p.1)
  refine ⟨_,_,path.map fun p=>dL p.1,[],a,c,by simp[LS.size],fun I' μ hp0 i1 i2 ρ m da cQ rest=> ?_⟩
  obtain ⟨blk,k1,k2⟩:=cQ j _ (by rw[da];exact nR b)
  obtain ⟨bb,q,i,cc,t,l,rfl,hb,ht,hc⟩:=hv.K6 ab p1 p2 p3
  have pU:blk= .nest e0 es [0,0,0]∧μ j=β id:=by
   generalize μ j=o at k2
   cases k2 with
   | var h=>rw[ab] at h;cases h
   | arr h=>rw[ab] at h;cases h
   | map h=>rw[ab] at h;cases h
   | nest h=>rw[ab] at h;cases h;exact ⟨rfl,rfl⟩
  obtain ⟨rfl,jk⟩:=pU
  simp only[hX,Cx]
  have hq:q.length<3:=by rw[ca,List.length_singleton] at WB;omega
  refine .row k1 (jk.trans hb) (by simpa using hq) ?_ ht hc
  match q.length,hq with
  | 0,_=>rfl
  | 1,_=>rfl
  | 2,_=>rfl
 | cl j cs c=>cases hr
 | Bn k n=>cases hr
 | Bo b=>cases hr
 | db t=>
  cases x<;>simp only at hr<;>first|(cases hr;done)|skip
  obtain ⟨h1,U⟩:=aF hr
  cases hv with
  | db=>exact mI U rfl fun _ _ _ _=> .db
 | cb t j=>
  cases x<;>simp only at hr<;>first|(cases hr;done)|skip
  rename_i t' id
  obtain ⟨h1,U⟩:=aF hr
  rw[aP] at h1
  subst h1
  obtain ⟨ji,a,b,c⟩:=td (P:=P) (w:=w) (I:=I) (β:=β) U []
  refine ⟨_,_,[],[],a,by simpa using c,rfl,fun I' μ hp0 i1 i2 ρ m da cQ rest=> ?_⟩
  obtain ⟨blk,k1,k2⟩:=cQ j _ (by rw[da];exact nR b)
  exact Ww hv k2 k1 rfl
 | list e=>
  obtain ⟨⟨y,u⟩,l1,l2,h1,U⟩:=kj hr
  cases y<;>simp only at U<;>first|(cases U;done)|skip
  rename_i e' es
  obtain ⟨h3,h4⟩:=aF U
  rw[aP] at h3
  subst h3
  obtain ⟨p1,p2⟩:=BQ S.h.rel h1 hv
  exact ⟨_,_,[.list e es],u,h4,⟨rfl,rfl,p1,⟨[],by simp⟩,id⟩,rfl,fun I' μ hp0 i1 i2 _ _ _ _ rest=> .list (p2 I' i1 i2)⟩
 | whole e j=>
  cases x<;>simp only at hr<;>first|(cases hr;done)|skip
  ·rename_i e' id
   obtain ⟨h1,U⟩:=aF hr
   rw[aP] at h1
   subst h1
   obtain ⟨ji,a,b,c⟩:=td (P:=P) (w:=w) (I:=I) (β:=β) U []
   refine ⟨_,_,[],[],a,by simpa using c,rfl,fun I' μ hp0 i1 i2 ρ m da cQ rest=> ?_⟩
   obtain ⟨blk,k1,k2⟩:=cQ j _ (by rw[da];exact nR b)
   exact Wv hv k2 k1 rfl
  ·rename_i e' id ver path
   obtain ⟨h1,U⟩:=aF hr
   rw[aP] at h1
   subst h1
   obtain ⟨ji,a,b,c⟩:=td (P:=P) (w:=w) (I:=I) (β:=β) U []
   refine ⟨_,_,[],[],a,by simpa using c,rfl,fun I' μ hp0 i1 i2 ρ m da cQ rest=> ?_⟩
   obtain ⟨blk,k1,k2⟩:=cQ j _ (by rw[da];exact nR b)
   exact Wz S hv k2 k1 rfl
 | sub e j=>
  cases x<;>simp only at hr<;>first|(cases hr;done)|skip
  rename_i e' id o n
  obtain ⟨h1,U⟩:=aF hr
  rw[aP] at h1
  subst h1
  obtain ⟨ji,a,b,c⟩:=td (P:=P) (w:=w) (I:=I) (β:=β) U [dL o,dL n]
  refine ⟨_,_,[dL o,dL n],[],a,c,rfl,fun I' μ hp0 i1 i2 ρ m da cQ rest=> ?_⟩
  obtain ⟨blk,k1,k2⟩:=cQ j _ (by rw[da];exact nR b)
  simpa[hX,V.nth] using Wx (I':=I') hv k2 k1 rfl
 | ptr j=>
  cases x<;>simp only at hr<;>first|(cases hr;done)|skip
  rename_i id i c
  obtain ⟨ji,a,b,c'⟩:=td (P:=P) (w:=w) (I:=I) (β:=β) hr [dL i,dL c]
  refine ⟨_,_,[dL i,dL c],[],a,c',rfl,fun I' μ hp0 i1 i2 ρ m da cQ rest=> ?_⟩
  obtain ⟨blk,k1,k2⟩:=cQ j _ (by rw[da];exact nR b)
  simpa[hX,V.nth] using My (I':=I') hv k2 k1 rfl
 | mr j i c=>
  cases x<;>simp only at hr<;>first|(cases hr;done)|skip
  rename_i id i' c'
  obtain ⟨h1,U⟩:=aF hr
  simp only[aI,aP] at h1
  obtain ⟨rfl,rfl⟩:=h1
  obtain ⟨ji,a,b,c'⟩:=td (P:=P) (w:=w) (I:=I) (β:=β) U []
  refine ⟨_,_,[],[],a,by simpa using c',rfl,fun I' μ hp0 i1 i2 ρ m da cQ rest=> ?_⟩
  obtain ⟨blk,k1,k2⟩:=cQ j _ (by rw[da];exact nR b)
  exact My hv k2 k1 rfl
end
section
variable {P:Program} {A:cm} {w w':World} {I I' I2:Nat→Prop} {μ β β':Nat→Option Nat} {hp hp' hp0:Nat→Option an} {C:ag} {B:Nat} {M:Nat→Prop} {w0:Start}
def lL (P:Program) (w:World) (I:Nat→Prop) (β:Nat→Option Nat) (hp:Nat→Option an) (h':Hand) (u:List (Nat × an)) (K:(Nat→Prop)→(Nat→Option Nat)→(Nat→Option an)→Prop):Prop:=
 ∀(I':Nat→Prop) (μ:Nat→Option Nat) (hp0:Nat→Option an),(∀b,I b→I' b)→(∀q∈u,∀b,rm P w β hp q.1 b→I' b)→∀ρ m,ρ=h'.pl++m→yJ P w β hp ρ μ hp0→K I' μ hp0
theorem lL.yK {h h':Hand} {d:List V} {u u':List (Nat × an)} {K:(Nat→Prop)→(Nat→Option Nat)→(Nat→Option an)→Prop} (t:lL P w I β hp h u K) (e:Ext P w I β hp h h' d u'):lL P w I β hp h' (u++u') K:=by
 obtain ⟨m1,e1⟩:=e.pl
 exact fun I' μ hp0 i1 i2 ρ m da cQ=>t I' μ hp0 i1 (fun q hq=>i2 q (ee.2 (.inl hq))) ρ (m1++m) (by rw[da,e1,b7]) cQ
theorem lL.more {h:Hand} {u u':List (Nat × an)} {K:(Nat→Prop)→(Nat→Option Nat)→(Nat→Option an)→Prop} (t:lL P w I β hp h u K):lL P w I β hp h (u'++u) K:=
 fun I' μ hp0 i1 i2 ρ m da cQ=>t I' μ hp0 i1 (fun q hq=>i2 q (ee.2 (.inr hq))) ρ m da cQ
theorem CA (S:aE P w I β hp B M w0) {α:Type}: ∀{ls:List LS} {xs:List V} {h:Hand} {k:Hand→Rd α} {r:α} {rd:List Nat} {vs:List Value},(uN P ls xs h k).run C hp=some (r,rd)→vs.length=xs.length→
  (∀(j:Nat) v x,vs[j]? =some v→xs[j]? =some x→ao P w I β hp v x)→
  ∃h' ew d u,(k h').run C hp=some (r,ew)∧Ext P w I β hp h h' d u∧d.length=jB ls∧ls.length=xs.length∧
   lL P w I β hp h' u fun I' μ hp0=> ∀rest,(gI ls (d++rest)).length=xs.length∧∀(j:Nat) v y,vs[j]? =some v→(gI ls (d++rest))[j]? =some y→ao P w I' μ hp0 v y
 | [],[],h,k,r,rd,vs,hr,hl,hv=>⟨h,rd,[],[],hr,Ext.refl h,rfl,rfl,fun I' μ hp0 _ _ _ _ _ _ rest=>⟨rfl,fun j v y _ hy=>by simp[gI] at hy⟩⟩
 | [],_::_,h,k,r,rd,vs,hr,hl,hv=>by cases hr
 | _::_,[],h,k,r,rd,vs,hr,hl,hv=>by cases hr
 | l::ls,x::xs,h,k,r,rd,vs,hr,hl,hv=>by
  cases vs with
  | nil=>simp at hl
  | cons v vs=>
   simp only[uN] at hr
   obtain ⟨h1,iO,d1,u1,a1,a2,a3,a4⟩:=Mz S hr (hv 0 v x rfl rfl)
   obtain ⟨U,rA,d2,u2,b1,b2,b3,b5,b4⟩:=CA S a1 (by simpa using hl) (vs:=vs) (fun j v x hj hx=>hv (j+1) v x (by simpa using hj) (by simpa using hx))
   have WC:lL P w I β hp h1 u1 fun I' μ hp0=> ∀rest,ao P w I' μ hp0 v (hX l (d1++rest)):=a4
   refine ⟨U,rA,d1++d2,u1++u2,b1,a2.trans b2,by simp only[ca,jB];omega,by simp[b5],fun I' μ hp0 i1 i2 ρ m da cQ rest=> ?_⟩
   have k1:=(WC.yK b2) I' μ hp0 i1 i2 ρ m da cQ (d2++rest)
   obtain ⟨k2,k3⟩:=b4.more I' μ hp0 i1 i2 ρ m da cQ rest
   simp only[gI]
   rw[show (d1++d2++rest).drop l.size=d2++rest by rw[b7];exact mM a3,b7]
   refine ⟨by simp[k2],fun j v' y hj hy=> ?_⟩
   cases j with
   | zero=>simp at hj hy;subst hj;subst hy;exact k1
   | succ j=>exact k3 j v' y (by simpa using hj) (by simpa using hy)
theorem WD (S:aE P w I β hp B M w0) {α:Type} {s:VS} {x:V} {h:Hand} {k:Hand→Rd α} {r:α} {rd:List Nat} {v:Value} (hr:(xP P s x h k).run C hp=some (r,rd)) (hv:ao P w I β hp v x):
  ∃h' ew d u,(k h').run C hp=some (r,ew)∧Ext P w I β hp h h' d u∧d.length=s.size∧
   lL P w I β hp h' u fun I' μ hp0=> ∀rest,ao P w I' μ hp0 v (kg s (d++rest)):=by
 cases s with
 | one l=>
  simp only[xP] at hr
  obtain ⟨h1,iO,d1,u1,a1,a2,a3,a4⟩:=Mz S hr hv
  exact ⟨h1,iO,d1,u1,a1,a2,a3,a4⟩
 | agg ls=>
  cases x<;>simp only[xP] at hr<;>first|(cases hr;done)|skip
  rename_i xs
  obtain ⟨cs,rfl,e1,e2⟩:=hv.km
  obtain ⟨h1,iO,d1,u1,a1,a2,a3,a5,a4⟩:=CA S hr (vs:=cs.toList) (by simpa using e1) (fun j v x hj hx=>e2 j v x (by simpa using hj) hx)
  refine ⟨h1,iO,d1,u1,a1,a2,a3,fun I' μ hp0 i1 i2 ρ m da cQ rest=> ?_⟩
  obtain ⟨k1,k2⟩:=a4 I' μ hp0 i1 i2 ρ m da cQ rest
  exact .agg (by rw[k1];exact e1) fun j v y hj hy=>k2 j v y (by simpa using hj) hy
 | aW ls=>cases x<;>cases hr
 | pref ts ls=>cases x<;>cases hr
 | fn f a b=>
  cases x<;>simp only[xP] at hr<;>first|(cases hr;done)|skip
  rename_i f' xs ys
  obtain ⟨hc,te⟩:=aF hr
  clear hr
  rw[aP] at hc
  subst hc
  cases hv with
  | @fn _ fs cs _ _ q1 q2 q3 q4=>
   obtain ⟨h1,iO,d1,u1,a1,a2,a3,a5,a4⟩:=CA S te (vs:=fs.toList) (by simpa using q1) (fun j v x hj hx=>q2 j v x (by simpa using hj) hx)
   obtain ⟨U,rA,d2,u2,b1,b2,b3,b5,b4⟩:=CA S a1 (vs:=cs.toList) (by simpa using q3) (fun j v x hj hx=>q4 j v x (by simpa using hj) hx)
   refine ⟨U,rA,d1++d2,u1++u2,b1,a2.trans b2,by simp only[ca,VS.size];omega,fun I' μ hp0 i1 i2 ρ m da cQ rest=> ?_⟩
   obtain ⟨k1,k2⟩:=(a4.yK b2) I' μ hp0 i1 i2 ρ m da cQ (d2++rest)
   obtain ⟨k3,k4⟩:=b4.more I' μ hp0 i1 i2 ρ m da cQ rest
   simp only[kg]
   rw[show (d1++d2++rest).drop (jB a)=d2++rest by rw[b7];exact mM a3,b7]
   exact .fn (by rw[k1];exact q1) (fun j v y hj hy=>k2 j v y (by simpa using hj) hy) (by rw[k3];exact q3) (fun j v y hj hy=>k4 j v y (by simpa using hj) hy)
theorem G3 (S:aE P w I β hp B M w0) {α:Type}: ∀{ls:List VS} {xs:List V} {h:Hand} {k:Hand→Rd α} {r:α} {rd:List Nat} {vs:List Value},(xQ P ls xs h k).run C hp=some (r,rd)→vs.length=xs.length→
  (∀(j:Nat) v x,vs[j]? =some v→xs[j]? =some x→ao P w I β hp v x)→
  ∃h' ew d u,(k h').run C hp=some (r,ew)∧Ext P w I β hp h h' d u∧d.length=ra ls∧ls.length=xs.length∧
   lL P w I β hp h' u fun I' μ hp0=> ∀rest,(eW ls (d++rest)).length=xs.length∧∀(j:Nat) v y,vs[j]? =some v→(eW ls (d++rest))[j]? =some y→ao P w I' μ hp0 v y
 | [],[],h,k,r,rd,vs,hr,hl,hv=>⟨h,rd,[],[],hr,Ext.refl h,rfl,rfl,fun I' μ hp0 _ _ _ _ _ _ rest=>⟨rfl,fun j v y _ hy=>by simp[eW] at hy⟩⟩
 | [],_::_,h,k,r,rd,vs,hr,hl,hv=>by cases hr
 | _::_,[],h,k,r,rd,vs,hr,hl,hv=>by cases hr
 | l::ls,x::xs,h,k,r,rd,vs,hr,hl,hv=>by
  cases vs with
  | nil=>simp at hl
  | cons v vs=>
   simp only[xQ] at hr
   obtain ⟨h1,iO,d1,u1,a1,a2,a3,a4⟩:=WD S hr (hv 0 v x rfl rfl)
   obtain ⟨U,rA,d2,u2,b1,b2,b3,b5,b4⟩:=G3 S a1 (by simpa using hl) (vs:=vs) (fun j v x hj hx=>hv (j+1) v x (by simpa using hj) (by simpa using hx))
   refine ⟨U,rA,d1++d2,u1++u2,b1,a2.trans b2,by simp only[ca,ra];omega,by simp[b5],fun I' μ hp0 i1 i2 ρ m da cQ rest=> ?_⟩
   have k1:=(a4.yK b2) I' μ hp0 i1 i2 ρ m da cQ (d2++rest)
   obtain ⟨k2,k3⟩:=b4.more I' μ hp0 i1 i2 ρ m da cQ rest
   simp only[eW]
   rw[show (d1++d2++rest).drop l.size=d2++rest by rw[b7];exact mM a3,b7]
   refine ⟨by simp[k2],fun j v' y hj hy=> ?_⟩
   cases j with
   | zero=>simp at hj hy;subst hj;subst hy;exact k1
   | succ j=>exact k3 j v' y (by simpa using hj) (by simpa using hy)
def CB:List BS→Nat
 | []=>0
 | b::l=>b.size+CB l
theorem MA: ∀{b:Nat} {e e':TypeId} {es:List V} {v:V},(∀q b' e' m,At P w b e es q b' e' m→iK P w I b' e' m)→∀(path:Path),jz P e path=some e'→lu P e es path=some v→0<v.toList.length→
  ∃b1,At P w b e es path b1 e' v.toList
 | b,e,e',es,v,cq,[],ht,hv,hl=>by
  simp only[jz,dC] at ht
  simp only[lu,dC] at hv
  subst ht;subst hv
  exact ⟨b,.here⟩
 | b,e,e',es,v,cq,(i,c)::q,ht,hv,hl=>by
  simp only[jz] at ht
  simp only[lu] at hv
  obtain ⟨x,hx,hv⟩:=bind_some hv
  cases G4:(jz.xG P e)[c]? with
  | none=>rw[G4] at ht;cases ht
  | some t=>
   rw[G4] at ht
   simp only at ht
   have CD:(aQ P e)[c]? =some t:=G4
   cases hu:P.underlying t with
   | none=>rw[hu] at ht;cases ht
   | some d=>
    rw[hu] at ht
    cases d<;>simp only at ht<;>first|(cases ht;done)|skip
    rename_i e1
    rw[mD CD] at hv
    have hR:=cq _ _ _ _ .here
    obtain ⟨Ca,c1,c2,c3⟩:=hR.cells
    have sP:c<P.cellsOf e:=by rw[←eZ hR.ok];exact (bj.1 CD).1
    obtain ⟨u,d1,d2⟩:=c3 i c x t hx CD sP
    rw[d2.rp] at hv
    generalize hy:bC P e x c=y at d2 hv
    cases d2 with
    | fj a p=>unfold fg at a;rw[hu] at a;cases a
    | @emp e2 a cap lJ ha=>
     rw[hu] at lJ;cases lJ
     simp only at hv
     cases q with
     | nil=>simp only[lu,dC] at hv;subst hv;simp[V.toList] at hl
     | cons a q=>simp[lu] at hv
    | @row e2 bN b2 cap lJ jf aR bO nH=>
     rw[hu] at lJ;cases lJ
     simp only at hv
     have et: ∀{q b' e' aJ},At P w b2 e1 bN q b' e' aJ→At P w b e es ((i,c)::q) b' e' aJ:=fun h=> .step c1 hx CD hu hy jf d1 h
     obtain ⟨b1,kY⟩:=MA (fun q b' e' m h=>cq _ _ _ _ (et h)) q ht hv hl
     exact ⟨b1,et kY⟩
theorem MB (S:aE P w I β hp B M w0) {α:Type}: ∀{bs:List BS} {j:Nat} {h:Hand} {k:Hand→Rd α} {r:α} {rd:List Nat},(pF P bs j h k).run C hp=some (r,rd)→
  ∃h' ew d u,(k h').run C hp=some (r,ew)∧Ext P w I β hp h h' d u∧d.length=CB bs∧
   ∀rest,(eg bs (d++rest)).length=bs.length∧∃o:Nat→Option Nat,
    (∀(i:Nat) blk,(eg bs (d++rest))[i]? =some blk→∃p,dM h'.pl (j+i)=some p∧dG P w β hp p (o i) blk)∧
    lL P w I β hp h' u fun I' μ hp0=> ∀(i:Nat) blk,(eg bs (d++rest))[i]? =some blk→(∀b,bn P w (o i) blk b→¬I' b)→dD P w I' μ hp0 (o i) blk
 | [],j,h,k,r,rd,hr=>⟨h,rd,[],[],hr,Ext.refl h,rfl,fun rest=>⟨rfl,fun _=>none,fun i blk hb=>by simp[eg] at hb,fun I' μ hp0 _ _ _ _ _ _ i blk hb=>by simp[eg] at hb⟩⟩
 | b::bs,j,h,k,r,rd,hr=>by
  simp only[pF] at hr
  have fin: ∀{h1:Hand} {iO:List Nat} {d1:List V} {u1:List (Nat × an)} {o1:Option Nat} {p:Place},(pF P bs (j+1) h1 k).run C hp=some (r,iO)→Ext P w I β hp h h1 d1 u1→d1.length=b.size→dM h.pl j=some p→
    (∀rest,dG P w β hp p o1 (fh b (d1++rest)))→(∀rest,lL P w I β hp h1 u1 fun I' μ hp0=>(∀bb,bn P w o1 (fh b (d1++rest)) bb→¬I' bb)→dD P w I' μ hp0 o1 (fh b (d1++rest)))→
    ∃h' ew d u,(k h').run C hp=some (r,ew)∧Ext P w I β hp h h' d u∧d.length=CB (b::bs)∧
     ∀rest,(eg (b::bs) (d++rest)).length=(b::bs).length∧∃o:Nat→Option Nat,
      (∀(i:Nat) blk,(eg (b::bs) (d++rest))[i]? =some blk→∃p,dM h'.pl (j+i)=some p∧dG P w β hp p (o i) blk)∧
      lL P w I β hp h' u fun I' μ hp0=> ∀(i:Nat) blk,(eg (b::bs) (d++rest))[i]? =some blk→(∀b,bn P w (o i) blk b→¬I' b)→dD P w I' μ hp0 (o i) blk:=by
   intro h1 iO d1 u1 o1 p hk he hd bh hl ht
   obtain ⟨U,rA,d2,u2,b1,b2,b3,b4⟩:=MB S hk
   refine ⟨U,rA,d1++d2,u1++u2,b1,he.trans b2,by simp only[ca,CB];omega,fun rest=> ?_⟩
   obtain ⟨c1,o,c2,c3⟩:=b4 rest
   simp only[eg]
   rw[show (d1++d2++rest).drop b.size=d2++rest by rw[b7];exact mM hd,b7]
   refine ⟨by simp[c1],fun i=>match i with|0=>o1|i+1=>o i,fun i blk hb=> ?_,fun I' μ hp0 i1 i2 ρ m da cQ i blk hb cD=> ?_⟩
   ·cases i with
    | zero=>
     simp at hb
     subst hb
     exact ⟨p,b2.look (he.look bh),hl _⟩
    | succ i=>
     obtain ⟨q,e1,e2⟩:=c2 i blk (by simpa using hb)
     exact ⟨q,by rw[show j+(i+1)=j+1+i by omega];exact e1,e2⟩
   ·cases i with
    | zero=>
     simp at hb
     subst hb
     exact ((ht _).yK b2) I' μ hp0 i1 i2 ρ m da cQ cD
    | succ i=>exact c3.more I' μ hp0 i1 i2 ρ m da cQ i blk (by simpa using hb) cD
  cases bh:dM h.pl j with
  | none=>rw[bh] at hr;cases hr
  | some p=>
   rw[bh] at hr
   cases p with
   | blk id=>
    obtain ⟨l1,hr⟩:=run_get hr
    cases ab:hp id with
    | none=>rw[ab] at hr;cases hr
    | some blk=>
     rw[ab] at hr
     cases blk with
     | dead=>cases hr
     | var T0 cs=>
      cases b<;>simp only at hr<;>first|(cases hr;done)|skip
      rename_i T1 ss
      obtain ⟨hT,WE⟩:=aF hr
      clear hr
      rw[aP] at hT
      subst hT
      have cp:=S.h.rel id _ ab
      generalize ho:β id=o at cp
      cases cp with
      | @var _ bb Ca T hb hh hs hI hx fG=>
       obtain ⟨h1,iO,d1,u1,a1,a2,a3,a5,a4⟩:=G3 S WE (vs:=Ca.toList) (by simpa using hs) (fun j v x hj cf=>hx j v x (by simpa using hj) cf)
       refine fin (o1:=β id) a1 a2 a3 bh (fun rest=> .var ab) fun rest I' μ hp0 i1 i2 ρ m da cQ cD=> ?_
       obtain ⟨k1,k2⟩:=a4 I' μ hp0 i1 i2 ρ m da cQ rest
       exact .var (ho.trans hb) hh (by rw[k1];exact hs) (cD _ (.root (by simp[fh]) (ho.trans hb))) (fun i v y hi hy=>k2 i v y (by simpa using hi) hy) fG
     | arr e' es fz=>
      cases fz with
      | true=>cases hr
      | false=>
       cases b with
       | arr e fz=>
        cases fz with
        | true=>cases hr
        | false=>
         obtain ⟨hc,te⟩:=aF hr
         clear hr
         rw[aP] at hc
         subst hc
         refine fin (d1:=[.list e es]) (o1:=β id) te (Ext.leaf h _) rfl bh (fun rest=>dG.arr ab) fun rest I' μ hp0 i1 i2 ρ m da cQ cD=> ?_
         change dD P w I' μ hp0 (β id) (.arr e es false)
         have cp:=S.h.rel id _ ab
         generalize ho:β id=o at cp cD⊢
         cases cp with
         | dr hb=>exact .dr hb
         | arr a1 a2 a3 a4 a5 a6 a7=>
          refine .arr a1 a2 a3 a4 (fun h=>by cases h) (fun _=>cD _ (.root (by simp[fh]) a2)) fun i j x t' y1 y2 y3=> ?_
          obtain ⟨v,z1,z2⟩:=a7 i j x t' y1 y2 y3
          exact ⟨v,z1,z2.mono i1 fun _ _=>rfl⟩
       | _=>cases hr
     | nest e' es aq=>
      cases b with
      | nest e=>
       obtain ⟨hc,te⟩:=aF hr
       clear hr
       rw[aP] at hc
       subst hc
       refine fin (d1:=[.list e es]) (o1:=β id) te (Ext.leaf h _) rfl bh (fun rest=>dG.nest ab) fun rest I' μ hp0 i1 i2 ρ m da cQ cD=> ?_
       have MC: ∀bb,bn P w (β id) (.nest e es [0,0,0]) bb→¬I' bb:=cD
       change dD P w I' μ hp0 (β id) (.nest e es [0,0,0])
       have cp:=S.h.rel id _ ab
       generalize ho:β id=o at cp MC⊢
       cases cp with
       | nest hb cq nL=>
        refine .nest hb (fun q b' e1 m1 hq=> ?_) nL
        obtain ⟨ok,⟨Ca,c1,c2,c3⟩,nI⟩:=cq q b' e1 m1 hq
        refine ⟨ok,⟨Ca,c1,c2,fun i j x t' y1 y2 y3=> ?_⟩,MC _ (.row hb hq)⟩
        obtain ⟨v,z1,z2⟩:=c3 i j x t' y1 y2 y3
        exact ⟨v,z1,z2.mono i1 (fun _ _=>rfl) fun _ _ _ _ _=>rfl⟩
      | _=>cases hr
     | map t' es=>
      cases b with
      | map t=>
       obtain ⟨hc,te⟩:=aF hr
       clear hr
       rw[aP] at hc
       subst hc
       refine fin (d1:=[.list t es]) (o1:=β id) te (Ext.leaf h _) rfl bh (fun rest=>dG.map ab) fun rest I' μ hp0 i1 i2 ρ m da cQ cD=> ?_
       change dD P w I' μ hp0 (β id) (.map t es)
       have cp:=S.h.rel id _ ab
       generalize ho:β id=o at cp cD⊢
       cases cp with
       | map a1 a2 a3 a4 a5 a6 a7=>exact .map a1 a2 a3 a4 (cD _ (.root (by simp[fh]) a2)) a6 a7
      | _=>cases hr
   | row id ver path=>
    obtain ⟨e0,es,aq,l1,k1,k2,k3,k4,k5⟩:=nG hr
    obtain ⟨e',vv,m1,m2,m3⟩:=uW k5
    cases b with
    | arr e fz=>
     cases fz with
     | true=>cases m3
     | false=>
      obtain ⟨hc,m4⟩:=aF m3
      clear m3
      simp only[aI,aP,jv] at hc
      obtain ⟨rfl,yL,jf⟩:=hc
      have cp:=S.h.rel id _ k1
      cases hb:β id with
      | none=>
       rw[hb] at cp
       cases cp with
       | nest ay _ _=>cases ay
      | some b0=>
       rw[hb] at cp
       cases cp with
       | nest ay cq nL=>
        cases ay
        obtain ⟨b1,cZ⟩:=MA cq path m1 m2 jf
        refine fin (d1:=[.list e vv.toList]) (o1:=some b1) m4 (Ext.leaf h _) rfl bh (fun rest=>dG.row k1 hb cZ yL k2 k3 k4 jf) fun rest I' μ hp0 i1 i2 ρ m da cQ cD=> ?_
        change dD P w I' μ hp0 (some b1) (.arr e vv.toList false)
        obtain ⟨ok,⟨Ca,c1,c2,c3⟩,nI⟩:=cq _ _ _ _ cZ
        refine .arr ok rfl c1 c2 (fun h=>by cases h) (fun _=>cD _ (.root (by simp[fh]) rfl)) fun i j x t' y1 y2 y3=> ?_
        obtain ⟨v,z1,z2⟩:=c3 i j x t' y1 y2 y3
        refine ⟨v,z1,?_⟩
        generalize bC P e x j=y at z2⊢
        cases z2 with
        | fj _ p=>exact p.mono i1 fun _ _=>rfl
        | emp hu _=>exact absurd hu (MD yL y2 _)
        | row hu _ _ _ _=>exact absurd hu (MD yL y2 _)
    | _=>cases m3
where
 MD {e t:TypeId} {j:Nat} (h:xL P e=true) (ht:(aQ P e)[j]? =some t) (e':TypeId):P.underlying t≠some (.slice e'):=by
  intro hu
  have U:=eS.1 h t (iZ ht)
  rw[hu] at U
  cases U
end
end Go.AM
