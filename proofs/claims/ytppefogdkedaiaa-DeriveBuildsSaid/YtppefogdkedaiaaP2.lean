/-
  Functions of the program, lifted to plain data.
-/
import Derived.Great.BuildSlice
import Derived.Maps.Keyed
import Derived.WideKeyArr
import Derived.MapKept
import Derived.ChangeMaps4
import Derived.Carry
import Derived.Lib.AppendStr
import Derived.Laws.BytesString
import Derived.Lib.Builder
import Derived.Lib.UnsafeStr
import Derived.Test.YtppefogdkedaiaaP1
set_option linter.unusedVariables false
set_option linter.unusedSimpArgs false
namespace Go.AM
section
variable {P:Program} {w w':World} {I I':Nat→Prop} {β β':Nat→Option Nat} {hp hp':Nat→Option an} {C:ag} {B:Nat} {M:Nat→Prop} {w0:Start}
theorem YD (S:aF P w I β hp B M w0) {t:TypeId} {a v:Value} {xa x:V} {r:R} {rd:List Nat} (ha:ao P w I β hp a xa) (hv:ao P w I β hp v x)
  (h:(HV P t xa x).run C hp=some (r,rd)):pL P ((Instr.storeAt t a v).run P w) w I β hp B M w0 r:=by
 unfold HV at h
 obtain ⟨h0,h⟩:=aG h
 simp only[aM,aU] at h0
 obtain ⟨ht,hn⟩:=h0
 cases xa with
 | ptr id i c=>
  obtain ⟨l,h⟩:=run_get h
  cases ab:hp id with
  | none=>rw[ab] at h;cases h
  | some blk=>
   rw[ab] at h
   cases blk with
   | dead=>cases h
   | var T0 cs=>
    obtain ⟨OL,h⟩:=aG h
    have mJ:pC P T0=true→0<c:=fun bQ=>by
     rw[bQ] at OL
     simpa using OL
    obtain ⟨b,hb,rfl⟩:=ha.hU ab (by simp)
    simp only[an.sz,Nat.mul_zero,gY]
    cases pK:(zq P t cs&&eY P t x) with
    | true=>
     dsimp only at h
     rw[pK] at h
     simp only[cond_true] at h
     obtain ⟨hc,h⟩:=aG h
     obtain rfl:=aO h
     simp only[aM,ku] at hc pK
     obtain ⟨o1,o2⟩:=OD hv pK.2
     have lV:=Yj pK.2
     refine OB S ab hb ht hn (by rw[o2,lV];rfl) mJ (fun j u y hu hy=> ?_) (by rw[o2];simp[o1]) (by rw[lV];simp;omega) (OA _ _ _ _) (fun j y hy hj u hu=> ?_) (fun j y hy hj u hu=> ?_)
     ·rw[o2] at hu
      rw[lV] at hy
      cases j with
      | zero=>simp at hu hy;subst hu;subst hy;exact hv
      | succ j=>simp at hy
     ·rw[IC] at hy
      cases wG:cs[j]? with
      | none=>rw[wG] at hy;cases hy
      | some y0=>
       rw[wG] at hy
       simp only[Option.map_some,dY] at hy
       rw[lV] at hj
       simp only[List.length_singleton] at hj
       have bD:Nat.beq c (0+j)=false:=by
        cases hq:Nat.beq c (0+j) with
        | false=>rfl
        | true=>rw[aU] at hq;omega
       rw[bD] at hy
       have:=Om (c:=false) hv (hu y0 wG)
       rw[←hy]
       simpa using this
     ·rw[lV] at hj hu
      have YE:j=0:=by simpa using hj
      subst YE
      rw[IC] at hy
      cases wG:cs[c+0]? with
      | none=>rw[wG] at hy;cases hy
      | some y0=>
       rw[wG] at hy
       simp only[Option.map_some,dY] at hy
       have heq:Nat.beq c (0+(c+0))=true:=by rw[aU];omega
       rw[heq] at hy
       have U:ao P w I β hp u x:=hu x rfl
       have:sf true x y0=x:=Yk x y0
       rw[←hy,this]
       exact U
    | false=>
     dsimp only at h
     rw[pK] at h
     simp only[cond_false] at h
     obtain ⟨hc,h⟩:=aG h
     simp only[aM,cV] at hc
     obtain ⟨e1,e2⟩:=IA hv h
     obtain ⟨h1,l2,h⟩:=D6 h (vs:=v.cells.toList) (by simpa using e1) (fun j u y a b=>e2 j u y (by simpa using a) b)
     obtain rfl:=aO h
     refine OB S ab hb ht hn e1 mJ e2 h1 hc.2 (zZ _ _ _ hc.2) (fun j y hy hj u hu=> ?_) (fun j y hy hj u hu=> ?_)
     ·unfold fS at hy
      rw[nH _ _ _ _ hc.2] at hy
      rcases hj with hj|hj
      ·rw[aj hj] at hy;exact hu y hy
      ·rw[ai (by omega),ai (by omega)] at hy;exact hu y hy
     ·unfold fS at hy
      rw[nH _ _ _ _ hc.2,ai (by omega),aj (by omega)] at hy
      rw[show c+j-c=j by omega] at hy
      exact hu y hy
   | arr e es fz=>
    cases fz with
    | true=>cases h
    | false=>
    obtain ⟨b,hb,rfl⟩:=ha.hU ab (by simp)
    obtain ⟨au,h⟩:=aG h
    obtain ⟨⟨ys,fr⟩,l1,l2,bq,h⟩:=lk h
    obtain ⟨hc,h⟩:=aG h
    obtain ⟨x0,qV,h⟩:=lT h
    obtain rfl:=aO h
    simp only[aM,nn,cV] at hc
    obtain ⟨dK,YF,jc⟩:=hc
    have pO:v.cells.size=x.cells.length∧∀(j:Nat) u y,v.cells.toList[j]? =some u→x.cells[j]? =some y→ao P w I β hp u y:=by
     cases x with
     | agg xs=>
      obtain ⟨cs,rfl,h1,U⟩:=hv.ll
      exact ⟨h1,fun j u y a b=>U j u y (by simpa[Value.cells] using a) b⟩
     | _=>
      simp only[V.cells] at bq jc⊢
      simp only[se] at bq
      obtain ⟨⟨y1,u1⟩,l3,l4,hq,bq⟩:=lk bq
      obtain ⟨q1,q2⟩:=DU S.h.rel hq hv
      obtain ⟨⟨y2,u2⟩,l5,l6,Ab,bq⟩:=lk bq
      cases Ab
      have:=aO bq
      cases this
      obtain ⟨tl,tg⟩:=ud jc
      have fJ:=tg 0 _ y1 (bC (by rw[tl];exact Nat.one_pos)) rfl
      have bU:=q2 (je P w I β hp u1) (fun _ h=> .inl h) (fun p hp b h=> .inr ⟨p,hp,h⟩)
      have ho:=bU.pure fJ
      have IQ:v.cells= #[v]:=by cases ho<;>rfl
      rw[IQ]
      refine ⟨rfl,fun j u y hu hy=> ?_⟩
      cases j with
      | zero=>simp at hu hy;subst hu;subst hy;exact hv
      | succ j=>simp at hy
    obtain ⟨k1,k2,k3⟩:=It S.h.rel bq (vs:=v.cells.toList) (by simpa using pO.1) pO.2
    obtain ⟨qT,S1⟩:=zT S k2
    have Aa:bM hp fr id=some (.arr e es false):=by
     rcases tX (hp:=hp) (l:=fr) (id:=id) with h|⟨b',hm,_⟩
     ·exact h.trans ab
     ·exfalso
      have YG:kz (fr.map (·.1)) id=true:=wA (gH.2 ⟨_,hm,rfl⟩)
      rw[YG] at dK;cases dK
    have OM:=k3 (je P w I β hp fr) (fun _ h=> .inl h) (fun p hp b h=> .inr ⟨p,hp,h⟩)
    obtain ⟨tl,tg⟩:=ud jc
    have wm:=(kH au).1
    have ug:ys.length=v.cells.size:=by rw[k1,pO.1]
    have hcn:c+v.cells.size≤P.cellsOf e:=by rw[pO.1];exact YF
    have hr:=S1.h.rel id _ Aa
    cases hr with
    | dJ aB=>simp at qV
    | @arr _ _ _ b' Ca Iz aB hh hs hf en hx=>
     rw[hb] at aB
     cases aB
     have lW:i<es.length:=(bz.1 qV).1
     have hbound:i*P.cellsOf e+P.cellsOf e≤Ca.size:=by
      have:(i+1)*P.cellsOf e≤es.length*P.cellsOf e:=dF _ lW
      rw[dw] at this
      omega
     simp only[an.sz]
     have sD:i*P.cellsOf e+c+v.cells.size≤Ca.size:=by omega
     have cQ: ¬je P w I β hp fr b:=en rfl
     have h1: ∀u∈v.cells.toList,u.oneCell'=true:=by
      intro u hu
      obtain ⟨j,hj⟩:=rZ hu
      have cl:j<ys.length:=by rw[ug];simpa using (bz.1 hj).1
      have oP:j<(((flat P e).drop c).take x.cells.length).length:=by rw[tl];exact cl
      exact (OM j u ys[j] hj (bC cl)).one (tg j _ ys[j] (bC oP) (bC cl))
     have cX:=IB (t:=t) (o:=i*P.cellsOf e+c) (v:=v) ht (by rw[pO.1];exact hn.symm) hh sD h1
     have hlen:(Ca.toList.take (i*P.cellsOf e+c)++(v.cells.toList++Ca.toList.drop (i*P.cellsOf e+c+v.cells.toList.length))).length=Ca.size:=by
      rw[zZ _ _ _ (by simpa using sD)];simp
     have bU:(parts P e x0).length=P.cellsOf e:=by rw[wu];exact fI au
     have z0:=D7 S1 (blk':= .arr e (es.set i (cB P e (fS (parts P e x0) c ys))) false)
      (Cb:=(Ca.toList.take (i*P.cellsOf e+c)++(v.cells.toList++Ca.toList.drop (i*P.cellsOf e+c+v.cells.toList.length))).toArray) Aa (by simp) ⟨rfl,by simp⟩ hb cQ (by simp) hh (by simpa using hlen)
      (fun hle e6=> .arr au rfl e6 (by simp only[qp,oz];omega) (fun h=>by cases h) (fun _=>cQ) fun i' j z t' hz oP hj=>by
       simp only[np]
       rw[nH _ _ _ _ (by simpa using sD)]
       simp only[Array.length_toList]
       rw[List.getElem?_set] at hz
       by_cases ji:i=i'
       ·subst ji
        rw[aj rfl,aj lW] at hz
        cases hz
        have Eg:j<(parts P e x0).length:=by omega
        have uh:(fS (parts P e x0) c ys)[j]? =if j<c then (parts P e x0)[j]? else if j<c+ys.length then ys[j-c]? else (parts P e x0)[j]? :=by
         unfold fS;exact nH _ _ _ _ (by omega)
        by_cases qP:j<c
        ·rw[aj (by omega)]
         rw[aj qP] at uh
         obtain ⟨u,t2,a1,a2,a3⟩:=D3 hx au qV (bC Eg)
         rw[oP] at a1;cases a1
         refine ⟨u,by simpa using a2,?_⟩
         rw[qQ (uh.trans (bC Eg)) oP]
         exact a3.mono hle.dm hle.cj
        ·rw[ai qP] at uh
         by_cases gu:j<c+ys.length
         ·rw[aj gu] at uh
          rw[ai (by omega),aj (by omega)]
          have pP:j-c<ys.length:=by omega
          have ON:j-c<v.cells.toList.length:=by simp;omega
          have akp:j-c<v.cells.size:=by omega
          refine ⟨v.cells.toList[j-c],?_,?_⟩
          ·rw[show i*P.cellsOf e+j-(i*P.cellsOf e+c)=j-c by omega]
           exact bC ON
          ·rw[qQ (uh.trans (bC pP)) oP]
           have YH:(((flat P e).drop c).take x.cells.length)[j-c]? =some t':=by
            rw[fc (by omega),iy,show c+(j-c)=j by omega,←sA]
            exact oP
           exact ((OM (j-c) _ ys[j-c] (bC ON) (bC pP)).pure (tg (j-c) t' ys[j-c] YH (bC pP))).mono hle.dm hle.cj
         ·rw[ai gu] at uh
          rw[ai (by omega),ai (by omega)]
          obtain ⟨u,t2,a1,a2,a3⟩:=D3 hx au qV (bC Eg)
          rw[oP] at a1;cases a1
          refine ⟨u,by simpa using a2,?_⟩
          rw[qQ (uh.trans (bC Eg)) oP]
          exact a3.mono hle.dm hle.cj
       ·rw[ai ji] at hz
        obtain ⟨u,a2,a3⟩:=hx i' j z t' hz oP hj
        have bD:i'*P.cellsOf e+j<i*P.cellsOf e+c∨i*P.cellsOf e+c+v.cells.size≤i'*P.cellsOf e+j:=by
         rcases pt i' i with aN|pQ
         ·left
          have:(i'+1)*P.cellsOf e≤i*P.cellsOf e:=dF _ aN
          rw[dw] at this
          omega
         ·right
          have:(i+1)*P.cellsOf e≤i'*P.cellsOf e:=dF _ (by omega)
          rw[dw] at this
          omega
        refine ⟨u,?_,a3.mono hle.dm hle.cj⟩
        rcases bD with bD|bD
        ·rw[aj bD];simpa using a2
        ·rw[ai (by omega),ai (by omega)];simpa using a2)
     exact ⟨_,_,_,cX,qT.trans z0.1,z0.2,rfl⟩
   | map _ _=>cases h
   | nest e es ar=>
    obtain ⟨b,hb,rfl⟩:=ha.hU ab (by simp)
    exact OK S ht hn hv ab hb .here h
 | cI id ver path i c=>
  obtain ⟨e0,es,ar,l,ab,h1,U,h3,h⟩:=oK h
  obtain ⟨b,b1,e1,l1,hb,dp,rfl⟩:=ha.Oi ab h1 U h3
  exact OK S ht hn hv ab hb dp h
 | _=>cases h
end
section
variable {P:Program} {w w':World} {I I':Nat→Prop} {β β':Nat→Option Nat} {hp hp':Nat→Option an} {C:ag} {B:Nat} {M:Nat→Prop} {w0:Start}
theorem IS: ∀{ts:List TypeId} {vs:List Value} {j:Nat} {y:V},(jz P ts vs)[j]? =some y→∃t v,ts[j]? =some t∧vs[j]? =some v∧y=pB P t v
 | [],vs,j,y,h=>by simp[jz] at h
 | _::_,[],j,y,h=>by simp[jz] at h
 | t::ts,v::vs,0,y,h=>by simp[jz] at h;exact ⟨t,v,rfl,rfl,h.symm⟩
 | t::ts,v::vs,j+1,y,h=>by
  simp only[jz,List.getElem?_cons_succ] at h
  obtain ⟨t',v',a,b,c⟩:=IS h
  exact ⟨t',v',by simpa using a,by simpa using b,c⟩
theorem OO: ∀{ts:List TypeId} {vs:List Value},ts.length=vs.length→(jz P ts vs).length=vs.length
 | [],[],_=>rfl
 | [],_::_,h=>by simp at h
 | _::_,[],h=>by simp at h
 | t::ts,v::vs,h=>by simp[jz,OO (ts:=ts) (vs:=vs) (by simpa using h)]
theorem kL {e:TypeId} (h:cS P e=true): ∃i z,P.info? e=some i∧i.zero=some z∧i.size=P.cellsOf e∧z.cells.size=P.cellsOf e∧zeroCells P e=jz P (flat P e) z.cells.toList:=by
 unfold cS at h
 simp only[aM,aU,ku] at h
 obtain ⟨h1,U,_,h3⟩:=h
 cases hi:P.info? e with
 | none=>rw[hi] at h3;cases h3
 | some i=>
  rw[hi] at h3
  simp only[Option.bind_some] at h3
  cases hz:i.zero with
  | none=>rw[hz] at h3;cases h3
  | some z=>
   rw[hz] at h3
   simp only[aU] at h3
   exact ⟨i,z,rfl,hz,by simp[Program.cellsOf,hi],h3,by simp[zeroCells,hi,hz]⟩
theorem OP {e:TypeId} (h:cS P e=true): ∃i z,P.info? e=some i∧i.zero=some z∧z.cells.size=(zeroCells P e).length∧z.cells.size=P.cellsOf e∧
  ∀(j:Nat) v x,z.cells[j]? =some v→(zeroCells P e)[j]? =some x→ao P w I β hp v x:=by
 obtain ⟨i,z,h1,U,h3,h4,h5⟩:=kL h
 have hl:(flat P e).length=z.cells.toList.length:=by rw[(kH h).1];simpa using h4.symm
 refine ⟨i,z,h1,U,?_,h4,fun j v x hv hx=> ?_⟩
 ·rw[h5,OO hl];simp
 ·rw[h5] at hx
  obtain ⟨t,v',_,wv,rfl⟩:=IS hx
  have:v'=v:=by
   have e1:z.cells[j]? =some v':=by simpa using wv
   rw[hv] at e1;exact (dh e1).symm
  subst this
  exact ao.const t v'
theorem nJ {nb:Nat} {b:an} {v:V} {upd:List (Nat × an)} {r:R} {rd:List Nat} (h:(jA nb b v upd).run C hp=some (r,rd)):hp nb=none∧r=⟨v,(nb,b)::upd⟩:=by
 obtain ⟨l,h⟩:=run_get h
 cases hn:hp nb with
 | none=>rw[hn] at h;exact ⟨rfl,(aO h).symm⟩
 | some x=>rw[hn] at h;cases h
theorem OQ (S:aF P w I β hp B M w0) {nb:Nat} {xs:List V} {C0:Array Value} {T:TypeId} (hn:hp nb=none) (hs:C0.size=xs.length)
  (hx: ∀(j:Nat) v x,C0[j]? =some v→xs[j]? =some x→ao P w I β hp v x) (gq:Od P w.heap.size T C0):
  Le P w I β hp (w.alloc (.cells C0 T)) I (aI β nb (some w.heap.size)) (aI hp nb (some (.var T xs)))∧aF P (w.alloc (.cells C0 T)) I (aI β nb (some w.heap.size)) (aI hp nb (some (.var T xs))) B M w0∧
  ao P (w.alloc (.cells C0 T)) I (aI β nb (some w.heap.size)) (aI hp nb (some (.var T xs))) (.pointer (some ⟨w.heap.size,0,none⟩)) (.ptr nb 0 0):=by
 obtain ⟨h1,U⟩:=Iv S (blk:= .var T xs) (c:=C0) (T:=T) hn (fun b' h=>(dh (h.flat (by simp))).symm) (fun hle e6 cQ=> .var rfl e6 hs cQ (fun j v x a b=>(hx j v x a b).mono hle) gq)
 refine ⟨h1,U,?_⟩
 have:=ao.ptr (P:=P) (w:=w.alloc (.cells C0 T)) (I:=I) (β:=aI β nb (some w.heap.size)) (hp:=aI hp nb (some (.var T xs))) (i:=0) (c:=0) (blk:= .var T xs) (cW _ _ _) (by simp) (cW _ _ _)
 simpa using this
theorem YI (S:aF P w I β hp B M w0) {e:TypeId} {nb:Nat} {r:R} {rd:List Nat}
  (h:(Rd.aC (cS P e&&(!(pC P e)||N8 (zeroCells P e))) (jA nb (.var e (zeroCells P e)) (.ptr nb 0 0) [])).run C hp=some (r,rd)):c6 P ((Instr.alloc e true (.tuple #[])).run P w) w I β hp B M w0 r:=by
 obtain ⟨au,h⟩:=aG h
 rw[aM] at au
 obtain ⟨au,mJ⟩:=au
 obtain ⟨hn,rfl⟩:=nJ h
 obtain ⟨i,z,h1,U,h3,h4,h5⟩:=OP (w:=w) (I:=I) (β:=β) (hp:=hp) au
 obtain ⟨a,b,c⟩:=OQ S (T:=e) hn h3 h5 fun bQ=>by
  rw[bQ,qq,Bool.false_or] at mJ
  cases hz:zeroCells P e with
  | nil=>rw[hz] at mJ;cases mJ
  | cons y l=>
   rw[hz] at mJ h3 h5
   cases y<;>first|(cases mJ;done)|skip
   have aN:0<z.cells.size:=by rw[h3];simp
   have:=h5 0 z.cells[0] .dy (k9 aN) rfl
   left
   rw[k9 aN]
   generalize z.cells[0]=u at this
   cases this;rfl
 exact ⟨_,_,_,_,by simp[Instr.alloc,zeroValue,typeInfo,h1,U,newVar,newRow],a,b,c⟩
theorem YJ (S:aF P w I β hp B M w0) {e:TypeId} {nb:Nat} {x:V} {v:Value} {r:R} {rd:List Nat} (hv:ao P w I β hp v x)
  (h:(Rd.aC (!(pC P e)) <| lO x.cells (jA nb (.var e x.cells) (.ptr nb 0 0) [])).run C hp=some (r,rd)):c6 P ((Instr.box e v).run P w) w I β hp B M w0 r:=by
 obtain ⟨mJ,h⟩:=aG h
 obtain ⟨e1,e2⟩:=IA hv h
 obtain ⟨_,l,h⟩:=D6 h (vs:=v.cells.toList) (by simpa using e1) (fun j u y a b=>e2 j u y (by simpa using a) b)
 obtain ⟨hn,rfl⟩:=nJ h
 obtain ⟨a,b,c⟩:=OQ S (T:=e) hn e1 e2 fun bQ=>by rw[bQ] at mJ;cases mJ
 exact ⟨_,_,_,_,by simp[Instr.box,newVar,newRow],a,b,c⟩
theorem foldl_set (off:Nat): ∀(vs:List Value) (k:Nat) (cs:Array Value) (i:Nat),off+k+vs.length≤cs.size→
  ((vs.zipIdx k).foldl (fun cs p=>cs.setIfInBounds (off+p.2) p.1) cs)[i]? =if i<off+k then cs[i]? else if i<off+k+vs.length then vs[i-(off+k)]? else cs[i]?
 | [],k,cs,i,h=>by simp;intro h1 U;omega
 | v::vs,k,cs,i,h=>by
  simp only[List.zipIdx_cons,List.foldl_cons]
  simp only[List.length_cons] at h⊢
  rw[foldl_set off vs (k+1) _ i (by simp;omega)]
  by_cases h1:i<off+k
  ·rw[aj (by omega),aj h1]
   rw[Dc (by omega)]
  ·rw[ai h1]
   by_cases U:i=off+k
   ·subst U
    rw[aj (by omega),aj (by omega)]
    rw[HS (by omega)]
    simp
   ·rw[ai (by omega)]
    by_cases h3:i<off+k+(vs.length+1)
    ·rw[aj (by omega),aj h3,show i-(off+k)=(i-(off+(k+1)))+1 by omega]
     simp
    ·rw[ai (by omega),ai h3,Dc (by omega)]
theorem OR (off:Nat): ∀(vs:List Value) (k:Nat) (cs:Array Value),((vs.zipIdx k).foldl (fun cs p=>cs.setIfInBounds (off+p.2) p.1) cs).size=cs.size
 | [],k,cs=>rfl
 | v::vs,k,cs=>by
  simp only[List.zipIdx_cons,List.foldl_cons]
  rw[OR off vs (k+1)]
  simp
theorem OS {cells:Array Value} {off:Nat} {v:Value} (h:off+v.cells.size≤cells.size) (i:Nat):
  (v.cells.zipIdx.foldl (fun cs (p:Value × Nat)=>cs.setIfInBounds (off+p.2) p.1) cells)[i]? =if i<off then cells[i]? else if i<off+v.cells.size then v.cells[i-off]? else cells[i]? :=by
 have:=foldl_set off v.cells.toList 0 cells i (by simpa using h)
 rw[←Dd]
 simpa[Array.toList_zipIdx] using this
theorem OT {cells:Array Value} {off:Nat} {v:Value}:(v.cells.zipIdx.foldl (fun cs (p:Value × Nat)=>cs.setIfInBounds (off+p.2) p.1) cells).size=cells.size:=by
 have:=OR off v.cells.toList 0 cells
 rw[←Dd]
 simpa[Array.toList_zipIdx] using this
inductive wH (P:Program) (w:World) (I:Nat→Prop) (β:Nat→Option Nat) (hp:Nat→Option an):List (Nat × Value)→List (Nat × V)→Prop
 | nil:wH P w I β hp [] []
 | cons {i:Nat} {v:Value} {x:V} {vs:List (Nat × Value)} {xs:List (Nat × V)}:v.cells.size=x.cells.length→(∀(j:Nat) u y,v.cells[j]? =some u→x.cells[j]? =some y→ao P w I β hp u y)→
   wH P w I β hp vs xs→wH P w I β hp ((i,v)::vs) ((i,x)::xs)
theorem OU (place:Nat→Option (Nat × Nat)): ∀{vs:List (Nat × Value)} {px:List (Nat × V)} {cells:Array Value} {xs ys:List V},wH P w I β hp vs px→cells.size=xs.length→
  (∀(j:Nat) v x,cells[j]? =some v→xs[j]? =some x→ao P w I β hp v x)→tK place xs px=some ys→
  ∃pR:Array Value,Instr.fill place cells vs=some pR∧pR.size=ys.length∧∀(j:Nat) v x,pR[j]? =some v→ys[j]? =some x→ao P w I β hp v x
 | _,_,cells,xs,ys,.nil,hs,hx,h=>by
  simp only[tK,dY] at h
  subst h
  exact ⟨cells,by simp[Instr.fill],hs,hx⟩
 | _,_,cells,xs,ys,@wH.cons _ _ _ _ _ i v x vs px h1 U h3,hs,hx,h=>by
  simp only[tK] at h
  cases bU:place i with
  | none=>rw[bU] at h;cases h
  | some os=>
   obtain ⟨off,size⟩:=os
   rw[bU] at h
   simp only at h
   cases hc:(Nat.beq x.cells.length size&&Nat.ble (off+size) xs.length) with
   | false=>rw[hc] at h;cases h
   | true=>
    rw[hc] at h
    simp only[cond_true] at h
    simp only[aM,aU,cV] at hc
    have hv:off+v.cells.size≤cells.size:=by omega
    have hb:off+x.cells.length≤xs.length:=by omega
    have hl:(fS xs off x.cells).length=xs.length:=zZ _ _ _ hb
    obtain ⟨pR,f1,f2,f3⟩:=OU place (cells:=v.cells.zipIdx.foldl (fun cs (p:Value × Nat)=>cs.setIfInBounds (off+p.2) p.1) cells) (xs:=fS xs off x.cells) h3 (by rw[OT,hl,hs])
     (fun j u y hu hy=>by
      rw[OS hv] at hu
      unfold fS at hy
      rw[nH _ _ _ _ hb] at hy
      by_cases j1:j<off
      ·rw[aj j1] at hu hy;exact hx j u y hu hy
      ·rw[ai j1] at hu hy
       by_cases j2:j<off+x.cells.length
       ·rw[aj (by omega)] at hu
        rw[aj j2] at hy
        exact U (j-off) u y hu hy
       ·rw[ai (by omega)] at hu
        rw[ai j2] at hy
        exact hx j u y hu hy) h
    refine ⟨pR,?_,f2,f3⟩
    simp only[Instr.fill,bU]
    rw[ai (by simp;omega)]
    exact f1
theorem YK {t:TypeId} {parts:Array (Nat × Value)} {cells:Array Value} {z:Value} {i:TypeInfo} (hi:P.info? t=some i) (hz:i.zero=some z) (h:Instr.fill (placeOf P t) z.cells parts.toList=some cells) (ha:bL P t=true)
  (bU: ∀fs,P.underlying t=some (.struct fs)→(fs.toList.mapM fun f=>(P.info? f.type).map fun i=>(f.offset,i.size)).isSome=true) (qW: ∀n e,P.underlying t=some (.array n e)→(P.info? e).isSome=true):
  (Instr.build t parts).run P w= .ok (.agg cells) w:=by
 refine run_build w t parts cells ?_
 unfold Program.built
 unfold bL at ha
 rw[hi]
 split at ha
 ·rename_i fs hu
  have:=bU fs hu
  cases hm:fs.toList.mapM fun f=>(P.info? f.type).map fun i=>(f.offset,i.size) with
  | none=>rw[hm] at this;cases this
  | some H8=>
   simp only[hu,hz,hm]
   have hq:placeOf P t=fun i=>H8[i]? :=by simp[placeOf,hu,hm]
   rw[hq] at h
   simpa using h
 ·rename_i n e hu
  have:=qW n e hu
  cases jZ:P.info? e with
  | none=>rw[jZ] at this;cases this
  | some ie=>
   simp only[hu,hz,jZ]
   have hq:placeOf P t=fun i=>some (i*ie.size,ie.size):=by simp[placeOf,hu,jZ]
   rw[hq] at h
   exact h
 ·cases ha
theorem OV {α:Type}: ∀(xs ys:List V) (k:Rd α),lO (xs++ys) k=lO xs (lO ys k)
 | [],_,_=>rfl
 | x::xs,ys,k=>by simp only[List.cons_append,lO,OV xs ys k]
theorem OW {a:Act} {sl:Nat→V} (hs:lj P w I β hp a sl) {G:Nat→V} (hg:gF P G w I) (t:TypeId) {α:Type}: ∀{l:List (Nat × Operand)} {k:Rd α} {r:α} {rd:List Nat},
  (lO ((l.map fun p=>(aP P G t sl p.2).cells).flatten) k).run C hp=some (r,rd)→
  wH P w I β hp (l.map fun p=>(p.1,a.eval p.2)) (l.map fun p=>(p.1,aP P G t sl p.2))∧∃e7,k.run C hp=some (r,e7)
 | [],k,r,rd,h=>⟨.nil,rd,h⟩
 | (i,x)::l,k,r,rd,h=>by
  simp only[cy,List.flatten_cons,OV] at h
  obtain ⟨e1,e2⟩:=IA (hs.ev hg t x) h
  obtain ⟨_,l1,h⟩:=D6 h (vs:=(a.eval x).cells.toList) (by simpa using e1) (fun j u y a b=>e2 j u y (by simpa using a) b)
  obtain ⟨h1,U⟩:=OW hs hg t h
  exact ⟨.cons e1 e2 h1,U⟩
theorem YL (S:aF P w I β hp B M w0) {a:Act} {sl:Nat→V} (hs:lj P w I β hp a sl) {G:Nat→V} (hg:gF P G w I) {t ty:TypeId} {ps:Array (Nat × Operand)} {r:R} {rd:List Nat}
  (h:(Rd.aC (cS P t&&(bL P t&&DF P t)) (lO ((ps.toList.map fun p=>(aP P G ty sl p.2).cells).flatten)
   (vY (tK (placeOf P t) (zeroCells P t) (ps.toList.map fun p=>(p.1,aP P G ty sl p.2))) fun cs=> .ret ⟨.agg cs,[]⟩))).run C hp=some (r,rd)):
  c6 P ((Instr.build t (ps.map fun (i,x)=>(i,a.eval x))).run P w) w I β hp B M w0 r:=by
 obtain ⟨au,h⟩:=aG h
 simp only[aM] at au
 obtain ⟨h1,l,h⟩:=OW hs hg ty h
 cases hf:tK (placeOf P t) (zeroCells P t) (ps.toList.map fun p=>(p.1,aP P G ty sl p.2)) with
 | none=>rw[hf] at h;cases h
 | some cs=>
  rw[hf] at h
  obtain rfl:=aO h
  obtain ⟨i,z,hi,hz,h3,h4,h5⟩:=OP (w:=w) (I:=I) (β:=β) (hp:=hp) au.1
  obtain ⟨cells,f1,f2,f3⟩:=OU (placeOf P t) h1 h3 h5 hf
  have OX:=au.2.2
  refine .same S (v:= .agg cells) (YK hi hz (by simpa using f1) au.2.1 (fun fs hu=> ?_) (fun n e hu=> ?_)) (.agg f2 f3)
  ·simpa[DF,hu] using OX
  ·simpa[DF,hu] using OX
theorem YM (cL: ∀id blk,hp id=some blk→dZ P w I β hp (β id) blk) {x:V} {v:Value} {ys:List V} {fr:List (Nat × an)} {rd:List Nat} {ts:List TypeId} (hv:ao P w I β hp v x)
  (h:(se P x.cells).run C hp=some ((ys,fr),rd)) (ht:qv P ts ys=true):
  v.cells.size=x.cells.length∧∀(j:Nat) u y,v.cells.toList[j]? =some u→x.cells[j]? =some y→ao P w I β hp u y:=by
 cases x with
 | agg xs=>
  obtain ⟨cs,rfl,h1,U⟩:=hv.ll
  exact ⟨h1,fun j u y a b=>U j u y (by simpa[Value.cells] using a) b⟩
 | _=>
  simp only[V.cells] at h⊢
  simp only[se] at h
  obtain ⟨⟨y1,u1⟩,l3,l4,hq,h⟩:=lk h
  obtain ⟨q1,q2⟩:=DU cL hq hv
  obtain ⟨⟨y2,u2⟩,l5,l6,Ab,h⟩:=lk h
  cases Ab
  have:=aO h
  cases this
  obtain ⟨tl,tg⟩:=ud ht
  have fJ:=tg 0 _ y1 (bC (by rw[tl];exact Nat.one_pos)) rfl
  have bU:=q2 (je P w I β hp u1) (fun _ h=> .inl h) (fun p hp b h=> .inr ⟨p,hp,h⟩)
  have ho:=bU.pure fJ
  have IQ:v.cells= #[v]:=by cases ho<;>rfl
  rw[IQ]
  refine ⟨rfl,fun j u y hu hy=> ?_⟩
  cases j with
  | zero=>simp at hu hy;subst hu;subst hy;exact hv
  | succ j=>simp at hy
def wI (P:Program) (w:World) (I:Nat→Prop) (e:TypeId) (cells:Array Value) (es:List V):Prop:=
 cells.size=es.length*P.cellsOf e∧∀(i j:Nat) (x:V) (t':TypeId),es[i]? =some x→(aX P e)[j]? =some t'→j<P.cellsOf e→∃v,cells[i*P.cellsOf e+j]? =some v∧Pure P w I t' v (bN P e x j)
theorem wI.set {e:TypeId} {cells:Array Value} {es ys:List V} {i:Nat} {v:Value} (h:wI P w I e cells es) (hi:i<es.length) (hv:v.cells.size=P.cellsOf e) (hy:ys.length=P.cellsOf e)
  (hr: ∀(j:Nat) (t':TypeId) (u:Value) (y:V),(aX P e)[j]? =some t'→v.cells[j]? =some u→ys[j]? =some y→Pure P w I t' u y):
  wI P w I e (v.cells.zipIdx.foldl (fun cs (p:Value × Nat)=>cs.setIfInBounds (i*P.cellsOf e+p.2) p.1) cells) (es.set i (cB P e ys)):=by
 obtain ⟨h1,U⟩:=h
 have hb:i*P.cellsOf e+v.cells.size≤cells.size:=by
  have:(i+1)*P.cellsOf e≤es.length*P.cellsOf e:=dF _ hi
  rw[dw] at this
  omega
 refine ⟨by rw[OT,oz,h1],fun i' j x t' hx ht hj=> ?_⟩
 rw[OS hb]
 rw[List.getElem?_set] at hx
 by_cases ji:i=i'
 ·subst ji
  rw[aj rfl,aj hi] at hx
  cases hx
  rw[ai (by omega),aj (by omega),show i*P.cellsOf e+j-i*P.cellsOf e=j by omega]
  have h3:j<v.cells.size:=by omega
  have h4:j<ys.length:=by omega
  refine ⟨v.cells[j],k9 h3,?_⟩
  rw[qQ (bC h4) ht]
  exact hr j t' _ _ ht (k9 h3) (bC h4)
 ·rw[ai ji] at hx
  have bD:i'*P.cellsOf e+j<i*P.cellsOf e∨i*P.cellsOf e+v.cells.size≤i'*P.cellsOf e+j:=by
   rcases pt i' i with aN|pQ
   ·left
    have:(i'+1)*P.cellsOf e≤i*P.cellsOf e:=dF _ aN
    rw[dw] at this
    omega
   ·right
    have:(i+1)*P.cellsOf e≤i'*P.cellsOf e:=dF _ (by omega)
    rw[dw] at this
    omega
  rcases bD with bD|bD
  ·rw[aj bD];exact U i' j x t' hx ht hj
  ·rw[ai (by omega),ai (by omega)];exact U i' j x t' hx ht hj
theorem YN {t':TypeId} {v:Value} (fJ:eY P t' (vS (pB P t' v))=true):Pure P w I t' v (vS (pB P t' v)):=by
 have hc:=ao.const (P:=P) (w:=w) (I:=I) (β:=fun _=>none) (hp:=fun _=>none) t' v
 cases ui:pB P t' v<;>rw[ui] at fJ hc<;>simp only[vS] at fJ⊢
 case int k n=>rw[hc.dU];exact Plain.pure (v:= .int k n) (y:= .int k n) rfl fJ
 case bool b=>rw[hc.kI];exact Plain.pure (v:= .bool b) (y:= .bool b) rfl fJ
 case str l=>obtain ⟨s,e1,e2⟩:=hc.mI;rw[e1];exact Plain.pure (v:= .string s) (y:= .str l) ⟨s,rfl,e2⟩ fJ
 case nilS e'=>
  cases hc
  exact Plain.pure (y:= .list e' []) (jb.any fun _=>rfl) fJ
 case list e' es=>
  cases hc with
  | list hp=>exact Plain.pure (y:= .list e' es) hp fJ
 all_goals (unfold eY at fJ;split at fJ<;>simp_all)
theorem Ac {e:TypeId} (h:mB P e=true): ∃i z,P.info? e=some i∧i.zero=some z∧i.size=P.cellsOf e∧z.cells.size=P.cellsOf e∧
  ∀(j:Nat) (t':TypeId),(aX P e)[j]? =some t'→j<P.cellsOf e→∃v,z.cells[j]? =some v∧Pure P w I t' v (bN P e (cB P e (eR P e)) j):=by
 unfold mB at h
 simp only[aM] at h
 obtain ⟨i,z,h1,U,h3,h4,h5⟩:=kL h.1
 refine ⟨i,z,h1,U,h3,h4,fun j t' ht hj=> ?_⟩
 obtain ⟨tl,tg⟩:=ud h.2
 have cl:j<(eR P e).length:=by rw[←tl,(kH h.1).1];exact hj
 have hz:=bC cl
 have fJ:=tg j t' _ (by rw[←sA];exact ht) hz
 refine ⟨z.cells[j],k9 (by omega),?_⟩
 rw[qQ hz ht]
 have uj:(eR P e)[j]=vS (pB P t' z.cells[j]):=by
  have:(eR P e)[j]? =((zeroCells P e)[j]?).map vS:=by simp[eR]
  rw[hz] at this
  cases hc:(zeroCells P e)[j]? with
  | none=>rw[hc] at this;cases this
  | some y=>
   rw[hc] at this
   simp only[Option.map_some,dY] at this
   rw[h5] at hc
   obtain ⟨t2,v2,a1,a2,rfl⟩:=IS hc
   have YO:t2=t':=by
    rw[←sA,ht] at a1;exact (dh a1).symm
   have qJ:v2=z.cells[j]:=by
    have YP:j<z.cells.size:=by omega
    have:z.cells.toList[j]? =some z.cells[j]:=by simp[YP]
    rw[this] at a2;exact (dh a2).symm
   rw[this,YO,qJ]
 rw[uj] at fJ⊢
 exact YN fJ
end
section
variable {P:Program} {w w':World} {I I':Nat→Prop} {β β':Nat→Option Nat} {hp hp':Nat→Option an} {C:ag} {B:Nat} {M:Nat→Prop} {w0:Start}
theorem wJ (S:aF P w I β hp B M w0) {nb cap:Nat} {e:TypeId} {es:List V} {C0:Array Value} (au:cS P e=true) (hn:hp nb=none) (hs:C0.size=cap*P.cellsOf e) (hl:es.length≤cap) (hm:cap≤maxLen)
  (hx: ∀(i j:Nat) (x:V) (t':TypeId),es[i]? =some x→(aX P e)[j]? =some t'→j<P.cellsOf e→∃v,C0[i*P.cellsOf e+j]? =some v∧Pure P w I t' v (bN P e x j)):
  Le P w I β hp (w.alloc (.cells C0 e)) I (aI β nb (some w.heap.size)) (aI hp nb (some (.arr e es false)))∧aF P (w.alloc (.cells C0 e)) I (aI β nb (some w.heap.size)) (aI hp nb (some (.arr e es false))) B M w0∧
  ao P (w.alloc (.cells C0 e)) I (aI β nb (some w.heap.size)) (aI hp nb (some (.arr e es false))) (.slice (some ⟨w.heap.size,0,none⟩) es.length cap) (.whole e nb):=by
 obtain ⟨h1,U⟩:=Iv S (blk:= .arr e es false) (c:=C0) (T:=e) hn (fun b' h=>(dh (h.flat (by simp))).symm) (fun hle e6 cQ=> .arr au rfl e6 (by rw[hs];exact dF _ hl) (fun h=>by cases h) (fun _=>cQ) fun i j x t' a b c=>by
  obtain ⟨v,hv,hp⟩:=hx i j x t' a b c
  exact ⟨v,hv,hp.mono hle.dm hle.cj⟩)
 refine ⟨h1,U,.whole (cW _ _ _) (cW _ _ _) ?_ hl hm⟩
 rw[nD (heap_alloc_new w (.cells C0 e)),hs]
theorem At.only {b b':Nat} {e e':TypeId} {es aK:List V} {q:Path} (hz: ∀(i j:Nat) x t' e1 l,es[i]? =some x→(aX P e)[j]? =some t'→bN P e x j= .list e1 l→l=[])
  (h:At P w b e es q b' e' aK):q=[]∧b'=b∧e'=e∧aK=es:=by
 cases h with
 | here=>exact ⟨rfl,rfl,rfl,rfl⟩
 | step h1 U h3 h4 h5 h6=>have:=hz _ _ _ _ _ _ U h3 h5;subst this;simp at h6
theorem mH.qG {t:TypeId} {v:Value} {x:V} (h:Pure P w I t v x) (hz: ∀e1 l,x= .list e1 l→l=[]):mH P w I t v x:=by
 cases h with
 | int h=>exact .fW (by unfold fT;rw[h]) (.int h)
 | bool h=>exact .fW (by unfold fT;rw[h]) (.bool h)
 | str h hl=>exact .fW (by unfold fT;rw[h]) (.str h hl)
 | nil h=>exact .emp h fun _=>rfl
 | emp h=>exact .emp h fun h=>by cases h
 | list g hu hl _ _ _ _=>
  have:=hz _ _ rfl
  subst this
  simp at hl
  subst hl
  exact .emp hu fun h=>by cases h
theorem YQ (S:aF P w I β hp B M w0) {nb cap:Nat} {e:TypeId} {es:List V} {C0:Array Value} (au:cS P e=true) (hn:hp nb=none) (hs:C0.size=cap*P.cellsOf e) (hl:es.length≤cap) (hm:cap≤maxLen)
  (hx: ∀(i j:Nat) (x:V) (t':TypeId),es[i]? =some x→(aX P e)[j]? =some t'→j<P.cellsOf e→∃v,C0[i*P.cellsOf e+j]? =some v∧Pure P w I t' v (bN P e x j))
  (hz: ∀(i j:Nat) x t' e1 l,es[i]? =some x→(aX P e)[j]? =some t'→bN P e x j= .list e1 l→l=[]):
  Le P w I β hp (w.alloc (.cells C0 e)) I (aI β nb (some w.heap.size)) (aI hp nb (some (.nest e es [0,0,0])))∧aF P (w.alloc (.cells C0 e)) I (aI β nb (some w.heap.size)) (aI hp nb (some (.nest e es [0,0,0]))) B M w0∧
  ao P (w.alloc (.cells C0 e)) I (aI β nb (some w.heap.size)) (aI hp nb (some (.nest e es [0,0,0]))) (.slice (some ⟨w.heap.size,0,none⟩) es.length cap) (.whole e nb):=by
 obtain ⟨h1,U⟩:=Iv S (blk:= .nest e es [0,0,0]) (c:=C0) (T:=e) hn (fun b' h=>by
   cases h with
   | root _ h=>exact (dh h).symm
   | row h ha=>cases h;exact (At.only hz ha).2.1)
  (fun hle e6 cQ=> .nest rfl (fun q b' e' aK ha=>by
   obtain ⟨rfl,rfl,rfl,rfl⟩:=At.only hz ha
   refine ⟨au,⟨C0,e6,by rw[hs];exact dF _ hl,fun i j x t' a b c=> ?_⟩,cQ⟩
   obtain ⟨v,hv,hp⟩:=hx i j x t' a b c
   exact ⟨v,hv,.qG (hp.mono hle.dm hle.cj) fun e1 l h=>hz i j x t' e1 l a b h⟩)
   fun q1 q2 b' e1 cv e2 cd a1 a2=>(At.only hz a1).1.trans (At.only hz a2).1.symm)
 refine ⟨h1,U,.eD (cW _ _ _) (cW _ _ _) ?_ hl hm⟩
 rw[nD (heap_alloc_new w (.cells C0 e)),hs]
theorem OY (cL: ∀id blk,hp id=some blk→dZ P w I β hp (β id) blk) {a:Act} {sl:Nat→V} (hs:lj P w I β hp a sl) {G:Nat→V} (hg:gF P G w I) {e:TypeId} {len:Nat}: ∀{l:List (Nat × Operand)} {ps:List (Nat × V)} {upd:List (Nat × an)} {rd:List Nat},
  (zu P e len (l.map fun p=>(p.1,aP P G e sl p.2))).run C hp=some ((ps,upd),rd)→cS P e=true→(∀p∈upd,zP hp p)∧∀I':Nat→Prop,(∀b,I b→I' b)→(∀p∈upd,∀b,sy P w β hp p.1 b→I' b)→
   ∀(cells:Array Value) (es:List V),es.length=len→wI P w I' e cells es→∃pR,Instr.fill (fun i=>some (i*P.cellsOf e,P.cellsOf e)) cells (l.map fun p=>(p.1,a.eval p.2))=some pR∧wI P w I' e pR (zt es ps)∧(zt es ps).length=len
 | [],ps,upd,rd,h,_=>by
  cases h
  exact ⟨by simp,fun I' _ _ cells es hl he=>⟨cells,by simp[Instr.fill],he,hl⟩⟩
 | (i,x)::l,ps,upd,rd,h,au=>by
  simp only[cy,zu] at h
  obtain ⟨⟨ys,u1⟩,l1,l2,h1,h⟩:=lk h
  obtain ⟨hc,h⟩:=aG h
  obtain ⟨⟨ps',u2⟩,l3,l4,U,h⟩:=lk h
  have:=aO h
  cases this
  simp only[aM,ku] at hc
  obtain ⟨hi,fJ⟩:=hc
  obtain ⟨tl,tg⟩:=ud fJ
  have wz:=hs.ev hg e x
  obtain ⟨v1,v2⟩:=YM cL wz h1 fJ
  obtain ⟨k1,k2,k3⟩:=It cL h1 (vs:=(a.eval x).cells.toList) (by simpa using v1) v2
  obtain ⟨m1,m2⟩:=OY cL hs hg U au
  refine ⟨fun p hp=> ?_,fun I' i1 i2 cells es hl he=> ?_⟩
  ·rcases eQ.1 hp with h|h
   ·exact k2 p h
   ·exact m1 p h
  ·have bU:=k3 I' i1 (fun p hp=>i2 p (eQ.2 (.inl hp)))
   have ba:=(kH au).1
   have ug:ys.length=P.cellsOf e:=by rw[←tl,ba]
   have OC:(a.eval x).cells.size=P.cellsOf e:=by rw[v1,←k1,ug]
   have hY:=he.set (i:=i) (ys:=ys) (by omega) OC ug (fun j t' u y ht hu hy=>by
    exact (bU j u y (by simpa using hu) hy).pure (tg j t' y (by rw[←sA];exact ht) hy))
   obtain ⟨pR,f1,f2,f3⟩:=m2 I' i1 (fun p hp=>i2 p (eQ.2 (.inr hp))) _ (es.set i (cB P e ys)) (by simpa using hl) hY
   refine ⟨pR,?_,f2,f3⟩
   have hb:i*P.cellsOf e+P.cellsOf e≤cells.size:=by
    rw[he.1,hl]
    have:(i+1)*P.cellsOf e≤len*P.cellsOf e:=dF _ hi
    rw[dw] at this
    omega
   simp only[cy,Instr.fill]
   rw[ai (by simp;omega)]
   exact f1
theorem OZ {z:Array Value} {n k:Nat} (hk:k<n) (hz:0<z.size):((Array.range n).map (z[· %z.size]!))[k]? =z[k %z.size]? :=by
 have hm:k %z.size<z.size:=Nat.mod_lt _ hz
 simp[hk,hm]
theorem Eh {e:TypeId} (h:mB P e=true) {i:TypeInfo} {z:Value} (hi:P.info? e=some i) (hz:i.zero=some z) (n m:Nat) (lM:n≤m):
  ∀(k j:Nat) (x:V) (t':TypeId),(List.replicate n (cB P e (eR P e)))[k]? =some x→(aX P e)[j]? =some t'→j<P.cellsOf e→
   ∃v,((Array.range (m*P.cellsOf e)).map (z.cells[· %z.cells.size]!))[k*P.cellsOf e+j]? =some v∧Pure P w I t' v (bN P e x j):=by
 intro k j x t' hx ht hj
 obtain ⟨i2,z2,h1,U,h3,h4,h5⟩:=Ac (w:=w) (I:=I) h
 rw[hi] at h1;cases h1
 rw[hz] at U;cases U
 rw[List.getElem?_replicate] at hx
 split at hx
 ·rename_i hk
  cases hx
  obtain ⟨v,hv,hp⟩:=h5 j t' ht hj
  refine ⟨v,?_,hp⟩
  have hb:k*P.cellsOf e+j<m*P.cellsOf e:=by
   have:(k+1)*P.cellsOf e≤m*P.cellsOf e:=dF _ (by omega)
   rw[dw] at this
   omega
  rw[OZ hb (by omega),h4,show (k*P.cellsOf e+j) %P.cellsOf e=j by rw[oA,Nat.mul_add_mod];exact Nat.mod_eq_of_lt hj]
  exact hv
 ·cases hx
theorem YR {P:Program} (w:World) (t e:TypeId) (len:Nat) (parts:Array (Nat × Value)) (cells:Array Value) (ie:TypeInfo) (z:Value)
  (hu:P.underlying t=some (.slice e)) (jZ:P.info? e=some ie) (hz:ie.zero=some z) (YS: ¬len*ie.size>2^24)
  (h:Instr.fill (fun i=>some (i*ie.size,ie.size)) ((Array.range (len*ie.size)).map (z.cells[· %z.cells.size]!)) parts.toList=some cells):
  (Instr.buildSlice t len parts).run P w= .ok (.slice (some ⟨w.heap.size,0,none⟩) len len) (w.alloc (.cells cells e)):=by
 by_cases lM:len*ie.size=0
 ·have h0: ∀g:Nat→Value,(Array.range (len*ie.size)).map g= #[]:=by intro g;exact Array.eq_empty_of_size_eq_zero (by simp[lM])
  have hp: ∀(u:Array Value),(Pure.pure u:Sem (Array Value)).run P w= .ok u w:=fun _=>rfl
  rw[h0] at h
  simp only[Instr.buildSlice,Sem.run_bind,run_underlying hu,Result.andThen_ok,sizeOf,typeInfo,jZ]
  have h1:(Array.range (len*ie.size)).map (fun _:Nat=>(default:Value))= #[]:=h0 _
  have hs: ¬16777216<len*ie.size:=by omega
  simp[jZ,hs,lM]
  simp only[lM] at h1
  simp[h1,h,newRow]
 ·exact run_buildSlice w t e len parts cells ie z hu jZ hz YS lM h
theorem YT (S:aF P w I β hp B M w0) {a:Act} {sl:Nat→V} (hs:lj P w I β hp a sl) {G:Nat→V} (hg:gF P G w I) {t e:TypeId} {len nb:Nat} {ps:Array (Nat × Operand)} {r:R} {rd:List Nat} (hu:P.underlying t=some (.slice e))
  (h:(Rd.aC (mB P e&&Nat.ble (len*P.cellsOf e) (2^24)) ((zu P e len (ps.toList.map fun p=>(p.1,aP P G e sl p.2))).bind fun r=>
    jA nb (.arr e (zt (List.replicate len (cB P e (eR P e))) r.1) false) (.whole e nb) r.2)).run C hp=some (r,rd)):
  c6 P ((Instr.buildSlice t len (ps.map fun (i,x)=>(i,a.eval x))).run P w) w I β hp B M w0 r:=by
 obtain ⟨hc,h⟩:=aG h
 simp only[aM,cV] at hc
 obtain ⟨cT,sr⟩:=hc
 have au:cS P e=true:=by
  unfold mB at cT;simp only[aM] at cT;exact cT.1
 obtain ⟨⟨pv,upd⟩,l1,l2,h1,h⟩:=lk h
 obtain ⟨hn,rfl⟩:=nJ h
 obtain ⟨m1,m2⟩:=OY S.h.rel hs hg h1 au
 obtain ⟨qT,S1⟩:=zT S m1
 obtain ⟨i,z,hi,hz,h3,h4,_⟩:=Ac (w:=w) (I:=I) cT
 have jE:=(kH au).2
 have h0:wI P w (je P w I β hp upd) e ((Array.range (len*P.cellsOf e)).map (z.cells[· %z.cells.size]!)) (List.replicate len (cB P e (eR P e))):=
  ⟨by simp,Eh cT hi hz len len (b9 _)⟩
 obtain ⟨cells,f1,f2,f3⟩:=m2 (je P w I β hp upd) (fun _ h=> .inl h) (fun p hp b h=> .inr ⟨p,hp,h⟩) _ _ (by simp) h0
 have kM:bM hp upd nb=none:=by
  rcases tX (hp:=hp) (l:=upd) (id:=nb) with h|⟨b',hm,_⟩
  ·exact h.trans hn
  ·obtain ⟨e1,cv,_,h5⟩:=m1 _ hm
   simp only[hn] at h5
   rcases h5 with ⟨_,h5⟩|⟨_,h5⟩<;>cases h5
 have oL:len≤maxLen:=by
  have:len*1≤len*P.cellsOf e:=tA _ jE
  simp only[maxLen]
  omega
 obtain ⟨n1,n2,n3⟩:=wJ S1 (cap:=len) au kM (by rw[f2.1,f3]) (by rw[f3];exact b9 _) oL f2.2
 have cX:=YR w t e len (ps.map fun (i,x)=>(i,a.eval x)) cells i z hu hi hz (by rw[h3];omega) (by rw[h3];simpa using f1)
 refine ⟨_,_,_,_,cX,qT.trans n1,n2,?_⟩
 rw[f3] at n3
 exact n3
theorem O0 (S:aF P w I β hp B M w0) {t e:TypeId} {nb:Nat} {kl kc:IntKind} {n m:Int} {r:R} {rd:List Nat} (hu:P.underlying t=some (.slice e))
  (h:(Rd.aC (mB P e&&(decide (0≤n)&&(decide (n≤m)&&Nat.ble (m.toNat*P.bytesOf e) bP)))
    (jA nb (.arr e (List.replicate n.toNat (cB P e (eR P e))) false) (.whole e nb) [])).run C hp=some (r,rd)):
  c6 P ((Instr.makeSlice t (.int kl n) (.int kc m)).run P w) w I β hp B M w0 r:=by
 obtain ⟨hc,h⟩:=aG h
 simp only[aM,cV,eg] at hc
 obtain ⟨cT,h0,lM,dV⟩:=hc
 have au:cS P e=true:=by
  unfold mB at cT;simp only[aM] at cT;exact cT.1
 obtain ⟨hn,rfl⟩:=nJ h
 obtain ⟨i,z,hi,hz,h3,h4,_⟩:=Ac (w:=w) (I:=I) cT
 have mL:P.bytesOf e=i.bytes:=by simp[Program.bytesOf,hi]
 have IT:m≤9223372036854775807:=by
  have h1:m.toNat*1≤m.toNat*P.bytesOf e:=tA _ (wh au)
  simp only[bP] at dV
  omega
 have cX:=run_make (P:=P) w t e i z hu hi hz kl kc n m h0 lM (by
  rw[mL] at dV
  simp only[bP] at dV
  have:(i.bytes:Int)*m=((m.toNat*i.bytes:Nat):Int):=by
   rw[Int.natCast_mul,Int.toNat_of_nonneg (by omega),Int.mul_comm]
  rw[this]
  omega) IT
 have hlen:(List.replicate n.toNat (cB P e (eR P e))).length=n.toNat:=by simp
 obtain ⟨n1,n2,n3⟩:=wJ S (cap:=m.toNat) (es:=List.replicate n.toNat (cB P e (eR P e))) (C0:=madeCells z.cells (m.toNat*i.size)) au hn (by rw[size_madeCells,h3]) (by rw[hlen];omega) (by simp only[maxLen];omega)
  (by rw[h3];exact Eh cT hi hz n.toNat m.toNat (by omega))
 refine ⟨_,_,_,_,cX,n1,n2,?_⟩
 rw[hlen] at n3
 exact n3
theorem IU: ∀{l:List V} {j:Nat} {e1:TypeId} {k:List V},zF l=true→V.nth l j= .list e1 k→k=[]
 | [],j,e1,k,_,h=>by cases j<;>cases h
 | x::l,0,e1,k,hn,h=>by
  simp only[V.nth] at h
  subst h
  cases k with
  | nil=>rfl
  | cons _ _=>cases hn
 | x::l,j+1,e1,k,hn,h=>by
  refine IU (l:=l) (j:=j) ?_ h
  cases x with
  | list e2 k2=>
   cases k2 with
   | nil=>exact hn
   | cons _ _=>cases hn
  | _=>exact hn
theorem YU {e:TypeId} {n:Nat} (au:cS P e=true) (h:zF (eR P e)=true):
  ∀(i j:Nat) x t' e1 l,(List.replicate n (cB P e (eR P e)))[i]? =some x→(aX P e)[j]? =some t'→bN P e x j= .list e1 l→l=[]:=by
 intro i j x t' e1 l hx ht hl
 have:=List.eq_of_mem_replicate (jP hx)
 subst this
 unfold bN cB at hl
 cases ha:bL P e with
 | true=>rw[ha] at hl;exact IU h hl
 | false=>rw[ha] at hl;exact IU h hl
theorem YV (S:aF P w I β hp B M w0) {t e:TypeId} {nb:Nat} {kl kc:IntKind} {n m:Int} {r:R} {rd:List Nat} (hu:P.underlying t=some (.slice e))
  (h:(Rd.aC (mB P e&&(decide (0≤n)&&(decide (n≤m)&&Nat.ble (m.toNat*P.bytesOf e) bP)))
    (Rd.aC (zF (eR P e)) (jA nb (.nest e (List.replicate n.toNat (cB P e (eR P e))) [0,0,0]) (.whole e nb) []))).run C hp=some (r,rd)):
  c6 P ((Instr.makeSlice t (.int kl n) (.int kc m)).run P w) w I β hp B M w0 r:=by
 obtain ⟨hc,h⟩:=aG h
 simp only[aM,cV,eg] at hc
 obtain ⟨cT,h0,lM,dV⟩:=hc
 have au:cS P e=true:=by
  unfold mB at cT;simp only[aM] at cT;exact cT.1
 obtain ⟨YW,h⟩:=aG h
 obtain ⟨hn,rfl⟩:=nJ h
 obtain ⟨i,z,hi,hz,h3,h4,_⟩:=Ac (w:=w) (I:=I) cT
 have mL:P.bytesOf e=i.bytes:=by simp[Program.bytesOf,hi]
 have IT:m≤9223372036854775807:=by
  have h1:m.toNat*1≤m.toNat*P.bytesOf e:=tA _ (wh au)
  simp only[bP] at dV
  omega
 have cX:=run_make (P:=P) w t e i z hu hi hz kl kc n m h0 lM (by
  rw[mL] at dV
  simp only[bP] at dV
  have:(i.bytes:Int)*m=((m.toNat*i.bytes:Nat):Int):=by
   rw[Int.natCast_mul,Int.toNat_of_nonneg (by omega),Int.mul_comm]
  rw[this]
  omega) IT
 have hlen:(List.replicate n.toNat (cB P e (eR P e))).length=n.toNat:=by simp
 obtain ⟨n1,n2,n3⟩:=YQ S (cap:=m.toNat) (es:=List.replicate n.toNat (cB P e (eR P e))) (C0:=madeCells z.cells (m.toNat*i.size)) au hn (by rw[size_madeCells,h3]) (by rw[hlen];omega) (by simp only[maxLen];omega)
  (by rw[h3];exact Eh cT hi hz n.toNat m.toNat (by omega))
  (YU au YW)
 refine ⟨_,_,_,_,cX,n1,n2,?_⟩
 rw[hlen] at n3
 exact n3
theorem Pure.one {t:TypeId} {v:Value} {x:V} (h:Pure P w I t v x):v.oneCell'=true:=by cases h<;>rfl
structure Row (P:Program) (w:World) (I:Nat→Prop) (e:TypeId) (v:Value) (xs:List V) (a:Addr) (c:Nat) (news:List Value):Prop where
 val:v= .slice (some a) xs.length c
 len:news.length=xs.length*P.cellsOf e
 cell: ∀(j:Nat) u,news[j]? =some u→w.cell? (a.add j)=some u
 el: ∀(i j:Nat) (x:V) (t':TypeId),xs[i]? =some x→(aX P e)[j]? =some t'→j<P.cellsOf e→∃u,news[i*P.cellsOf e+j]? =some u∧Pure P w I t' u (bN P e x j)
theorem Row.one {e:TypeId} {v:Value} {xs:List V} {a:Addr} {c:Nat} {news:List Value} (h:Row P w I e v xs a c news) (au:cS P e=true): ∀u∈news,u.oneCell'=true:=by
 intro u hu
 obtain ⟨k,hk⟩:=rZ hu
 have fq:=(bz.1 hk).1
 have jE:=(kH au).2
 rw[h.len] at fq
 have hi:k/P.cellsOf e<xs.length:=Nat.div_lt_of_lt_mul (by rw[oA];exact fq)
 have hj:k %P.cellsOf e<P.cellsOf e:=Nat.mod_lt _ jE
 have gM:k %P.cellsOf e<(aX P e).length:=by rw[fI au];exact hj
 obtain ⟨u',fY,hp⟩:=h.el (k/P.cellsOf e) (k %P.cellsOf e) _ _ (bC hi) (bC gM) hj
 rw[Nat.div_add_mod'] at fY
 rw[hk] at fY
 cases fY
 exact hp.one
theorem O1 {e:TypeId} {es:List V} {b:Nat} {Ca:Array Value} {off len cap o:Nat} (hh:w.heap[b]? =some (.cells Ca e (0,0))) (hs:es.length*P.cellsOf e≤Ca.size)
  (hx: ∀(i j:Nat) (x:V) (t':TypeId),es[i]? =some x→(aX P e)[j]? =some t'→j<P.cellsOf e→∃v,Ca[i*P.cellsOf e+j]? =some v∧Pure P w I t' v (bN P e x j))
  (lh:off+len≤es.length) (ho:0<len→o=off*P.cellsOf e):
  Row P w I e (.slice (some ⟨b,o,none⟩) len cap) ((es.drop off).take len) ⟨b,o,none⟩ cap ((Ca.toList.drop (off*P.cellsOf e)).take (len*P.cellsOf e)):=by
 have hlen:((es.drop off).take len).length=len:=by simp;omega
 have hb:(off+len)*P.cellsOf e≤Ca.size:=lI (dF _ lh) hs
 rw[dw] at hb
 refine ⟨by rw[hlen],by rw[hlen];simp;omega,fun j u hj=> ?_,fun i j x t' gJ ht hj=> ?_⟩
 ·have cl:=(bz.1 hj).1
  have IV:j<len*P.cellsOf e:=by
   rw[fe] at cl;omega
  have jW:0<len:=by
   rcases Nat.eq_zero_or_pos len with h|h
   ·rw[h] at IV;simp at IV
   ·exact h
  rw[fc IV,iy] at hj
  rw[nG,cell?_cells hh,ho jW]
  simpa using hj
 ·have hi:i<len:=by rw[←hlen];exact (bz.1 gJ).1
  rw[fc hi,iy] at gJ
  obtain ⟨u,hu,hp⟩:=hx (off+i) j x t' gJ ht hj
  refine ⟨u,?_,hp⟩
  have:i*P.cellsOf e+j<len*P.cellsOf e:=by
   have:(i+1)*P.cellsOf e≤len*P.cellsOf e:=dF _ hi
   rw[dw] at this
   omega
  rw[fc this,iy]
  rw[dw] at hu
  rw[←oy]
  simpa using hu
theorem Ei (cL: ∀id blk,hp id=some blk→dZ P w I β hp (β id) blk) {e:TypeId} {v:Value} {x:V} {k:List V→Rd R} {r:R} {rd:List Nat} (au:cS P e=true) (hv:ao P w I β hp v x)
  (h:(si e x k).run C hp=some (r,rd)): ∃xs,(((∃a,v= .slice a 0 0)∧xs=[])∨∃a c news,Row P w I e v xs a c news)∧∃l,(k xs).run C hp=some (r,l):=by
 cases hv with
 | list hp'=>
  obtain ⟨hc,U⟩:=aG h
  clear h
  rw[aU] at hc
  subst hc
  cases hp' with
  | nil=>exact ⟨[],.inl ⟨⟨_,rfl⟩,rfl⟩,rd,U⟩
  | @emp a cap=>exact ⟨[],.inr ⟨a,cap,[],⟨rfl,by simp,fun j u hj=>by simp at hj,fun i j x t' hx _ _=>by simp at hx⟩⟩,rd,U⟩
  | @list b o len cap es g hl cf hI gp hx=>
   refine ⟨_,.inr ⟨⟨b,o,none⟩,cap,(List.range (len*P.cellsOf e)).map fun k=>g (k/P.cellsOf e) (k %P.cellsOf e),⟨by rw[hl],by rw[hl];simp,fun j u hj=> ?_,fun i j x t' gJ ht hj=> ?_⟩⟩,rd,U⟩
   ·obtain ⟨cl,iJ⟩:=bz.1 hj
    simp at cl iJ
    have jE:=(kH au).2
    have hi:j/P.cellsOf e<len:=Nat.div_lt_of_lt_mul (by rw[oA];exact cl)
    have gu:j %P.cellsOf e<P.cellsOf e:=Nat.mod_lt _ jE
    rw[nG,←iJ]
    have:=gp (j/P.cellsOf e) (j %P.cellsOf e) hi gu
    rwa [Nat.div_add_mod'] at this
   ·have hi:i<len:=by rw[←hl];exact (bz.1 gJ).1
    have hb:i*P.cellsOf e+j<len*P.cellsOf e:=by
     have:(i+1)*P.cellsOf e≤len*P.cellsOf e:=dF _ hi
     rw[dw] at this
     omega
    refine ⟨g i j,?_,hx i j x t' gJ ht⟩
    have e1:(i*P.cellsOf e+j)/P.cellsOf e=i:=by
     rw[oA,Nat.mul_add_div (kH au).2,Nat.div_eq_of_lt hj,Nat.add_zero]
    have e2:(i*P.cellsOf e+j) %P.cellsOf e=j:=by
     rw[oA,Nat.mul_add_mod];exact Nat.mod_eq_of_lt hj
    simp[hb,e1,e2]
 | nilS=>
  obtain ⟨hc,h⟩:=aG h
  exact ⟨[],.inl ⟨⟨_,rfl⟩,rfl⟩,rd,h⟩
 | dI ab hb=>
  obtain ⟨l,h⟩:=run_get h
  simp only[ab] at h
  obtain ⟨hc,h⟩:=aG h
  exact ⟨[],.inl ⟨⟨_,rfl⟩,rfl⟩,l,h⟩
 | @whole e' id es fz b cap ab hb ba cf hm=>
  obtain ⟨l,h⟩:=run_get h
  simp only[ab] at h
  obtain ⟨hc,U⟩:=aG h
  clear h
  simp only[aM,aU] at hc
  obtain ⟨rfl,_⟩:=hc
  have hr:=cL _ _ ab
  cases hr with
  | dJ aB=>rw[aB] at hb;cases hb
  | arr Iz aB hh hs hf en hx=>
   rw[hb] at aB;cases aB
   have:=O1 (cap:=cap) (off:=0) (len:=es.length) (o:=0) hh hs hx (by omega) (fun _=>by simp)
   exact ⟨es,.inr ⟨_,_,_,by simpa using this⟩,l,U⟩
 | fX ab hb=>
  obtain ⟨l,h⟩:=run_get h
  simp only[ab] at h
  obtain ⟨hc,h⟩:=aG h
  exact ⟨[],.inl ⟨⟨_,rfl⟩,rfl⟩,l,by simpa using h⟩
 | @sub e' id off len es fz b o cap ab hb lh cf ho=>
  obtain ⟨l,h⟩:=run_get h
  simp only[ab] at h
  obtain ⟨hc,U⟩:=aG h
  clear h
  simp only[aM,aU] at hc
  obtain ⟨rfl,_⟩:=hc
  have hr:=cL _ _ ab
  cases hr with
  | dJ aB=>rw[aB] at hb;cases hb
  | arr Iz aB hh hs hf en hx=>
   rw[hb] at aB;cases aB
   exact ⟨_,.inr ⟨_,_,_,O1 (cap:=cap) hh hs hx lh ho⟩,l,U⟩
 | ek ab=>
  obtain ⟨l,h⟩:=run_get h
  simp only[ab] at h
  cases h
 | gn ab=>
  obtain ⟨l,h⟩:=run_get h
  simp only[ab] at h
  cases h
 | undef=>cases h
 | int=>cases h
 | bool=>cases h
 | str=>cases h
 | agg=>cases h
 | bm=>cases h
 | dy=>cases h
 | fn=>cases h
 | pref=>cases h
 | kF=>cases h
 | ptr=>cases h
 | jT=>cases h
 | jU=>cases h
 | row=>cases h
 | cI=>cases h
 | dB=>cases h
 | iH=>cases h
 | cA=>cases h
 | eD ab=>
  obtain ⟨l,h⟩:=run_get h
  simp only[ab] at h
  cases h
theorem O2 {t ty e:TypeId} {i:TypeInfo} (ht:P.underlying t=some (.slice e)) (hi:P.info? e=some i) (a:Option Addr) (n cap:Nat) (x:Value) (hx: ∃a c,x= .slice a 0 c) (hn:n≤cap):
  (Builtin.append_ #[t,t] ty #[.slice a n cap,x]).run P w= .ok (.slice a n cap) w:=by
 obtain ⟨a',c,rfl⟩:=hx
 cases a' with
 | none=>cases a<;>simp[Builtin.append_,run_underlying ht,sizeOf,typeInfo,hi,Builtin.lenOf,Builtin.firstCells,hn,storeCells]
 | some a'=>cases a<;>simp[Builtin.append_,run_underlying ht,sizeOf,typeInfo,hi,Builtin.lenOf,Builtin.firstCells,hn,storeCells,loadCells,loadCellsFrom]
theorem Ej {e:TypeId} {es xs:List V} {n:Nat} {c:List Value} {news:List Value} (hn:es.length=n)
  (h1: ∀(i j:Nat) (x:V) (t':TypeId),es[i]? =some x→(aX P e)[j]? =some t'→j<P.cellsOf e→∃v,c[i*P.cellsOf e+j]? =some v∧Pure P w I t' v (bN P e x j))
  (U: ∀(i j:Nat) (x:V) (t':TypeId),xs[i]? =some x→(aX P e)[j]? =some t'→j<P.cellsOf e→∃v,news[i*P.cellsOf e+j]? =some v∧Pure P w I t' v (bN P e x j))
  (hb:n*P.cellsOf e≤c.length) (rest:List Value):
  ∀(i j:Nat) (x:V) (t':TypeId),(es++xs)[i]? =some x→(aX P e)[j]? =some t'→j<P.cellsOf e→∃v,(c.take (n*P.cellsOf e)++news++rest)[i*P.cellsOf e+j]? =some v∧Pure P w I t' v (bN P e x j):=by
 intro i j x t' hx ht hj
 have hl:(c.take (n*P.cellsOf e)).length=n*P.cellsOf e:=by simp;omega
 by_cases hi:i<n
 ·rw[iU (by omega)] at hx
  obtain ⟨v,hv,hp⟩:=h1 i j x t' hx ht hj
  have:i*P.cellsOf e+j<n*P.cellsOf e:=by
   have:(i+1)*P.cellsOf e≤n*P.cellsOf e:=dF _ hi
   rw[dw] at this
   omega
  exact ⟨v,by rw[cx,iU (by omega),fc this];exact hv,hp⟩
 ·rw[iW (by omega),hn] at hx
  obtain ⟨v,hv,hp⟩:=U (i-n) j x t' hx ht hj
  have hZ:i-n<xs.length:=(bz.1 hx).1
  have e1:i*P.cellsOf e+j-n*P.cellsOf e=(i-n)*P.cellsOf e+j:=by
   rw[Nat.sub_mul]
   have:n*P.cellsOf e≤i*P.cellsOf e:=dF _ (by omega)
   omega
  have h3:(i-n)*P.cellsOf e+j<news.length:=(bz.1 hv).1
  refine ⟨v,?_,hp⟩
  have h4:n*P.cellsOf e≤i*P.cellsOf e+j:=by
   have:n*P.cellsOf e≤i*P.cellsOf e:=dF _ (by omega)
   omega
  rw[cx,iW (by omega),hl,e1,iU h3]
  exact hv
theorem Pure.drew {t:TypeId} {v:Value} {x:V} (h:Pure P w I t v x):Pure P w.drew I t v x:=Pure.mono (w:=w) (w':=w.drew) (fun _ h=>h) (fun _ _=>rfl) h
theorem YX (w:World) (t ty e:TypeId) (i:TypeInfo) (z:Value) (ht:P.underlying t=some (.slice e)) (hi:P.info? e=some i) (hz:i.zero=some z)
  (a0:Option Addr) (a:Addr) (n c:Nat) (news:List Value) (hl:news.length=n*i.size) (Ek: ∀j v,news[j]? =some v→w.cell? (a.add j)=some v)
  (h0:0<n) (El:(n:Int)≤9223372036854775807) (Em:n*i.bytes≤281474976710656):
  (Builtin.append_ #[t,t] ty #[.slice a0 0 0,.slice (some a) n c]).run P w=
   .ok (.slice (some ⟨w.heap.size,0,none⟩) n (grownCap w n 0 e)) (w.drew.alloc (.cells (news.toArray++Builtin.zeroCells z.cells (grownCap w n 0 e-n)) e)):=by
 cases a0 with
 | none=>exact run_append_nil w t ty e i z ht hi hz a n c news hl Ek h0 El Em
 | some b=>
  have:=run_append_grow (P:=P) w t ty e i z ht hi hz b 0 0 [] (by simp) (by simp) a n c news hl Ek (by omega) (by omega) (by rw[gY,nextslicecap_zero h0];omega)
  simpa using this
theorem IW (S:aF P w I β hp B M w0) {t ty e:TypeId} {nb:Nat} {x:Value} {xs:List V} (hu:P.underlying t=some (.slice e)) (au:cS P e=true) (hn:hp nb=none)
  (dV:xs.length*P.bytesOf e≤bP) {a0:Option Addr} (hx:((∃a,x= .slice a 0 0)∧xs=[])∨∃a c news,Row P w I e x xs a c news):
  ∃v w' β',(Builtin.append_ #[t,t] ty #[.slice a0 0 0,x]).run P w= .ok v w'∧Le P w I β hp w' I β' (aI hp nb (some (.arr e xs false)))∧aF P w' I β' (aI hp nb (some (.arr e xs false))) B M w0∧
   ao P w' I β' (aI hp nb (some (.arr e xs false))) v (.whole e nb):=by
 obtain ⟨i,z,hi,hz,h3,h4,_⟩:=kL au
 have uk:=wh au
 have mL:P.bytesOf e=i.bytes:=by simp[Program.bytesOf,hi]
 have hlen:xs.length≤2^45:=by
  have:xs.length*1≤xs.length*P.bytesOf e:=tA _ uk
  simp only[bP] at dV
  omega
 have empty:xs=[]→(∃a c,x= .slice a 0 c)→∃v w' β',(Builtin.append_ #[t,t] ty #[.slice a0 0 0,x]).run P w= .ok v w'∧Le P w I β hp w' I β' (aI hp nb (some (.arr e xs false)))∧aF P w' I β' (aI hp nb (some (.arr e xs false))) B M w0∧
   ao P w' I β' (aI hp nb (some (.arr e xs false))) v (.whole e nb):=by
  intro gN IX
  subst gN
  obtain ⟨a1,a2⟩:=DW S e hn
  exact ⟨_,_,_,O2 hu hi a0 0 0 x IX (b9 _),a1,a2,.dI (cW _ _ _) (cW _ _ _)⟩
 rcases hx with ⟨⟨_,rfl⟩,rfl⟩|⟨a,c,news,hr⟩
 ·exact empty rfl ⟨_,_,rfl⟩
 ·by_cases h0:xs.length=0
  ·have gN:xs=[]:=lJ h0
   refine empty gN ⟨some a,c,?_⟩
   rw[hr.val,h0]
  ·have cX:=YX (P:=P) w t ty e i z hu hi hz a0 a xs.length c news (by rw[hr.len,h3]) hr.cell (by omega) (by omega) (by rw[←mL];simp only[bP] at dV;omega)
   have pQ:=grownCap_ge w xs.length 0 e
   have um:grownCap w xs.length 0 e≤maxLen:=grownCap_le_maxLen w xs.length 0 e (by simp only[maxLen];omega)
   obtain ⟨n1,n2,n3⟩:=wJ S.drew (nb:=nb) (cap:=grownCap w xs.length 0 e) (es:=xs) (C0:=news.toArray++Builtin.zeroCells z.cells (grownCap w xs.length 0 e-xs.length)) au hn
    (by simp only[De,qp,size_zeroCells,h4,hr.len,←dw];congr 1;omega) pQ um
    (fun i' j y t' hy ht hj=>by
     obtain ⟨u,fY,hp⟩:=hr.el i' j y t' hy ht hj
     have aN:=(bz.1 fY).1
     refine ⟨u,?_,Pure.drew hp⟩
     rw[Array.getElem?_append_left (by simpa using aN)]
     simpa using fY)
   rw[hr.val]
   exact ⟨_,_,_,cX,(Le.drew w I β hp).trans n1,n2,n3⟩
theorem YY (S:aF P w I β hp B M w0) {t ty e:TypeId} {nb:Nat} {s x:Value} {sv xv:V} {r:R} {rd:List Nat} (hu:P.underlying t=some (.slice e)) (hs:ao P w I β hp s sv) (hx:ao P w I β hp x xv)
  (h:(vX P nb e sv xv).run C hp=some (r,rd)):c6 P ((Builtin.append_ #[t,t] ty #[s,x]).run P w) w I β hp B M w0 r:=by
 unfold vX at h
 obtain ⟨au,h⟩:=aG h
 obtain ⟨xs,l7,l0,h⟩:=Ei S.h.rel au hx h
 cases sv with
 | nilS e'=>
  obtain ⟨hc,h⟩:=aG h
  simp only[aM,aU,cV] at hc
  obtain ⟨hn,rfl⟩:=nJ h
  obtain ⟨a0,rfl⟩: ∃a0,s= .slice a0 0 0:=by cases hs;exact ⟨_,rfl⟩
  obtain ⟨v,w',β',a1,a2,a3,a4⟩:=IW (ty:=ty) S hu au hn hc.2 l7
  exact ⟨v,w',I,β',a1,a2,a3,a4⟩
 | whole e' id=>
  obtain ⟨l,h⟩:=run_get h
  cases ab:hp id with
  | none=>rw[ab] at h;cases h
  | some blk=>
   rw[ab] at h
   cases blk with
   | dead=>cases h
   | var _=>cases h
   | nest _ _ _=>cases h
   | map _ _=>cases h
   | arr dG es fz=>
    cases fz with
    | true=>cases h
    | false=>
     obtain ⟨hc,h⟩:=aG h
     obtain ⟨hn,rfl⟩:=nJ h
     simp only[aM,aU,cV] at hc
     obtain ⟨IY,IZ,dV⟩:=hc
     subst IY
     subst IZ
     have bD:nb≠id:=fun e=>by rw[e,ab] at hn;cases hn
     obtain ⟨k1,k2⟩:=DX S ab
     have kM:aI hp id (some an.dead) nb=none:=by rw[eo _ _ bD];exact hn
     cases hs with
     | ek hd=>rw[ab] at hd;cases hd
     | eD hd=>rw[ab] at hd;cases hd
     | dI hd hb=>
      rw[ab] at hd
      cases hd
      simp only[List.length_nil,gY] at dV
      have YZ:((∃a,x= .slice a 0 0)∧xs=[])∨∃a c news,Row P w I e x xs a c news:=l7
      obtain ⟨v,w',β',a1,a2,a3,a4⟩:=IW (ty:=ty) k2 hu au kM dV YZ
      exact ⟨v,w',I,β',a1,k1.trans a2,a3,a4⟩
     | @whole _ _ aK nz b cap hd hb ba cf hm=>
      rw[ab] at hd
      cases hd
      have hr:=S.h.rel id _ ab
      cases hr with
      | dJ aB=>rw[aB] at hb;cases hb
      | @arr _ _ _ b' Ca _ aB hh pS hf en mM=>
       rw[hb] at aB
       cases aB
       obtain ⟨i,z,hi,hz,h3,h4,_⟩:=kL au
       have uk:=wh au
       have mL:P.bytesOf e=i.bytes:=by simp[Program.bytesOf,hi]
       have hlen:es.length+xs.length≤2^45:=by
        have:(es.length+xs.length)*1≤(es.length+xs.length)*P.bytesOf e:=tA _ uk
        simp only[bP] at dV
        omega
       rw[nD hh] at ba
       have qM: ∀aD blk',aI hp id (some an.dead) aD=some blk'→¬bA P w (β aD) blk' b:=by
        intro aD blk' h1 U
        by_cases ji:aD=id
        ·subst ji;rw[cW] at h1;cases h1;exact U.alive rfl
        ·rw[eo _ _ ji] at h1
         exact ji (S.h.inj aD id blk' _ b h1 ab U (.root (by simp) hb))
       have I0:=S.h.sw id _ b ab (by simp) hb
       have room: ∀(C':Array Value) (w':World) (ys:List V),w'.heap[b]? =some (.cells C' e (0,0))→C'.size=Ca.size→(∀b',b'≠b→w'.heap[b']? =w.heap[b']?)→w.heap.size≤w'.heap.size→(w'.os=w.os∧w'.output=w.output)→ys.length≤cap→
         (∀(i j:Nat) (y:V) (t':TypeId),ys[i]? =some y→(aX P e)[j]? =some t'→j<P.cellsOf e→∃v,C'[i*P.cellsOf e+j]? =some v∧Pure P w I t' v (bN P e y j))→
         Le P w I β hp w' I (aI β nb (some b)) (aI (aI hp id (some .dead)) nb (some (.arr e ys false)))∧aF P w' I (aI β nb (some b)) (aI (aI hp id (some .dead)) nb (some (.arr e ys false))) B M w0∧
         ao P w' I (aI β nb (some b)) (aI (aI hp id (some .dead)) nb (some (.arr e ys false))) (.slice (some ⟨b,0,none⟩) ys.length cap) (.whole e nb):=by
        intro C' w' ys hC oQ Y0 Y1 Y2 ug hy
        obtain ⟨a1,a2⟩:=zU k2 (blk:= .arr e ys false) (w':=w') kM qM (en rfl) (fun b' h _=>Y0 b' h) Y1 Y2 I0
         (fun b' h=>(dh (h.flat (by simp))).symm) (fun hle=> .arr au rfl hC (by rw[oQ,←ba];exact dF _ ug) (fun h=>by cases h) (fun _=>en rfl) fun i j y t' a b c=>by
          obtain ⟨v,hv,hp⟩:=hy i j y t' a b c
          exact ⟨v,hv,hp.mono hle.dm hle.cj⟩)
        refine ⟨k1.trans a1,a2,.whole (cW _ _ _) (cW _ _ _) ?_ ug hm⟩
        rw[nD hC,oQ,ba]
       have same:xs=[]→(∃a c,x= .slice a 0 c)→c6 P ((Builtin.append_ #[t,t] ty #[.slice (some ⟨b,0,none⟩) es.length cap,x]).run P w) w I β hp B M w0 ⟨.whole e nb,[(nb,.arr e (es++xs) false),(id,.dead)]⟩:=by
        intro gN IX
        subst gN
        rw[cR]
        obtain ⟨a1,a2,a3⟩:=room Ca w es hh rfl (fun _ _=>rfl) (b9 _) ⟨rfl,rfl⟩ cf mM
        exact ⟨_,_,_,_,O2 hu hi _ _ _ x IX cf,a1,a2,a3⟩
       rcases l7 with ⟨⟨_,rfl⟩,rfl⟩|⟨a,c,news,cG⟩
       ·exact same rfl ⟨_,_,rfl⟩
       ·have h1:=cG.one au
        have lZ:es.length*P.cellsOf e≤Ca.toList.length:=by simpa using pS
        by_cases sG:es.length+xs.length≤cap
        ·have Ad:es.length*P.cellsOf e+news.length≤Ca.size:=by rw[cG.len,←dw,←ba];exact dF _ sG
         have cX:=run_append_room (P:=P) w t ty e i hu hi b es.length cap Ca hh a xs.length c news (by rw[cG.len,h3]) cG.cell h1 sG (by rw[h3];exact Ad)
         rw[h3] at cX
         have cT:=Ej (P:=P) (w:=w) (I:=I) (n:=es.length) (c:=Ca.toList) rfl (fun i j y t' a b c=>by
          obtain ⟨v,hv,hp⟩:=mM i j y t' a b c
          exact ⟨v,by simpa using hv,hp⟩) cG.el lZ (Ca.toList.drop (es.length*P.cellsOf e+news.length))
         obtain ⟨a1,a2,a3⟩:=room (Ca.toList.take (es.length*P.cellsOf e)++news++Ca.toList.drop (es.length*P.cellsOf e+news.length)).toArray (w.setRow b _) (es++xs)
          (setRow_heap w b Ca _ e _ hh) (by simp;omega) (fun b' aB=>setRow_other w b b' _ aB) (by simp) ⟨rfl,rfl⟩ (by simpa using sG)
          (fun i j y t' a b c=>by
           obtain ⟨v,hv,hp⟩:=cT i j y t' a b c
           exact ⟨v,by simpa using hv,hp⟩)
         rw[cG.val]
         rw[bZ] at a3
         exact ⟨_,_,_,_,cX,a1,a2,a3⟩
        ·have hold: ∀(j:Nat) v,(Ca.toList.take (es.length*P.cellsOf e))[j]? =some v→w.cell? ((⟨b,0,none⟩:Addr).add j)=some v:=by
          intro j v hj
          have cl:=(bz.1 hj).1
          have gu:j<es.length*P.cellsOf e:=by rw[fe] at cl;omega
          rw[fc gu] at hj
          rw[nG,cell?_cells hh,gY]
          simpa using hj
         have cX:=run_append_grow (P:=P) w t ty e i z hu hi hz ⟨b,0,none⟩ es.length cap (Ca.toList.take (es.length*P.cellsOf e)) (by rw[h3];simp;omega) hold a xs.length c news (by rw[cG.len,h3]) cG.cell (by omega) (by omega)
          (growslice_fits (by omega) (by rw[←mL];simp only[bP] at dV;omega))
         have pQ:=grownCap_ge w (es.length+xs.length) cap e
         have um:grownCap w (es.length+xs.length) cap e≤maxLen:=grownCap_le_maxLen w _ cap e (by simp only[maxLen];omega)
         have cT:=Ej (P:=P) (w:=w) (I:=I) (n:=es.length) (c:=Ca.toList) rfl (fun i j y t' a b c=>by
          obtain ⟨v,hv,hp⟩:=mM i j y t' a b c
          exact ⟨v,by simpa using hv,hp⟩) cG.el lZ (Builtin.zeroCells z.cells (grownCap w (es.length+xs.length) cap e-(es.length+xs.length))).toList
         obtain ⟨n1,n2,n3⟩:=wJ k2.drew (nb:=nb) (cap:=grownCap w (es.length+xs.length) cap e) (es:=es++xs)
          (C0:=(Ca.toList.take (es.length*P.cellsOf e)).toArray++news.toArray++Builtin.zeroCells z.cells (grownCap w (es.length+xs.length) cap e-(es.length+xs.length))) au kM
          (by
           have e1:(Ca.toList.take (es.length*P.cellsOf e)).length=es.length*P.cellsOf e:=by simp;omega
           simp only[De,qp,size_zeroCells,h4,cG.len,e1,←dw];congr 1;omega) (by simpa using pQ) um
          (fun i j y t' a b c=>by
           obtain ⟨v,hv,hp⟩:=cT i j y t' a b c
           refine ⟨v,?_,Pure.drew hp⟩
           rw[←r0]
           simpa using hv)
         rw[cG.val]
         rw[bZ] at n3
         exact ⟨_,_,_,_,cX,(k1.trans (Le.drew w I β _)).trans n1,n2,n3⟩
 | _=>cases h
end
section
variable {P:Program} {w w':World} {I I':Nat→Prop} {β β':Nat→Option Nat} {hp hp':Nat→Option an} {C:ag} {B:Nat} {M:Nat→Prop} {w0:Start}
theorem run_copy_none (w:World) {dT sT ty elem:TypeId} {i:TypeInfo} (a0:Option Addr) (O3 Y3:Nat) (a1:Option Addr) (O4 Y4:Nat) (hu:P.underlying dT=some (.slice elem)) (hi:P.info? elem=some i) (h0:Nat.min O4 O3=0):
  (Builtin.copy_ #[dT,sT] ty #[.slice a0 O3 Y3,.slice a1 O4 Y4]).run P w= .ok (goInt 0) w:=by
 cases a0<;>cases a1<;>simp[Builtin.copy_,run_underlying hu,Builtin.lenOf,Builtin.firstCells,sizeOf,typeInfo,hi,h0,storeCells,loadCells,loadCellsFrom]
theorem Y5 (S:aF P w I β hp B M w0) {t u ty e:TypeId} {s x:Value} {sv xv:V} {r:R} {rd:List Nat} (hu:P.underlying t=some (.slice e)) (hs:ao P w I β hp s sv) (hx:ao P w I β hp x xv)
  (h:(H3 P e sv xv).run C hp=some (r,rd)):c6 P ((Builtin.copy_ #[t,u] ty #[s,x]).run P w) w I β hp B M w0 r:=by
 unfold H3 at h
 obtain ⟨au,h'⟩:=aG h
 clear h
 simp only[aM,aU] at au
 obtain ⟨au,h1⟩:=au
 obtain ⟨xs,l7,l0,h⟩:=Ei S.h.rel au hx h'
 obtain ⟨i,z,hi,hz,ba,_⟩:=kL au
 cases sv<;>simp only at h<;>first|(cases h;done)|skip
 rename_i e' id
 obtain ⟨l,U⟩:=run_get h
 clear h
 cases ab:hp id with
 | none=>rw[ab] at U;cases U
 | some blk=>
  rw[ab] at U
  cases blk<;>simp only at U<;>first|(cases U;done)|skip
  rename_i e2 es fz
  cases fz with
  | true=>cases U
  | false=>
  obtain ⟨hc,h3⟩:=aG U
  simp only[aM,aU] at hc
  obtain ⟨rfl,rfl⟩:=hc
  obtain rfl:=aO h3
  have nK:min xs.length es.length=0→(Builtin.copy_ #[t,u] ty #[s,x]).run P w= .ok (goInt 0) w→c6 P ((Builtin.copy_ #[t,u] ty #[s,x]).run P w) w I β hp B M w0 ⟨.int .i64 (min xs.length es.length:Nat),[(id,.arr e (xs.take es.length++es.drop xs.length) false)]⟩:=by
   intro h0 hr
   have he:xs.take es.length++es.drop xs.length=es:=by
    rcases Nat.le_total xs.length es.length with hl|hl
    ·have:xs=[]:=lJ (by omega)
     simp[this]
    ·have:es=[]:=lJ (by omega)
     simp[this]
   have gq:bM hp [(id,.arr e (xs.take es.length++es.drop xs.length) false)]=hp:=by
    rw[he];exact Ie hp id _ ab
   refine ⟨goInt 0,w,I,β,hr,?_⟩
   simp only[gq,h0]
   exact ⟨Le.refl w I β hp,S,.int⟩
  cases hs with
  | ek hd=>rw[ab] at hd;cases hd
  | eD hd=>rw[ab] at hd;cases hd
  | @dI _ _ fz a hd hb=>
   rw[ab] at hd
   cases hd
   refine nK (by simp) ?_
   rcases l7 with ⟨⟨a',rfl⟩,rfl⟩|⟨a',c,news,cG⟩
   ·exact run_copy_none w _ _ _ _ _ _ hu hi (by simp)
   ·rw[cG.val];exact run_copy_none w _ _ _ _ _ _ hu hi (by simp)
  | @whole _ _ aK nz b cap hd hb Ae cf hm=>
   have eT:=hd
   rw[ab] at hd
   cases hd
   rcases l7 with ⟨⟨a',rfl⟩,rfl⟩|⟨a',c,news,cG⟩
   ·exact nK (by simp) (run_copy_none w _ _ _ _ _ _ hu hi (by simp))
   have hr:=S.h.rel id _ ab
   cases hr with
   | dJ aB=>rw[aB] at hb;cases hb
   | @arr _ _ _ b' Ca _ aB hh pS hf en mM=>
    rw[hb] at aB
    cases aB
    have kK:news.length=xs.length:=by rw[cG.len,h1,nq]
    rw[h1,nq] at pS
    have lp:(news.take es.length).length=Nat.min xs.length es.length:=by
     rw[fe,kK,Nat.min_comm]
    have O5:Nat.min xs.length es.length=min xs.length es.length:=rfl
    have cX:=run_copy_row (P:=P) w t u ty e b 0 es.length cap a' xs.length c Ca e (news.take es.length) hu (by rw[hi];simp[ba,h1]) hh lp
     (fun j v hj=>cG.cell j v (by
      have:=(bz.1 hj).1
      rw[fe] at this
      rwa [fc (by omega)] at hj)) (by rw[lp,O5];omega) (fun v hv=>cG.one au v (List.mem_of_mem_take hv))
    rw[cG.val]
    have hq:(goInt (news.take es.length).length)= .int .i64 ((min xs.length es.length:Nat):Int):=by rw[lp];rfl
    have jG:(xs.take es.length++es.drop xs.length).length=es.length:=by simp;omega
    have oQ:(Ca.toList.take 0++news.take es.length++Ca.toList.drop (0+(news.take es.length).length)).toArray.size=Ca.size:=by
     simp only[qp,bZ,pw,fe,lp,O5]
     simp
     omega
    obtain ⟨a1,a2⟩:=D7 S (blk':= .arr e (xs.take es.length++es.drop xs.length) false) (Cb:=(Ca.toList.take 0++news.take es.length++Ca.toList.drop (0+(news.take es.length).length)).toArray) ab (by simp) ⟨rfl,jG.symm⟩ hb (en rfl) (by simp) hh oQ
     (fun hle e6=> .arr au rfl e6 (by rw[oQ,jG,h1,nq];exact pS) (fun h=>by cases h) (fun _=>en rfl) fun i j y t' hy ht hj=>by
      rw[h1] at hj⊢
      obtain rfl:j=0:=by omega
      rw[nq,Nat.add_zero]
      have qX:=(bz.1 hy).1
      rw[jG] at qX
      by_cases bI:i<xs.length
      ·rw[iU (by rw[fe];omega),fc qX] at hy
       obtain ⟨u',k1,k2⟩:=cG.el i 0 y t' hy ht (by omega)
       rw[h1,nq,Nat.add_zero] at k1
       refine ⟨u',?_,k2.mono hle.dm hle.cj⟩
       simp only[List.take_zero,List.nil_append,np]
       rw[iU (by rw[fe];omega),fc qX]
       exact k1
      ·have e1:(xs.take es.length).length=xs.length:=by rw[fe];omega
       rw[iW (by omega),e1,iy,show xs.length+(i-xs.length)=i by omega] at hy
       obtain ⟨u',k1,k2⟩:=mM i 0 y t' hy ht (by omega)
       rw[h1,nq,Nat.add_zero] at k1
       refine ⟨u',?_,k2.mono hle.dm hle.cj⟩
       simp only[List.take_zero,List.nil_append,np,gY]
       have e2:(news.take es.length).length=xs.length:=by rw[fe];omega
       rw[iW (by omega),e2,iy,show xs.length+(i-xs.length)=i by omega]
       simpa using k1)
    exact ⟨_,_,_,_,cX,a1,a2,by rw[hq];exact .int⟩
theorem Y6 (S:aF P w I β hp B M w0) {t ty e:TypeId} {x:Value} {xv:V} {r:R} {rd:List Nat} (hu:P.underlying t=some (.slice e)) (hx:ao P w I β hp x xv)
  (h:(H2 P e xv).run C hp=some (r,rd)):c6 P ((Builtin.clear_ #[t] ty #[x]).run P w) w I β hp B M w0 r:=by
 unfold H2 at h
 obtain ⟨cT,h'⟩:=aG h
 clear h
 have au:cS P e=true:=by
  unfold mB at cT;simp only[aM] at cT;exact cT.1
 obtain ⟨i,z,hi,hz,ba,Af,Y7⟩:=Ac (w:=w) (I:=I) cT
 have jE:=(kH au).2
 cases xv<;>simp only at h'<;>first|(cases h';done)|skip
 rename_i e' id off len
 obtain ⟨l,U⟩:=run_get h'
 clear h'
 cases ab:hp id with
 | none=>rw[ab] at U;cases U
 | some blk=>
  rw[ab] at U
  cases blk<;>simp only at U<;>first|(cases U;done)|skip
  rename_i e2 es fz
  cases fz with
  | true=>cases U
  | false=>
  obtain ⟨hc,h3⟩:=aG U
  simp only[aM,aU] at hc
  obtain ⟨rfl,rfl⟩:=hc
  obtain rfl:=aO h3
  have nK:len=0→(Builtin.clear_ #[t] ty #[x]).run P w= .ok (.tuple #[]) w→c6 P ((Builtin.clear_ #[t] ty #[x]).run P w) w I β hp B M w0 ⟨.bm [],[(id,.arr e (es.take off++(List.replicate len (cB P e (eR P e))++es.drop (off+len))) false)]⟩:=by
   intro h0 hr
   subst h0
   have gq:bM hp [(id,.arr e (es.take off++(List.replicate 0 (cB P e (eR P e))++es.drop (off+0))) false)]=hp:=by
    simp only[List.replicate_zero,List.nil_append,Nat.add_zero,Df]
    exact Ie hp id _ ab
   refine ⟨.tuple #[],w,I,β,hr,?_⟩
   simp only[gq]
   exact ⟨Le.refl w I β hp,S,.bm rfl fun j v x hj hx=>by simp at hx⟩
  cases hx with
  | gn hd=>rw[ab] at hd;cases hd
  | @fX _ _ _ a0 hd hb=>exact nK rfl (by cases a0<;>simp[Builtin.clear_,run_underlying hu])
  | @sub _ _ _ _ aK nz b o cap hd hb lh cf ho=>
   by_cases hlen:len=0
   ·refine nK hlen ?_
    subst hlen
    simp[Builtin.clear_,run_underlying hu]
   have Y8:0<len:=by omega
   have eT:=hd
   rw[ab] at hd
   cases hd
   have hr:=S.h.rel id _ ab
   cases hr with
   | dJ aB=>rw[aB] at hb;cases hb
   | @arr _ _ _ b' Ca _ aB hh pS hf en mM=>
    rw[hb] at aB
    cases aB
    have ho:=ho Y8
    subst ho
    have uj:(Builtin.zeroCells z.cells len).toList.length=len*P.cellsOf e:=by rw[Array.length_toList,size_zeroCells,Af]
    have hmul:off*P.cellsOf e+len*P.cellsOf e≤es.length*P.cellsOf e:=by rw[←dw];exact dF _ lh
    have qU: ∀v∈(Builtin.zeroCells z.cells len).toList,v.oneCell'=true:=by
     intro v hv
     obtain ⟨k,hk⟩:=rZ hv
     have fq:=(bz.1 hk).1
     rw[uj] at fq
     have Y9:(Builtin.zeroCells z.cells len)[k]? =z.cells[k %z.cells.size]? :=OZ (z:=z.cells) (n:=len*z.cells.size) (by rw[Af];exact fq) (by rw[Af];exact jE)
     rw[r0,Y9] at hk
     have hm:k %z.cells.size<P.cellsOf e:=by rw[Af];exact Nat.mod_lt _ jE
     have Za:k %z.cells.size<(aX P e).length:=by rw[fI au];exact hm
     obtain ⟨v',wv,hp'⟩:=Y7 (k %z.cells.size) _ (bC Za) hm
     rw[hk] at wv
     cases wv
     generalize bN P e (cB P e (eR P e)) (k %z.cells.size)=y at hp'
     cases hp'<;>rfl
    have bQ:=run_storeCells_at P b (off*P.cellsOf e) e (Builtin.zeroCells z.cells len).toList 0 Ca w hh (by rw[uj];omega) qU
    simp only[Nat.add_zero] at bQ
    have cX:(Builtin.clear_ #[t] ty #[.slice (some ⟨b,off*P.cellsOf e,none⟩) len cap]).run P w= .ok (.tuple #[]) (w.setRow b (Ca.toList.take (off*P.cellsOf e)++(Builtin.zeroCells z.cells len).toList++Ca.toList.drop (off*P.cellsOf e+(Builtin.zeroCells z.cells len).toList.length)).toArray):=by
     obtain ⟨n,rfl⟩: ∃n,len=n+1:=⟨len-1,by omega⟩
     simp[Builtin.clear_,run_underlying hu,zeroValue,typeInfo,hi,hz,bQ]
    have jG:(es.take off++(List.replicate len (cB P e (eR P e))++es.drop (off+len))).length=es.length:=by simp;omega
    have oQ:(Ca.toList.take (off*P.cellsOf e)++(Builtin.zeroCells z.cells len).toList++Ca.toList.drop (off*P.cellsOf e+(Builtin.zeroCells z.cells len).toList.length)).toArray.size=Ca.size:=by
     simp only[qp,bZ,pw,fe,uj,Array.length_toList]
     omega
    obtain ⟨a1,a2⟩:=D7 S (blk':= .arr e (es.take off++(List.replicate len (cB P e (eR P e))++es.drop (off+len))) false) ab (by simp) ⟨rfl,jG.symm⟩ hb (en rfl) (by simp) hh oQ
     (fun hle e6=> .arr au rfl e6 (by rw[oQ,jG];exact pS) (fun h=>by cases h) (fun _=>en rfl) fun i' j y t' hy ht hj=>by
      have ia:=nH es (List.replicate len (cB P e (eR P e))) off i' (by simp;omega)
      rw[tB] at ia
      rw[ia] at hy
      have hC:(Ca.toList.take (off*P.cellsOf e)++(Builtin.zeroCells z.cells len).toList++Ca.toList.drop (off*P.cellsOf e+(Builtin.zeroCells z.cells len).toList.length)).toArray[i'*P.cellsOf e+j]? =
        if i'*P.cellsOf e+j<off*P.cellsOf e then Ca.toList[i'*P.cellsOf e+j]? else if i'*P.cellsOf e+j<off*P.cellsOf e+len*P.cellsOf e then (Builtin.zeroCells z.cells len).toList[i'*P.cellsOf e+j-off*P.cellsOf e]? else Ca.toList[i'*P.cellsOf e+j]? :=by
       have:=nH Ca.toList (Builtin.zeroCells z.cells len).toList (off*P.cellsOf e) (i'*P.cellsOf e+j) (by rw[uj,Array.length_toList];omega)
       rw[np,cx,this,uj]
      by_cases I1:i'<off
      ·rw[aj I1] at hy
       have:(i'+1)*P.cellsOf e≤off*P.cellsOf e:=dF _ I1
       rw[dw] at this
       rw[aj (by omega)] at hC
       obtain ⟨u,k1,k2⟩:=mM i' j y t' hy ht hj
       exact ⟨u,hC.trans (by simpa using k1),k2.mono hle.dm hle.cj⟩
      ·rw[ai I1] at hy
       have h1:off*P.cellsOf e≤i'*P.cellsOf e:=dF _ (by omega)
       rw[ai (by omega)] at hC
       by_cases hZ:i'<off+len
       ·rw[aj hZ] at hy
        have:(i'+1)*P.cellsOf e≤(off+len)*P.cellsOf e:=dF _ hZ
        rw[dw,dw] at this
        rw[aj (by omega)] at hC
        obtain ⟨v,k1,k2⟩:=Eh (w:=w) (I:=I) cT hi hz len len (b9 _) (i'-off) j y t' hy ht hj
        refine ⟨v,hC.trans ?_,k2.mono hle.dm hle.cj⟩
        rw[show i'*P.cellsOf e+j-off*P.cellsOf e=(i'-off)*P.cellsOf e+j by rw[Nat.sub_mul];omega,r0]
        unfold Builtin.zeroCells
        rw[Af] at k1⊢
        exact k1
       ·rw[ai hZ] at hy
        have:(off+len)*P.cellsOf e≤i'*P.cellsOf e:=dF _ (by omega)
        rw[dw] at this
        rw[ai (by omega)] at hC
        obtain ⟨u,k1,k2⟩:=mM i' j y t' hy ht hj
        exact ⟨u,hC.trans (by simpa using k1),k2.mono hle.dm hle.cj⟩)
    exact ⟨_,_,_,_,cX,a1,a2,.bm rfl fun j v x hj hx=>by simp at hx⟩
end
section
variable {P:Program} {w w':World} {I I':Nat→Prop} {β β':Nat→Option Nat} {hp hp':Nat→Option an} {C:ag} {B:Nat} {M:Nat→Prop} {w0:Start}
theorem Zb (S:aF P w I β hp B M w0) {s:TypeId} {f:Nat} {v:Value} {x:V} {r:R} {rd:List Nat} (hv:ao P w I β hp v x)
  (h:(H6 P s f x).run C hp=some (r,rd)):c6 P ((Instr.field s v f).run P w) w I β hp B M w0 r:=by
 unfold H6 Dx at h
 split at h
 ·rename_i fs hu
  cases hf:fs[f]? with
  | none=>rw[hf] at h;cases h
  | some fd=>
   rw[hf] at h
   simp only[vY] at h
   obtain ⟨ht,h⟩:=aG h
   obtain ⟨d,uo⟩:=zY ht
   obtain ⟨i,hi⟩:=wq uo
   have ba:i.size=P.cellsOf fd.type:=by simp[Program.cellsOf,hi]
   cases x with
   | agg xs=>
    obtain ⟨cs,rfl,h1,U⟩:=hv.ll
    dsimp only at h
    cases ha:bL P fd.type with
    | true=>
     rw[ha] at h
     simp only[cond_true] at h
     obtain ⟨hc,h⟩:=aG h
     obtain rfl:=aO h
     rw[cV] at hc
     refine .same S (v:= .agg (cs.extract fd.offset (fd.offset+P.cellsOf fd.type))) ?_ (.agg (by simp;omega) fun j u y fY hy=> ?_)
     ·simp[Instr.field,run_underlying hu,hf,part,Ix uo,ha,asAgg,sizeOf,typeInfo,hi,ba]
     ·have hj:j<P.cellsOf fd.type:=by
       have:=(iz.1 fY).1
       simp at this;omega
      rw[fc hj,iy] at hy
      refine U (fd.offset+j) u y ?_ hy
      rw[Array.getElem?_extract] at fY
      split at fY
      ·exact fY
      ·cases fY
    | false=>
     rw[ha] at h
     simp only[cond_false] at h
     obtain ⟨y,hy,h⟩:=lT h
     obtain rfl:=aO h
     have aN:fd.offset<cs.size:=by rw[h1];exact (bz.1 hy).1
     refine .same S (v:=cs[fd.offset]) ?_ (U _ _ _ (k9 aN) hy)
     simp[Instr.field,run_underlying hu,hf,part,Ix uo,ha,asAgg,aN]
   | _=>cases h
 ·cases h
theorem Zc (S:aF P w I β hp B M w0) {i:Nat} {v:Value} {xs:List V} {r:R} {rd:List Nat} (hv:ao P w I β hp v (.bm xs))
  (h:(Rd.opt xs[i]? fun v=> .ret ⟨v,[]⟩).run C hp=some (r,rd)):c6 P ((Instr.extract v i).run P w) w I β hp B M w0 r:=by
 obtain ⟨cs,rfl,h1,U⟩:=hv.ua
 obtain ⟨y,hy,h⟩:=lT h
 obtain rfl:=aO h
 have aN:i<cs.size:=by rw[h1];exact (bz.1 hy).1
 exact .same S (v:=cs[i]) (by simp[Instr.extract,aN]) (U _ _ _ (k9 aN) hy)
theorem Zd (S:aF P w I β hp B M w0) {t:TypeId} {s:ByteArray} {l:List UInt8} {k:IntKind} {i:Int} {r:R} {rd:List Nat} (hu:P.underlying t=some .string) (hs:s.data.toList=l)
  (h:(Rd.opt (bif decide (0≤i) then (l[i.toNat]?).map fun b=>V.int .u8 b.toNat else none) fun v=> .ret ⟨.int .u8 v.toInt,[]⟩).run C hp=some (r,rd)):
  c6 P ((Instr.index t (.string s) (.int k i)).run P w) w I β hp B M w0 r:=by
 obtain ⟨v,hv,h⟩:=lT h
 obtain rfl:=aO h
 cases hc:decide (0≤i) with
 | false=>rw[hc] at hv;cases hv
 | true=>
  rw[hc] at hv
  simp only[cond_true] at hv
  have h0:0≤i:=by simpa using hc
  cases hb:l[i.toNat]? with
  | none=>rw[hb] at hv;cases hv
  | some b=>
   rw[hb] at hv
   simp only[Option.map_some,dY] at hv
   subst hv
   have Ze:s[i.toNat]? =some b:=by
    subst hs
    obtain ⟨aN,he⟩:=bz.1 hb
    have I4:i.toNat<s.size:=by simpa using aN
    rw[getElem?_pos s i.toNat I4]
    congr 1
   refine .same S (v:= .int .u8 b.toNat) ?_ .int
   simp[Instr.index,asIntOf,run_underlying hu,h0,Ze]
theorem I5 (S:aF P w I β hp B M w0) (mx:Bool): ∀{vs:List Value} {xs:List V} {v:Value} {x:V} {r:R} {rd:List Nat},ao P w I β hp v x→vs.length=xs.length→
  (∀(j:Nat) u y,vs[j]? =some u→xs[j]? =some y→ao P w I β hp u y)→(vZ mx x xs).run C hp=some (r,rd)→
  c6 P ((vs.foldlM (if mx then Builtin.max2 else Builtin.min2) v).run P w) w I β hp B M w0 r
 | [],[],v,x,r,rd,hv,_,_,h=>by
  have:r=⟨x,[]⟩:=by
   cases x<;>(simp only[vZ] at h;exact (aO h).symm)
  subst this
  exact .same S (by simp) hv
 | [],_::_,v,x,r,rd,hv,hl,_,h=>by simp at hl
 | _::_,[],v,x,r,rd,hv,hl,_,h=>by simp at hl
 | u::vs,y::xs,v,x,r,rd,hv,hl,hx,h=>by
  cases x<;>cases y<;>simp only[vZ] at h<;>first|(cases h;done)|skip
  rename_i k a k' b
  obtain ⟨hc,h4⟩:=aG h
  clear h
  obtain rfl:k=k':=by simpa using hc
  have hu:=hx 0 u _ rfl rfl
  rw[hv.dU,hu.dU]
  have ih:=I5 S mx (vs:=vs) (xs:=xs) (v:= .int k (bif mx then (if b>a then b else a) else (if b<a then b else a))) .int (by simpa using hl)
   (fun j u y h1 U=>hx (j+1) u y (by simpa using h1) (by simpa using U)) h4
  cases mx with
  | true=>simpa[List.foldlM_cons,Builtin.max2] using ih
  | false=>simpa[List.foldlM_cons,Builtin.min2] using ih
theorem qY {n cap:Nat} {isS:Bool} {lo hi:Option V} {lov hiv:Option Value} {k:Nat→Nat→Rd R} {r:R} {rd:List Nat} (hn:n≤cap)
  (jk: ∀x,lo=some x→∃v,lov=some v∧ao P w I β hp v x) (ib: ∀x,hi=some x→∃v,hiv=some v∧ao P w I β hp v x) (nL:lo=none→lov=none) (oR:hi=none→hiv=none)
  (h:(sj n lo hi k).run C hp=some (r,rd)): ∃l u,l≤u∧u≤n∧(Instr.sliceBounds isS n cap lov hiv none).run P w= .ok (l,u,cap) w∧(k l u).run C hp=some (r,rd):=by
 have ok: ∀(kk:IntKind) (i:Int) (y:Nat) (c:BoundsCode),0≤i→i≤y→(Instr.sliceBound (.int kk i) y c).run P w= .ok i.toNat w:=by
  intro kk i y c h1 U
  simp[Instr.sliceBound,asIntOf,h1,U]
 unfold sj at h
 cases lo with
 | none=>
  rw[nL rfl]
  cases hi with
  | none=>
   rw[oR rfl]
   exact ⟨0,n,k0 _,b9 _,by simp[Instr.sliceBounds],h⟩
  | some x=>
   obtain ⟨v,rfl,hv⟩:=ib x rfl
   cases x<;>simp only at h<;>first|(cases h;done)|skip
   rename_i kk u
   obtain ⟨hc,h⟩:=aG h
   simp only[aM,eg] at hc
   rw[hv.dU]
   have:=ok kk u cap (if isS then .sliceAcap else .sliceAlen) hc.1 (by omega)
   exact ⟨0,u.toNat,k0 _,by omega,by simp[Instr.sliceBounds,this],h⟩
 | some x=>
  obtain ⟨v,rfl,hv⟩:=jk x rfl
  cases hi with
  | none=>
   rw[oR rfl]
   cases x<;>simp only at h<;>first|(cases h;done)|skip
   rename_i kk l
   obtain ⟨hc,h⟩:=aG h
   simp only[aM,eg] at hc
   rw[hv.dU]
   have:=ok kk l n .sliceB hc.1 (by omega)
   exact ⟨l.toNat,n,by omega,b9 _,by simp[Instr.sliceBounds,this],h⟩
  | some y=>
   obtain ⟨v2,rfl,qJ⟩:=ib y rfl
   cases x<;>cases y<;>simp only at h<;>first|(cases h;done)|skip
   rename_i kk l Zf u
   obtain ⟨hc,h⟩:=aG h
   simp only[aM,eg] at hc
   rw[hv.dU,qJ.dU]
   have h1:=ok Zf u cap (if isS then .sliceAcap else .sliceAlen) (by omega) (by omega)
   have U:=ok kk l u.toNat .sliceB hc.1 (by omega)
   exact ⟨l.toNat,u.toNat,by omega,by omega,by simp[Instr.sliceBounds,h1,U],h⟩
theorem En {a:Option Addr} {t e:TypeId} {i:TypeInfo} (hu:P.underlying t=some (.slice e)) (hi:P.info? e=some i) {lov hiv:Option Value}
  (hb:(Instr.sliceBounds true 0 0 lov hiv none).run P w= .ok (0,0,0) w):(Instr.sliceAt t (.slice a 0 0) lov hiv none).run P w= .ok (.slice a 0 0) w:=by
 cases a<;>simp[Instr.sliceAt,Instr.slice,run_underlying hu,hb,sizeOf,typeInfo,hi]
theorem I6 {t e:TypeId} {i:TypeInfo} {b o len cap l u:Nat} (hu:P.underlying t=some (.slice e)) (hi:P.info? e=some i) {lov hiv:Option Value} (huc:u≤cap)
  (hb:(Instr.sliceBounds true len cap lov hiv none).run P w= .ok (l,u,cap) w): ∃o',(0<u-l→o'=o+l*i.size)∧(Instr.sliceAt t (.slice (some ⟨b,o,none⟩) len cap) lov hiv none).run P w= .ok (.slice (some ⟨b,o',none⟩) (u-l) (cap-l)) w:=by
 by_cases hc:cap=l
 ·subst hc
  refine ⟨o,fun h=>by omega,?_⟩
  ·simp[Instr.sliceAt,Instr.slice,run_underlying hu,hb,sizeOf,typeInfo,hi]
 ·refine ⟨o+l*i.size,fun _=>rfl,?_⟩
  simp[Instr.sliceAt,Instr.slice,run_underlying hu,hb,sizeOf,typeInfo,hi,hc,nG]
theorem Zg (s:ByteArray) (l:List UInt8) (h:s.data.toList=l) (a b:Nat):(s.extract a b).data.toList=(l.drop a).take (b-a):=by
 subst h
 simp[ByteArray.data_extract]
theorem Zh (S:aF P w I β hp B M w0) {t:TypeId} {v:Value} {x:V} {lo hi:Option V} {lov hiv:Option Value} {r:R} {rd:List Nat} (hv:ao P w I β hp v x)
  (jk: ∀x,lo=some x→∃v,lov=some v∧ao P w I β hp v x) (ib: ∀x,hi=some x→∃v,hiv=some v∧ao P w I β hp v x) (nL:lo=none→lov=none) (oR:hi=none→hiv=none)
  (h:(DD P t x lo hi).run C hp=some (r,rd)):c6 P ((Instr.sliceAt t v lov hiv none).run P w) w I β hp B M w0 r:=by
 unfold DD at h
 cases hu:P.underlying t with
 | none=>rw[hu] at h;cases h
 | some d=>
  rw[hu] at h
  cases d<;>simp only at h<;>first|(cases h;done)|skip
  case string=>
   cases x<;>simp only at h<;>first|(cases h;done)|skip
   rename_i l
   obtain ⟨s,rfl,hs⟩:=hv.mI
   have ba:l.length=s.size:=by rw[←hs];simp
   obtain ⟨a,u,h1,U,h3,h4⟩:=qY (isS:=false) (cap:=s.size) (by omega) jk ib nL oR h
   obtain rfl:=aO h4
   rw[ba] at h3
   refine .same S (v:= .string (s.extract a u)) ?_ (.str (Zg s l hs a u))
   simp[Instr.sliceAt,Instr.slice,run_underlying hu,h3]
  case slice e=>
   cases x<;>simp only at h<;>first|(cases h;done)|skip
   case list e' es=>
    obtain ⟨hc,h⟩:=aG h
    simp only[aM,aU] at hc
    obtain ⟨dK,au⟩:=hc
    obtain ⟨i,z,eb,_,ba,_⟩:=kL au
    cases hv with
    | list hp'=>
     cases hp' with
     | nil=>
      obtain ⟨a,u,h1,U,h3,h4⟩:=qY (n:=0) (isS:=true) (cap:=0) (b9 _) jk ib nL oR h
      obtain rfl:=aO h4
      obtain rfl:u=0:=by omega
      obtain rfl:a=0:=by omega
      exact .same S (En hu eb h3) (by simpa using ao.list jb.nil)
     | @emp ad cap=>
      obtain ⟨a,u,h1,U,h3,h4⟩:=qY (n:=0) (isS:=true) (cap:=cap) (k0 _) jk ib nL oR h
      obtain rfl:=aO h4
      obtain rfl:u=0:=by omega
      obtain rfl:a=0:=by omega
      refine .same S (v:= .slice (some ad) 0 cap) ?_ (by simpa using ao.list jb.emp)
      by_cases hc:cap=0
      ·subst hc
       simp[Instr.sliceAt,Instr.slice,run_underlying hu,h3,sizeOf,typeInfo,eb]
      ·simp[Instr.sliceAt,Instr.slice,run_underlying hu,h3,sizeOf,typeInfo,eb,hc,Addr.add]
     | @list b o len cap _ g hl cf hI gp hx=>
      obtain ⟨a,u,h1,U,h3,h4⟩:=qY (isS:=true) (cap:=cap) (by omega) jk ib nL oR h
      obtain rfl:=aO h4
      rw[hl] at U h3
      obtain ⟨o',jF,cX⟩:=I6 (b:=b) (o:=o) hu eb (by omega) h3
      have gO:e=e':=dK
      refine .same S cX (.list ?_)
      rw[←gO]
      rw[←gO] at gp hx hI
      have hlen:((es.drop a).take (u-a)).length=u-a:=by simp;omega
      refine .list (fun i j=>g (a+i) j) hlen (by omega) (fun h=>hI (rW h (dF _ (by omega)))) (fun i j hi hj=> ?_) (fun i j y t' hy ht=> ?_)
      ·have:=gp (a+i) j (by omega) hj
       rw[dw,oy,←oy o] at this
       rw[jF (by omega),ba]
       exact this
      ·have hi:i<u-a:=by rw[←hlen];exact (bz.1 hy).1
       rw[fc hi,iy] at hy
       exact hx (a+i) j y t' hy ht
   case whole e' id=>
    obtain ⟨l,h⟩:=run_get h
    cases ab:hp id with
    | none=>rw[ab] at h;cases h
    | some blk=>
     rw[ab] at h
     cases blk<;>simp only at h<;>first|(cases h;done)|skip
     rename_i dG es fz
     obtain ⟨hc,h9⟩:=aG h
     clear h
     simp only[aM,aU] at hc
     obtain ⟨dK,jc,au⟩:=hc
     obtain ⟨i,z,eb,_,ba,_⟩:=kL au
     cases hv with
     | ek hd=>rw[ab] at hd;cases hd
     | eD hd=>rw[ab] at hd;cases hd
     | dI hd hb=>
      rw[ab] at hd
      cases hd
      obtain ⟨a,u,h1,U,h3,h4⟩:=qY (n:=0) (isS:=true) (cap:=0) (b9 _) jk ib nL oR h9
      obtain rfl:=aO h4
      obtain rfl:u=0:=by omega
      obtain rfl:a=0:=by omega
      exact .same S (En hu eb h3) (.fX ab hb)
     | @whole _ _ aK nz b cap hd hb Ae cf hm=>
      have eT:=hd
      rw[ab] at hd
      cases hd
      obtain ⟨a,u,h1,U,h3,h4⟩:=qY (isS:=true) (cap:=cap) cf jk ib nL oR h9
      obtain rfl:=aO h4
      obtain ⟨o',jF,cX⟩:=I6 (b:=b) (o:=0) hu eb (by omega) h3
      have gO:e=e':=dK
      exact .same S cX (.sub eT hb (by omega) (by omega) (fun h=>by rw[jF h,ba,gO,gY]))
   case sub e' id off len=>
    obtain ⟨l,h⟩:=run_get h
    cases ab:hp id with
    | none=>rw[ab] at h;cases h
    | some blk=>
     rw[ab] at h
     cases blk<;>simp only at h<;>first|(cases h;done)|skip
     rename_i dG es fz
     obtain ⟨hc,h⟩:=aG h
     simp only[aM,aU] at hc
     obtain ⟨dK,jc,au⟩:=hc
     obtain ⟨i,z,eb,_,ba,_⟩:=kL au
     cases hv with
     | gn hd=>rw[ab] at hd;cases hd
     | fX hd hb=>
      have eT:=hd
      obtain ⟨a,u,h1,U,h3,h4⟩:=qY (isS:=true) (cap:=0) (b9 _) jk ib nL oR h
      obtain rfl:=aO h4
      obtain rfl:u=0:=by omega
      obtain rfl:a=0:=by omega
      exact .same S (En hu eb h3) (.fX eT hb)
     | @sub _ _ _ _ aK nz b o cap hd hb lh cf ho=>
      have eT:=hd
      obtain ⟨a,u,h1,U,h3,h4⟩:=qY (isS:=true) (cap:=cap) cf jk ib nL oR h
      obtain rfl:=aO h4
      obtain ⟨o',jF,cX⟩:=I6 (b:=b) (o:=o) hu eb (by omega) h3
      have gO:e=e':=dK
      exact .same S cX (.sub eT hb (by omega) (by omega) (fun h=>by rw[jF h,ba,ho (by omega),gO,dw]))
theorem Zi (S:aF P w I β hp B M w0) {t:TypeId} {v:Value} {x:V} {lo hi mx:Option V} {lov hiv O6:Option Value} {r:R} {rd:List Nat} (hv:ao P w I β hp v x)
  (jk:lo=none→lov=none) (ib: ∀y,hi=some y→∃u,hiv=some u∧ao P w I β hp u y) (oL: ∀y,mx=some y→∃u,O6=some u∧ao P w I β hp u y)
  (h:(H4 P t x lo hi mx).run C hp=some (r,rd)):c6 P ((Instr.sliceAt t v lov hiv O6).run P w) w I β hp B M w0 r:=by
 unfold H4 at h
 cases hu:P.underlying t with
 | none=>rw[hu] at h;cases h
 | some d=>
  rw[hu] at h
  cases d<;>(try (cases h;done))
  rename_i e
  cases lo<;>(try (cases h;done))
  cases hi<;>(try (cases h;done))
  rename_i wK
  cases wK<;>(try (cases h;done))
  cases mx<;>(try (cases h;done))
  rename_i Zj
  cases Zj<;>(try (cases h;done))
  obtain ⟨hc,h9⟩:=aG h
  clear h
  have h:=h9
  clear h9
  simp only[aM,eg] at hc
  obtain ⟨rfl,rfl,au⟩:=hc
  obtain ⟨i,z,eb,_,_,_⟩:=kL au
  obtain ⟨u1,rfl,k1⟩:=ib _ rfl
  obtain ⟨u2,rfl,k2⟩:=oL _ rfl
  rw[k1.dU,k2.dU,jk rfl]
  have run: ∀{k k2:IntKind} (a:Option Addr) (len cap:Nat),(Instr.sliceAt t (.slice a len cap) none (some (.int k 0)) (some (.int k2 0))).run P w= .ok (.slice a 0 0) w:=by
   intro k k2 a len cap
   cases a<;>simp[Instr.sliceAt,Instr.slice,Instr.sliceBounds,Instr.sliceBound,asIntOf,run_underlying hu,sizeOf,typeInfo,eb]
  cases x<;>(try (cases h;done))
  ·simp only at h
   obtain rfl:=aO h
   cases hv with
   | list hp'=>cases hp'<;>exact .same S (run _ _ _) .nilS
  ·simp only at h
   obtain rfl:=aO h
   cases hv
   exact .same S (run _ _ _) .nilS
  ·rename_i e' id
   simp only at h
   obtain ⟨l,h⟩:=run_get h
   cases ab:hp id with
   | none=>rw[ab] at h;cases h
   | some blk=>
    rw[ab] at h
    cases blk<;>simp only at h<;>first|(cases h;done)|skip
    all_goals
     obtain rfl:=aO h
     cases hv with
     | ek hd=>rw[ab] at hd;cases hd
     | eD hd=>exact .same S (run _ _ _) .nilS
     | dI hd hb=>exact .same S (run _ _ _) .nilS
     | whole hd=>exact .same S (run _ _ _) .nilS
theorem Zk (S:aF P w I β hp B M w0) {t:TypeId} {v ix:Value} {x y:V} {r:R} {rd:List Nat} (hv:ao P w I β hp v x) (hy:ao P w I β hp ix y)
  (h:(H7 P t x y).run C hp=some (r,rd)):c6 P ((Instr.indexAt t v ix).run P w) w I β hp B M w0 r:=by
 unfold H7 at h
 cases hu:P.underlying t with
 | none=>rw[hu] at h;cases h
 | some d=>
  rw[hu] at h
  cases y<;>(try (cases d<;>cases h;done))
  rename_i k i
  rw[hy.dU]
  cases d<;>simp only at h<;>first|(cases h;done)|skip
  case slice e=>
   have run: ∀(b o len cap:Nat) (ie:TypeInfo),P.info? e=some ie→0≤i→i<(len:Int)→(Instr.indexAt t (.slice (some ⟨b,o,none⟩) len cap) (.int k i)).run P w= .ok (.pointer (some ⟨b,o+i.toNat*ie.size,none⟩)) w:=by
    intro b o len cap ie jZ h0 h1
    simp[Instr.indexAt,asIntOf,run_underlying hu,h0,h1,sizeOf,typeInfo,jZ,nG]
   cases x<;>simp only at h<;>first|(cases h;done)|skip
   case list e' es=>
    obtain ⟨hc,h⟩:=aG h
    simp only[aM,aU] at hc
    obtain ⟨dK,au⟩:=hc
    have gO:e=e':=dK
    obtain ⟨ie,z,eb,_,ba,_⟩:=kL au
    obtain ⟨el,cT,h⟩:=lT h
    obtain rfl:=aO h
    unfold idx at cT
    cases h0:decide (0≤i) with
    | false=>rw[h0] at cT;cases cT
    | true=>
     rw[h0] at cT
     simp only[cond_true] at cT
     have wL:0≤i:=by simpa using h0
     have aN:i.toNat<es.length:=(bz.1 cT).1
     cases hv with
     | list hp'=>
      cases hp' with
      | nil=>simp at aN
      | emp=>simp at aN
      | @list b o len cap _ g hl cf hI gp hx=>
       rw[←gO] at gp hx hI
       refine .same S (run b o len cap ie eb wL (by omega)) ?_
       have bU:=wu (P:=P) e el
       have I7:=fI au
       have O7:(bif bL P e then flat P e else [e])=aX P e:=rfl
       rw[O7]
       refine .pref (by rw[bU]) (fun _=>hI ?_) (fun j t' y' ht zV=> ?_)
       ·have:=Nat.mul_pos (show 0<len by omega) (kH au).2
        exact this
       ·obtain ⟨t2,a1,a2⟩:=Iy zV
        rw[ht] at a1;cases a1
        have hj:j<P.cellsOf e:=by rw[←I7];exact (bz.1 ht).1
        have gr:=hx i.toNat j el t' cT ht
        refine ⟨g i.toNat j,?_,?_⟩
        ·rw[ba,oy];exact gp i.toNat j (by omega) hj
        ·rw[a2,gr.sB];exact gr
   case whole e' id=>
    obtain ⟨l,h⟩:=run_get h
    cases ab:hp id with
    | none=>rw[ab] at h;cases h
    | some blk=>
     rw[ab] at h
     cases blk<;>simp only at h<;>first|(cases h;done)|skip
     rename_i dG es fz
     obtain ⟨hc,h⟩:=aG h
     simp only[aM,aU] at hc
     obtain ⟨dK,jc⟩:=hc
     obtain ⟨eU,h⟩:=aG h
     simp only[aM,eg] at eU
     obtain rfl:=aO h
     cases hv with
     | ek hd=>rw[ab] at hd;cases hd
     | eD hd=>rw[ab] at hd;cases hd
     | dI hd hb=>rw[ab] at hd;cases hd;simp at eU;omega
     | @whole _ _ aK nz b cap hd hb Ae cf hm=>
      have eT:=hd
      rw[ab] at hd
      cases hd
      have hr:=S.h.rel id _ ab
      cases hr with
      | dJ aB=>rw[aB] at hb;cases hb
      | arr au aB hh hs hf en hx=>
       have gO:e=e':=dK
       obtain ⟨ie,z,eb,_,ba,_⟩:=kL au
       rw[←gO] at eb ba
       refine .same S (run b 0 _ cap ie eb eU.1 eU.2) ?_
       have:=ao.ptr (P:=P) (w:=w) (I:=I) (i:=i.toNat) (c:=0) eT (by simp) hb
       simp only[an.sz] at this
       rw[gY,ba,gO]
       simpa using this
     rename_i dG es ar
     obtain ⟨hc,h⟩:=aG h
     simp only[aM,aU] at hc
     obtain ⟨dK,jc⟩:=hc
     obtain ⟨eU,h⟩:=aG h
     simp only[aM,eg] at eU
     obtain rfl:=aO h
     cases hv with
     | ek hd=>rw[ab] at hd;cases hd
     | dI hd hb=>rw[ab] at hd;cases hd
     | whole hd=>rw[ab] at hd;cases hd
     | @eD _ _ aK vers' b cap hd hb Ae cf hm=>
      have eT:=hd
      rw[ab] at hd
      cases hd
      have au:=(S.rows eT hb .here).ok
      have gO:e=e':=dK
      obtain ⟨ie,z,eb,_,ba,_⟩:=kL au
      rw[←gO] at eb ba
      refine .same S (run b 0 _ cap ie eb eU.1 eU.2) ?_
      have:=ao.ptr (P:=P) (w:=w) (I:=I) (i:=i.toNat) (c:=0) eT (by simp) hb
      simp only[an.sz] at this
      rw[gY,ba,gO]
      simpa using this
   case row e' id ver path=>
    obtain ⟨e0,es,ar,l,ab,h1,U,h3,h⟩:=oK h
    obtain ⟨e2,v',k1,k2,h⟩:=wi h
    obtain ⟨hc,h⟩:=aG h
    simp only[aM,aU] at hc
    obtain ⟨dK,jc⟩:=hc
    obtain ⟨eU,h⟩:=aG h
    simp only[aM,eg] at eU
    obtain rfl:=aO h
    cases hv with
    | jT hd hp'=>rw[ab] at hd;cases hd;exact absurd hp' (wj h1 U h3)
    | @row v _ e0 t1 _ ver b i1 c1 q es l1 ar hd hb hq IL ht gp=>
     have Zl:=gp
     obtain ⟨b',e3,aK,Ca,T,f,x,m1,m2,m3,m4,m5,m6⟩:=gp
     have jf:=hd
     rw[ab] at jf
     cases jf
     obtain ⟨n1,n2⟩:=DT m1 m3 m4 ht m5
     rw[n2] at k2
     cases k2
     simp only[V.toList] at eU
     have hR:=S.rows hd hb m1
     obtain ⟨C1,c2,c3,c4⟩:=hR.cells
     rw[m2] at c2
     cases c2
     have hj:c1<P.cellsOf e3:=by
      rw[←fI hR.ok];exact (bz.1 m4).1
     obtain ⟨v2,d1,d2⟩:=c4 _ _ _ _ m3 m4 hj
     rw[m6] at d1
     cases d1
     rw[m5] at d2
     cases d2 with
     | fW a _=>unfold fT at a;rw[ht] at a;cases a
     | emp _ _=>simp at eU;omega
     | @row _ _ b1 cap _ hl _ _ _=>
      have au:=(S.rows hd hb (m1.snoc m2 m3 m4 ht m5 hl m6)).ok
      have gO:e=e':=dK
      obtain ⟨ie,z,eb,_,ba,_⟩:=kL au
      rw[←gO] at eb ba
      refine .same S (run b1 0 _ cap ie eb eU.1 eU.2) ?_
      have:=ao.cI (P:=P) (I:=I) (i:=i.toNat) (c:=0) hd hb hq IL ht hl Zl
      rw[gY,ba,gO]
      simpa using this
   case sub e' id off len=>
    obtain ⟨l,h⟩:=run_get h
    cases ab:hp id with
    | none=>rw[ab] at h;cases h
    | some blk=>
     rw[ab] at h
     cases blk<;>simp only at h<;>first|(cases h;done)|skip
     rename_i dG es fz
     obtain ⟨hc,h⟩:=aG h
     simp only[aM,aU] at hc
     obtain ⟨dK,jc⟩:=hc
     obtain ⟨eU,h⟩:=aG h
     simp only[aM,eg] at eU
     obtain rfl:=aO h
     cases hv with
     | gn hd=>rw[ab] at hd;cases hd
     | fX hd hb=>simp at eU;omega
     | @sub _ _ _ _ aK nz b o cap hd hb lh cf ho=>
      have eT:=hd
      rw[ab] at hd
      cases hd
      have hr:=S.h.rel id _ ab
      cases hr with
      | dJ aB=>rw[aB] at hb;cases hb
      | arr au aB hh hs hf en hx=>
       have gO:e=e':=dK
       obtain ⟨ie,z,eb,_,ba,_⟩:=kL au
       rw[←gO] at eb ba
       refine .same S (run b o _ cap ie eb eU.1 eU.2) ?_
       have:=ao.ptr (P:=P) (w:=w) (I:=I) (i:=off+i.toNat) (c:=0) eT (by simp) hb
       simp only[an.sz] at this
       rw[ho (by omega),ba,gO,←dw]
       simpa using this
  case array n e=>
   have run: ∀(b o:Nat) (ie:TypeInfo),P.info? e=some ie→0≤i→i<(n:Int)→(Instr.indexAt t (.pointer (some ⟨b,o,none⟩)) (.int k i)).run P w= .ok (.pointer (some ⟨b,o+i.toNat*ie.size,none⟩)) w:=by
    intro b o ie jZ h0 h1
    simp[Instr.indexAt,asIntOf,run_underlying hu,h0,h1,sizeOf,typeInfo,jZ,nG,Instr.sureAddr]
   cases x<;>simp only at h<;>first|(cases h;done)|skip
   case ptr id j c=>
    obtain ⟨⟨blk,ab,hd⟩,l,h⟩:=wo h
    obtain ⟨eU,h⟩:=aG h
    simp only[aM,eg] at eU
    obtain rfl:=aO h
    obtain ⟨b,hb,rfl⟩:=hv.hU ab hd
    obtain ⟨d,uo⟩:=zY eU.1
    obtain ⟨ie,jZ⟩:=wq uo
    have ba:ie.size=P.cellsOf e:=by simp[Program.cellsOf,jZ]
    refine .same S (run b _ ie jZ eU.2.1 eU.2.2) ?_
    rw[ba,oy]
    exact .ptr ab hd hb
   case pref ts cs=>
    obtain ⟨eU,h⟩:=aG h
    simp only[aM,eg] at eU
    obtain rfl:=aO h
    obtain ⟨b,o,rfl,h1,U,h3⟩:=hv.D1
    obtain ⟨d,uo⟩:=zY eU.1
    obtain ⟨ie,jZ⟩:=wq uo
    have ba:ie.size=P.cellsOf e:=by simp[Program.cellsOf,jZ]
    refine .same S (run b _ ie jZ eU.2.1 eU.2.2) ?_
    rw[ba]
    exact ao.Oo h1 U h3
end
end Go.AM
namespace Go.AM
open Go.Maps
section
variable {P:Program} {w w':World} {I I':Nat→Prop} {β β':Nat→Option Nat} {hp hp':Nat→Option an} {C:ag} {B:Nat} {M:Nat→Prop} {w0:Start}
theorem Zm (S:aF P w I β hp B M w0) {nb:Nat} {t:TypeId} {v:Value} {x:V} {lo hi:Option V} {lov hiv:Option Value} {r:R} {rd:List Nat} (hv:ao P w I β hp v x)
  (ib: ∀x,hi=some x→∃v,hiv=some v∧ao P w I β hp v x) (nL:lo=none→lov=none)
  (h:(DE P nb t x lo hi).run C hp=some (r,rd)):c6 P ((Instr.sliceAt t v lov hiv none).run P w) w I β hp B M w0 r:=by
 unfold DE at h
 split at h
 case h_2=>cases h
 rename_i e e' id k hh hu
 obtain ⟨l,h1⟩:=run_get h
 cases ab:hp id with
 | none=>rw[ab] at h1;cases h1
 | some blk=>
  rw[ab] at h1
  cases blk<;>simp only at h1<;>first|(cases h1;done)|skip
  rename_i e2 es fz
  cases fz with
  | true=>cases h1
  | false=>
  obtain ⟨hc,U⟩:=aG h1
  simp only[aM,aU,eg] at hc
  obtain ⟨rfl,rfl,au,O8,O9⟩:=hc
  obtain ⟨hn,rfl⟩:=nJ U
  have jk:=nL rfl
  subst jk
  obtain ⟨I8,rfl,Zn⟩:=ib _ rfl
  obtain rfl:=Zn.dU
  obtain ⟨i,z,eb,_,ba,_⟩:=kL au
  have bD:nb≠id:=fun e=>by rw[e,ab] at hn;cases hn
  obtain ⟨k1,k2⟩:=DX S ab
  have kM:aI hp id (some an.dead) nb=none:=by rw[eo _ _ bD];exact hn
  have Pb: ∀cap,es.length≤cap→(Instr.sliceBounds true es.length cap none (some (.int k hh)) none).run P w= .ok (0,hh.toNat,cap) w:=by
   intro cap cf
   have hb:(sj es.length none (some (.int k hh)) fun l u=> .aC (decide (l=0∧u=hh.toNat)) (.ret (⟨.undef,[]⟩:R))).run C hp=some (⟨.undef,[]⟩,[]):=by
    simp[sj,Rd.run,O8,O9]
   obtain ⟨l,u,b1,b2,b3,b4⟩:=qY (P:=P) (w:=w) (I:=I) (β:=β) (hp:=hp) (n:=es.length) (isS:=true) (cap:=cap) (lov:=none) (hiv:=some (.int k hh)) cf (by simp) (fun x hx=>by cases hx;exact ⟨_,rfl,.int⟩) (fun _=>rfl) (by simp) hb
   obtain ⟨b5,_⟩:=aG b4
   simp only[eg] at b5
   obtain ⟨rfl,rfl⟩:=b5
   exact b3
  cases hv with
  | ek hd=>rw[ab] at hd;cases hd
  | eD hd=>rw[ab] at hd;cases hd
  | @dI _ _ _ a0 hd hb=>
   rw[ab] at hd
   cases hd
   have IE:hh=0:=by simpa using Int.le_antisymm O9 O8
   subst IE
   have aB:=Pb 0 (b9 _)
   obtain ⟨a1,a2⟩:=DW k2 e kM
   refine ⟨_,w,I,_,En hu eb aB,k1.trans a1,a2,.dI (cW _ _ _) (cW _ _ _)⟩
  | @whole _ _ aK nz b cap hd hb Ae cf hm=>
   have eT:=hd
   rw[ab] at hd
   cases hd
   have hr:=S.h.rel id _ ab
   cases hr with
   | dJ aB=>rw[aB] at hb;cases hb
   | @arr _ _ _ b' Ca _ aB Eo pS hf en mM=>
    rw[hb] at aB
    cases aB
    have jG:(es.take hh.toNat).length=hh.toNat:=by rw[fe];omega
    have cX:(Instr.sliceAt t (.slice (some ⟨b,0,none⟩) es.length cap) none (some (.int k hh)) none).run P w= .ok (.slice (some ⟨b,0,none⟩) hh.toNat cap) w:=by
     have aB:=Pb cap cf
     by_cases Pc:cap=0
     ·subst Pc
      simp[Instr.sliceAt,Instr.slice,run_underlying hu,aB,sizeOf,typeInfo,eb]
     ·simp[Instr.sliceAt,Instr.slice,run_underlying hu,aB,sizeOf,typeInfo,eb,Pc,nG]
    have qM: ∀aD blk',aI hp id (some an.dead) aD=some blk'→¬bA P w (β aD) blk' b:=by
     intro aD blk' h1 U
     by_cases ji:aD=id
     ·subst ji;rw[cW] at h1;cases h1;exact U.alive rfl
     ·rw[eo _ _ ji] at h1
      exact ji (S.h.inj aD id blk' _ b h1 ab U (.root (by simp) hb))
    obtain ⟨a1,a2⟩:=zU k2 (blk:= .arr e (es.take hh.toNat) false) (w':=w) kM qM (en rfl) (fun _ _ _=>rfl) (b9 _) ⟨rfl,rfl⟩ (S.h.sw id _ b ab (by simp) hb)
     (fun b' h=>(dh (h.flat (by simp))).symm) (fun hle=> .arr au rfl Eo (by rw[jG];exact lI (dF _ (by omega)) pS) (fun h=>by cases h) (fun _=>en rfl) fun i j y t' hy ht hj=>by
      have qX:=(bz.1 hy).1
      rw[jG] at qX
      rw[fc qX] at hy
      obtain ⟨v,hv,hp⟩:=mM i j y t' hy ht hj
      exact ⟨v,hv,hp.mono hle.dm hle.cj⟩)
    refine ⟨_,w,I,_,cX,k1.trans a1,a2,?_⟩
    have:=ao.whole (P:=P) (w:=w) (I:=I) (β:=aI β nb (some b)) (hp:=aI (aI hp id (some .dead)) nb (some (.arr e (es.take hh.toNat) false))) (cap:=cap) (cW _ _ _) (cW _ _ _) Ae (by rw[jG];omega) hm
    rw[jG] at this
    exact this
theorem qZ {t:TypeId} {x:V} (h:pD P t x=true):
  (∃q n,P.underlying t=some (.int q)∧x= .int q n∧HY q n=true)∨(∃b,P.underlying t=some .bool∧x= .bool b)∨(∃s,P.underlying t=some .string∧x= .str s∧s.length≤maxLen):=by
 unfold pD at h
 split at h
 ·rename_i q q' n hu
  simp only[aM,eg] at h
  obtain ⟨rfl,h⟩:=h
  exact .inl ⟨_,_,hu,rfl,h⟩
 ·rename_i b hu
  exact .inr (.inl ⟨_,hu,rfl⟩)
 ·rename_i s hu
  exact .inr (.inr ⟨_,hu,rfl,by simpa using h⟩)
 ·cases h
theorem size_data (s:ByteArray):s.data.toList.length=s.size:=by simp
theorem Zo {q:IntKind} {n:Int} (h:HY q n=true):(Lit.int q n).wf=true:=h
theorem Pd {t:TypeId} {x:V} {v:Value} (h:pD P t x=true) (hv:jD v x): ∃l,mapKey P t v=some l∧∀d,P.keyLits (d+1) t [v]=some [l]:=by
 rcases qZ h with ⟨q,n,hu,rfl,hn⟩|⟨b,hu,rfl⟩|⟨s,hu,rfl,hs⟩
 ·obtain rfl:v= .int q n:=hv
  have hw:=Zo hn
  exact ⟨.int q n,by simp[mapKey,hu,hw],fun d=>by simp[Program.keyLits,hu,hw]⟩
 ·obtain rfl:v= .bool b:=hv
  exact ⟨.bool b,by simp[mapKey,hu],fun d=>by simp[Program.keyLits,hu]⟩
 ·obtain ⟨s',rfl,I9⟩:=hv
  have:s'.size≤maxLen:=by rw[←size_data,I9];exact hs
  exact ⟨.string s'.data.toList,by simp[mapKey,hu,this],fun d=>by simp[Program.keyLits,hu,this]⟩
theorem Ja {t:TypeId}: ∀{xs:List V} {j:Nat} {x:V},qx P t xs=true→xs[j]? =some x→pD P t x=true
 | [],j,x,_,h=>by simp at h
 | y::ys,0,x,h,hx=>by
  simp only[qx,aM] at h
  simp at hx;subst hx;exact h.1
 | y::ys,j+1,x,h,hx=>by
  simp only[qx,aM] at h
  exact Ja (j:=j) h.2 (by simpa using hx)
theorem mapM_some {α β:Type} {f:α→Option β}: ∀{l:List α},(∀a∈l,∃b,f a=some b)→∃bs,l.mapM f=some bs
 | [],_=>⟨[],rfl⟩
 | a::l,h=>by
  obtain ⟨b,hb⟩:=h a (sa ..)
  obtain ⟨bs,hO⟩:=mapM_some (l:=l) fun x hx=>h x (lK _ hx)
  exact ⟨b::bs,by simp[List.mapM_cons,hb,hO]⟩
inductive Jb (P:Program) (t:TypeId) (x:V):Prop
 | one:pD P t x=true→x.cells=[x]→Jb P t x
 | arr {n:Nat} {e:TypeId} {xs:List V}:x= .agg xs→WideMaps.ArrKey P t e n→xs.length=n→0<P.types.size→qx P e xs=true→Jb P t x
theorem wM {t:TypeId} {x:V} (h:ny P t x=true):Jb P t x:=by
 unfold ny at h
 split at h
 ·rename_i n e xs hu
  simp only[aM,aU] at h
  rw[ku] at h
  exact .arr rfl ⟨hu,h.2.2.2.1,h.2.1,h.2.2.1⟩ h.1 h.2.2.2.2.1 h.2.2.2.2.2
 ·refine .one h ?_
  rcases qZ h with ⟨q,n,hu,rfl,hn⟩|⟨b,hu,rfl⟩|⟨s,hu,rfl,hs⟩<;>rfl
theorem qF.one {x:V} {v:Value} (h:qF v x) (hx:x.cells=[x]):jD v x:=by
 cases x<;>first|exact h|skip
 simp only[V.cells] at hx
 rename_i cs
 have:=congrArg List.length hx
 cases cs with
 | nil=>simp at hx
 | cons c cs=>
  simp only[List.cons.injEq] at hx
  have:=congrArg SizeOf.sizeOf hx.1
  simp at this
  omega
theorem Ep {t:TypeId} {x:V} {v:Value} (h:ny P t x=true) (hv:qF v x): ∃l,Go.keyOf P t v=some l:=by
 cases wM h with
 | one h1 hx=>
  obtain ⟨l,hl,_⟩:=Pd h1 (hv.one hx)
  refine ⟨l,?_⟩
  rcases qZ h1 with ⟨q,n,hu,_⟩|⟨b,hu,_⟩|⟨s,hu,_⟩<;>simp only[Go.keyOf,hu,hl]
 | @arr n e xs hx A hl hp0 hf=>
  subst hx
  obtain ⟨cs,rfl,hs,hc⟩:=hv
  obtain ⟨m,hm⟩: ∃m,P.types.size=m+1:=⟨P.types.size-1,by omega⟩
  have Zp:=A.keyType ⟨m,hm⟩
  have hlen:cs.toList.length=P.cellsOf t:=by rw[A.size];simp[hs,hl]
  have Zq:(Value.agg cs).formed P t=true:=by simp[Value.formed,A.hu,A.size,hs,hl]
  have hex: ∀i∈List.range n,∃y,P.keyLits (m+1) e (((Value.agg cs).cells.toList.drop (i*P.cellsOf e)).take (P.cellsOf e))=some y:=by
   intro i hi
   have hi:=List.mem_range.1 hi
   rw[A.one]
   have gv:i<cs.size:=by omega
   have bI:i<xs.length:=by omega
   obtain ⟨l,_,U⟩:=Pd (Ja hf (bC bI)) (hc i cs[i] xs[i] (k9 gv) (bC bI))
   have e1:((Value.agg cs).cells.toList.drop (i*1)).take 1=[cs[i]]:=by
    show (cs.toList.drop (i*1)).take 1=_
    rw[nq,List.drop_eq_getElem_cons (by simpa using gv)]
    simp
   rw[e1]
   exact ⟨_,U m⟩
  obtain ⟨bs,hO⟩:=mapM_some hex
  refine ⟨.string (keyBytes bs.flatten),?_⟩
  have Zr:(Value.agg cs).cells.toList.length=P.cellsOf t:=hlen
  unfold Go.keyOf
  rw[A.hu]
  simp only[Zp,Zq,Bool.and_self,cO]
  unfold Program.keyLits
  rw[A.hu,hm]
  simp only[Zr,cO,hO,Option.map_some]
theorem Jc {t:TypeId} {x:V} (h:ny P t x=true):Keyed P t:=by
 cases wM h with
 | one h1 hx=>
  rcases qZ h1 with ⟨q,n,hu,_⟩|⟨b,hu,_⟩|⟨s,hu,_⟩
  ·exact int_keyed hu
  ·exact bool_keyed hu
  ·exact string_keyed hu
 | arr hx A hl _ hf=>exact Keyed.of_law A.law
theorem Pe {t:TypeId} {x y:V} {v u:Value} (h1:pD P t x=true) (U:pD P t y=true) (hv:jD v x) (hu:jD u y):vW x y=true↔v=u:=by
 rcases qZ h1 with ⟨q,n,mN,rfl,_⟩|⟨b,mN,rfl⟩|⟨s,mN,rfl,_⟩<;>
 rcases qZ U with ⟨q',n',mO,rfl,_⟩|⟨b',mO,rfl⟩|⟨s',mO,rfl,_⟩<;>
  (rw[mN] at mO;cases mO)
 ·obtain rfl:v= .int q n:=hv
  obtain rfl:u= .int q n':=hu
  simp[vW]
 ·obtain rfl:v= .bool b:=hv
  obtain rfl:u= .bool b':=hu
  simp[vW]
 ·obtain ⟨s1,rfl,e1⟩:=hv
  obtain ⟨s2,rfl,e2⟩:=hu
  simp only[vW,beq_iff_eq,Value.string.injEq,←e1,←e2]
  constructor
  ·intro h
   have:=Array.toList_inj.1 h
   cases s1;cases s2;simp_all
  ·rintro rfl;rfl
theorem Pf {t:TypeId}: ∀{xs ys:List V} {vs us:List Value},qx P t xs=true→qx P t ys=true→xs.length=ys.length→vs.length=xs.length→us.length=ys.length→
  (∀(j:Nat) v x,vs[j]? =some v→xs[j]? =some x→jD v x)→(∀(j:Nat) v x,us[j]? =some v→ys[j]? =some x→jD v x)→(tJ xs ys=true↔vs=us)
 | [],[],vs,us,_,_,_,h1,U,_,_=>by
  have e1:=lJ (l:=vs) (by simpa using h1)
  have e2:=lJ (l:=us) (by simpa using U)
  simp[tJ,e1,e2]
 | [],_::_,_,_,_,_,h,_,_,_,_=>by simp at h
 | _::_,[],_,_,_,_,h,_,_,_,_=>by simp at h
 | x::xs,y::ys,[],us,_,_,_,h,_,_,_=>by simp at h
 | x::xs,y::ys,v::vs,[],_,_,_,_,h,_,_=>by simp at h
 | x::xs,y::ys,v::vs,u::us,f1,f2,h,h1,U,r1,r2=>by
  simp only[qx,aM] at f1 f2
  have a:=Pe f1.1 f2.1 (r1 0 v x rfl rfl) (r2 0 u y rfl rfl)
  have b:=Pf (vs:=vs) (us:=us) f1.2 f2.2 (by simpa using h) (by simpa using h1) (by simpa using U) (fun j v x hj hx=>r1 (j+1) v x (by simpa using hj) (by simpa using hx)) (fun j v x hj hx=>r2 (j+1) v x (by simpa using hj) (by simpa using hx))
  simp only[tJ,aM,a,b,List.cons.injEq]
theorem Jd {t:TypeId} {x y:V} {v u:Value} (h1:ny P t x=true) (U:ny P t y=true) (hv:qF v x) (hu:qF u y):mD x y=true↔v=u:=by
 unfold mD
 cases wM h1 with
 | one f1 c1=>
  cases wM U with
  | one f2 c2=>
   rw[c1,c2]
   simp only[tJ,Bool.and_true]
   exact Pe f1 f2 (hv.one c1) (hu.one c2)
  | arr hy A hl _ hf=>
   rcases qZ f1 with ⟨q,n,mN,_⟩|⟨b,mN,_⟩|⟨s,mN,_⟩<;>(rw[A.hu] at mN;cases mN)
 | arr hx A hl _ hf=>
  cases wM U with
  | one f2 c2=>
   rcases qZ f2 with ⟨q,n,mN,_⟩|⟨b,mN,_⟩|⟨s,mN,_⟩<;>(rw[A.hu] at mN;cases mN)
  | arr hy A2 jQ _ Ag=>
   have gO:=A.hu.symm.trans A2.hu
   cases gO
   subst hx
   subst hy
   obtain ⟨cs,rfl,s1,r1⟩:=hv
   obtain ⟨ds,rfl,s2,r2⟩:=hu
   have:=Pf (vs:=cs.toList) (us:=ds.toList) hf Ag (by omega) (by simpa using s1) (by simpa using s2) (fun j v x hj hx=>r1 j v x (by simpa using hj) hx) (fun j v x hj hx=>r2 j v x (by simpa using hj) hx)
   simp only[V.cells,this,Value.agg.injEq]
   exact Array.toList_inj
theorem Pg {k:V}: ∀{es:List V},(∀x∈es,mD k (x.comp 0)=false)→lP k es=false∧(∀z,mE k es z=z)∧∀v,iX k v es=es++[.bm [k,v]]
 | [],_=>⟨rfl,fun _=>rfl,fun _=>rfl⟩
 | e::es,h=>by
  have h0:=h e (sa ..)
  obtain ⟨a,b,c⟩:=Pg (k:=k) (es:=es) fun x hx=>h x (lK _ hx)
  exact ⟨by simp[lP,h0,a],fun z=>by simp[mE,h0,b],fun v=>by simp[iX,h0,c]⟩
theorem Ph {k:V}: ∀{es:List V} {j:Nat} {k' y:V},es[j]? =some (.bm [k',y])→mD k k'=true→(∀i x,i<j→es[i]? =some x→mD k (x.comp 0)=false)→
  lP k es=true∧(∀z,mE k es z=y)∧∀v,iX k v es=es.set j (.bm [k',v])
 | [],j,k',y,h,_,_=>by simp at h
 | e::es,0,k',y,h,he,_=>by
  simp at h
  subst h
  exact ⟨by simp[lP,V.comp,V.nth,he],fun z=>by simp[mE,V.comp,V.nth,he],fun v=>by simp[iX,V.comp,V.nth,he]⟩
 | e::es,j+1,k',y,h,he,aN=>by
  have h0:=aN 0 e (by omega) rfl
  obtain ⟨a,b,c⟩:=Ph (k:=k) (es:=es) (j:=j) (by simpa using h) he fun i x hi hx=>aN (i+1) x (by omega) (by simpa using hx)
  exact ⟨by simp[lP,h0,a],fun z=>by simp[mE,h0,b],fun v=>by simp[iX,h0,c]⟩
theorem Pj {kt vt:TypeId} {E:Array MapEntry} {es:List V} {k:V} {kv:Value} (hs:E.size=es.length) (hx: ∀(j:Nat) (e:MapEntry) (x:V),E[j]? =some e→es[j]? =some x→DO P kt vt e x)
  (hn:E.toList.Pairwise (fun a b=>a.key≠b.key)) (hk:ny P kt k=true) (Er:qF kv k) (w:World):
  ((Instr.findKey kt kv E.toList).run P w= .ok none w∧(∀e∈E.toList,e.key≠kv)∧lP k es=false∧(∀z,mE k es z=z)∧∀v,iX k v es=es++[.bm [k,v]])∨
  ∃j e k' y,(Instr.findKey kt kv E.toList).run P w= .ok (some (j,e.val)) w∧E[j]? =some e∧e.key=kv∧es[j]? =some (.bm [k',y])∧ny P kt k'=true∧qF kv k'∧eY P vt y=true∧jD e.val y∧
   lP k es=true∧(∀z,mE k es z=y)∧∀v,iX k v es=es.set j (.bm [k',v]):=by
 have K:=Jc hk
 obtain ⟨l,hl⟩:=Ep hk Er
 have Pk: ∀(j:Nat) x,es[j]? =some x→∃e,E[j]? =some e∧DO P kt vt e x:=by
  intro j x hj
  have aN:j<E.size:=by rw[hs];exact (bz.1 hj).1
  exact ⟨E[j],k9 aN,hx j _ x (k9 aN) hj⟩
 have keys: ∀e∈E.toList,∃l,Go.keyOf P kt e.key=some l:=by
  intro e he
  obtain ⟨j,hj⟩:=rZ he
  have gM:E[j]? =some e:=by simpa using hj
  have aN:j<es.length:=by rw[←hs];exact (iz.1 gM).1
  obtain ⟨k',y,_,h1,U,_⟩:=hx j e es[j] gM (bC aN)
  exact Ep h1 U
 rcases K.find w hl E.toList keys with ⟨h1,U⟩|⟨j,e,h1,U,h3⟩
 ·left
  refine ⟨h1,U,Pg fun x Zs=> ?_⟩
  obtain ⟨j,hj⟩:=rZ Zs
  obtain ⟨e,he,k',y,rfl,f1,f2,_⟩:=Pk j x hj
  cases hq:mD k (V.comp (.bm [k',y]) 0) with
  | false=>rfl
  | true=>
   have:=(Jd hk f1 Er f2).1 hq
   exact absurd this.symm (U e (jP (by simpa using he)))
 ·right
  have hE:E[j]? =some e:=by simpa using U
  have aN:j<es.length:=by rw[←hs];exact (iz.1 hE).1
  obtain ⟨k',y,hy,f1,f2,f3,f4⟩:=hx j e es[j] hE (bC aN)
  have hj:=bC aN
  rw[hy] at hj
  rw[h3] at f2
  refine ⟨j,e,k',y,h1,hE,h3,hj,f1,f2,f3,f4,Ph hj ((Jd hk f1 Er f2).2 rfl) fun i x hi gJ=> ?_⟩
  obtain ⟨e',hY,k2,y2,rfl,g1,g2,_⟩:=Pk i x gJ
  cases hq:mD k (V.comp (.bm [k2,y2]) 0) with
  | false=>rfl
  | true=>
   have:=(Jd hk g1 Er g2).1 hq
   have i1:i<E.toList.length:=by have:=(bz.1 gJ).1;simp;omega
   have i2:j<E.toList.length:=by simp;omega
   have:=Dg.1 hn i j i1 i2 hi
   have a1:E.toList[i]=e':=by
    have:E.toList[i]? =some e':=by simpa using hY
    rw[bC i1] at this;exact dh this
   have a2:E.toList[j]=e:=by
    have:=U
    rw[bC i2] at this;exact dh this
   rw[a1,a2,h3] at this
   exact absurd (by rw[← ‹kv=e'.key›]) this
theorem ao.Pl {v:Value} {x:V} (h:ao P w I β hp v x) {t:TypeId} (hx:pD P t x=true):jD v x:=by
 rcases qZ hx with ⟨q,n,_,rfl,_⟩|⟨b,_,rfl⟩|⟨s,_,rfl,_⟩
 ·exact h.dU
 ·exact h.kI
 ·exact h.mI
theorem ao.Pm {v:Value} {x:V} (h:ao P w I β hp v x) {t:TypeId} (hx:ny P t x=true):qF v x:=by
 cases wM hx with
 | one f c=>
  have:=h.Pl f
  cases x<;>first|exact this|cases this
 | arr hx A hl _ hf=>
  subst hx
  obtain ⟨cs,rfl,h1,U⟩:=h.ll
  exact ⟨cs,rfl,h1,fun j u y hu hy=>(U j u y hu hy).Pl (Ja hf hy)⟩
theorem Pn {vt:TypeId} {y:V} (h:mapVal P vt=true) (ht:eY P vt y=true):(∃q n,P.underlying vt=some (.int q)∧y= .int q n)∨∃b,P.underlying vt=some .bool∧y= .bool b:=by
 unfold mapVal at h
 unfold eY at ht
 split at h
 ·rename_i q hu
  rw[hu] at ht
  cases y<;>first|(simp at ht;done)|skip
  simp only[eg] at ht
  subst ht
  exact .inl ⟨_,_,hu,rfl⟩
 ·rename_i hu
  rw[hu] at ht
  cases y<;>first|(simp at ht;done)|skip
  exact .inr ⟨_,hu,rfl⟩
 ·cases h
theorem jD.Je {vt:TypeId} {v:Value} {y:V} (h:mapVal P vt=true) (ht:eY P vt y=true) (hv:jD v y):ao P w I β hp v y:=by
 rcases Pn h ht with ⟨q,n,_,rfl⟩|⟨b,_,rfl⟩
 ·obtain rfl:v= .int q n:=hv;exact .int
 ·obtain rfl:v= .bool b:=hv;exact .bool
theorem ao.Zt {vt:TypeId} {v:Value} {y:V} (h:mapVal P vt=true) (ht:eY P vt y=true) (hv:ao P w I β hp v y):jD v y:=by
 rcases Pn h ht with ⟨q,n,_,rfl⟩|⟨b,_,rfl⟩
 ·exact hv.dU
 ·exact hv.kI
theorem Zu {vt:TypeId} {z:V} (h:Dz P vt=some z) (w:World): ∃v,(zeroValue vt).run P w= .ok v w∧jD v z:=by
 unfold Dz at h
 cases hi:P.info? vt with
 | none=>rw[hi] at h;cases h
 | some i=>
  rw[hi] at h
  simp only[Option.bind_some] at h
  cases hz:i.zero with
  | none=>rw[hz] at h;cases h
  | some v=>
   rw[hz] at h
   refine ⟨v,by simp[zeroValue,typeInfo,hi,hz],?_⟩
   cases v<;>simp only at h<;>first|(cases h;done)|skip
   ·cases h;rfl
   ·cases h;rfl
theorem Jf {t kt vt:TypeId} (h:lQ P t=some (kt,vt)):P.underlying t=some (.map kt vt):=by
 unfold lQ at h
 split at h
 ·rename_i k e hu;cases h;exact hu
 ·cases h
theorem Jg (S:aF P w I β hp B M w0) {ok:Bool} {v:Value} {x:V} {b:Bool} {r:R} {rd:List Nat} {res:Result Value} (hv:ao P w I β hp v x)
  (hr:res= .ok (if ok then .tuple #[v,.bool b] else v) w) (h:(DA ok x b).run C hp=some (r,rd)):c6 P res w I β hp B M w0 r:=by
 unfold DA at h
 obtain rfl:=aO h
 cases ok with
 | false=>exact .same S hr hv
 | true=>
  refine .same S hr (.bm rfl fun j u y hu hy=> ?_)
  match j,hu,hy with
  | 0,hu,hy=>simp at hu hy;subst hu;subst hy;exact hv
  | 1,hu,hy=>simp at hu hy;subst hu;subst hy;exact .bool
  | j+2,hu,hy=>simp at hy
theorem Zv (S:aF P w I β hp B M w0) {t kt vt:TypeId} (ht:lQ P t=some (kt,vt)) {m k:Value} {mx kx:V} {ok:Bool} {r:R} {rd:List Nat} (hm:ao P w I β hp m mx) (hk:ao P w I β hp k kx)
  (h:(HZ P t mx kx ok).run C hp=some (r,rd)):c6 P ((Instr.lookup t m k ok).run P w) w I β hp B M w0 r:=by
 unfold HZ at h
 rw[ht] at h
 simp only at h
 cases hz:Dz P vt with
 | none=>rw[hz] at h;cases h
 | some z=>
  rw[hz] at h
  obtain ⟨hc,h'⟩:=aG h
  clear h
  have h:=h'
  clear h'
  simp only[aM] at hc
  obtain ⟨kN,Ah,Et⟩:=hc
  have hu:=Jf ht
  have wO:=hk.Pm kN
  have K:=Jc kN
  obtain ⟨l,hl⟩:=Ep kN wO
  obtain ⟨zv,Po,Pp⟩:=Zu hz w
  cases mx<;>simp only at h<;>first|(cases h;done)|skip
  ·rename_i t' id
   obtain ⟨lY,h'⟩:=aG h
   clear h
   have h:=h'
   clear h'
   rw[aU] at lY
   subst lY
   obtain ⟨l2,h'⟩:=run_get h
   clear h
   have h:=h'
   clear h'
   cases ab:hp id with
   | none=>rw[ab] at h;cases h
   | some blk=>
    rw[ab] at h
    cases blk<;>simp only at h<;>first|(cases h;done)|skip
    rename_i t2 es
    obtain ⟨lY,h'⟩:=aG h
    clear h
    have h:=h'
    clear h'
    rw[aU] at lY
    subst lY
    cases hm with
    | iH hd=>rw[ab] at hd;cases hd
    | @cA _ _ b aK hd hb=>
     rw[ab] at hd
     cases hd
     have hr:=S.h.rel id _ ab
     cases hr with
     | @map _ Pq Pr _ b' clock E fY aB hh hs hI hx hn=>
      rw[hb] at aB;cases aB
      rw[hu] at fY;cases fY
      rcases Pj hs hx hn kN wO w with ⟨h1,_,h3,h4,_⟩|⟨j,e,k',y,h1,_,_,_,_,_,h6,h7,h3,h4,_⟩
      ·rw[h3,h4,zX Et] at h
       refine Jg S (jD.Je Ah Et Pp) ?_ h
       unfold Instr.lookup
       simp only[Sem.run_bind,run_underlying hu,Result.andThen_ok,Go.MapKept.run_getObj_map hh,Sem.run_pure,K.check w E.isEmpty hl,h1,Po]
      ·rw[h3,h4,zX h6] at h
       refine Jg S (jD.Je Ah h6 h7) ?_ h
       unfold Instr.lookup
       simp only[Sem.run_bind,run_underlying hu,Result.andThen_ok,Go.MapKept.run_getObj_map hh,Sem.run_pure,K.check w E.isEmpty hl,h1]
  ·rename_i t'
   obtain ⟨lY,h⟩:=aG h
   cases hm
   rw[zX Et] at h
   refine Jg S (jD.Je Ah Et Pp) ?_ h
   have hf:(Instr.findKey kt k []).run P w= .ok none w:=by
    rcases K.find w hl [] (by simp) with ⟨h1,_⟩|⟨j,e,_,U,_⟩
    ·exact h1
    ·simp at U
   unfold Instr.lookup
   simp[run_underlying hu,K.check w true hl,hf,Po]
theorem Zw (S:aF P w I β hp B M w0) {t:TypeId} {nb:Nat} {r:R} {rd:List Nat} (h:(Rd.aC (lQ P t).isSome (jA nb (.map t []) (.cA t nb) [])).run C hp=some (r,rd)):
  c6 P ((Instr.makeMap t none).run P w) w I β hp B M w0 r:=by
 obtain ⟨ht,h⟩:=aG h
 obtain ⟨hn,rfl⟩:=nJ h
 obtain ⟨⟨kt,vt⟩,ht⟩:=zf.1 ht
 have hu:=Jf ht
 have cQ: ¬I w.heap.size:=fun h=>Nat.lt_irrefl _ (S.h.jV _ h)
 have e6:(w.alloc (.map #[] 0)).heap[w.heap.size]? =some (.map #[] 0):=heap_alloc_new w _
 obtain ⟨a1,a2⟩:=zU S (w':=w.alloc (.map #[] 0)) (blk:= .map t []) (b:=w.heap.size) hn (fun aD blk' h ho=>Nat.lt_irrefl _ (S.h.lt h ho)) cQ
  (fun b' _ aN=>heap_alloc_old w _ b' aN) (by simp) ⟨rfl,rfl⟩ (.inr S.size) (fun b' h=>(dh (h.flat (by simp))).symm)
  (fun _=> .map hu rfl e6 rfl cQ (fun j e x he _=>by simp at he) (by simp))
 exact ⟨_,_,_,_,Go.RowKit.run_makeMap t w,a1,a2,.cA (cW _ _ _) (cW _ _ _)⟩
theorem Ps (S:aF P w I β hp B M w0) {t kt vt:TypeId} (ht:lQ P t=some (kt,vt)) {m k v:Value} {mx kx vx:V} {r:R} {rd:List Nat} (hm:ao P w I β hp m mx) (hk:ao P w I β hp k kx) (hv:ao P w I β hp v vx)
  (h:(DB P t mx kx vx).run C hp=some (r,rd)):pL P ((Instr.mapUpdate t m k v).run P w) w I β hp B M w0 r:=by
 unfold DB at h
 rw[ht] at h
 obtain ⟨hc,h'⟩:=aG h
 clear h
 have h:=h'
 clear h'
 simp only[aM] at hc
 obtain ⟨kN,Ah,uq⟩:=hc
 have hu:=Jf ht
 have wO:=hk.Pm kN
 have wz:=ao.Zt Ah uq hv
 have K:=Jc kN
 obtain ⟨l,hl⟩:=Ep kN wO
 cases mx<;>simp only at h<;>first|(cases h;done)|skip
 rename_i t' id
 obtain ⟨lY,h'⟩:=aG h
 clear h
 have h:=h'
 clear h'
 rw[aU] at lY
 subst lY
 obtain ⟨l2,h'⟩:=run_get h
 clear h
 have h:=h'
 clear h'
 cases ab:hp id with
 | none=>rw[ab] at h;cases h
 | some blk=>
  rw[ab] at h
  cases blk<;>simp only at h<;>first|(cases h;done)|skip
  rename_i t2 es
  obtain ⟨lY,h'⟩:=aG h
  clear h
  have h:=h'
  clear h'
  rw[aU] at lY
  subst lY
  obtain rfl:=aO h
  cases hm with
  | iH hd=>rw[ab] at hd;cases hd
  | @cA _ _ b aK hd hb=>
   rw[ab] at hd
   cases hd
   have hr:=S.h.rel id _ ab
   cases hr with
   | @map _ Pq Pr _ b' clock E fY aB hh hs hI hx hn=>
    rw[hb] at aB;cases aB
    rw[hu] at fY;cases fY
    have aN:b<w.heap.size:=(iz.1 hh).1
    have fin: ∀(E':Array MapEntry) (Ai:Nat),(Instr.mapUpdate t (.map (some b)) k v).run P w= .ok () {w with heap:=w.heap.setIfInBounds b (.map E' Ai)}→E'.size=(iX kx vx es).length→
      (∀(j:Nat) (e:MapEntry) (x:V),E'[j]? =some e→(iX kx vx es)[j]? =some x→DO P kt vt e x)→E'.toList.Pairwise (fun a b=>a.key≠b.key)→
      pL P ((Instr.mapUpdate t (.map (some b)) k v).run P w) w I β hp B M w0 ⟨.undef,[(id,.map t (iX kx vx es))]⟩:=by
     intro E' Ai cX I9 cC Jh
     have e6:({w with heap:=w.heap.setIfInBounds b (.map E' Ai)}:World).heap[b]? =some (.map E' Ai):=by simp[aN]
     obtain ⟨a1,a2⟩:=DY S (w':={w with heap:=w.heap.setIfInBounds b (.map E' Ai)}) (blk':= .map t (iX kx vx es)) ab (by simp) rfl hb hI (by simp)
      (fun b' aB=>by simp[Array.getElem?_setIfInBounds,Ne.symm aB]) (by simp only[bsize,e6,hh]) (by simp) ⟨rfl,rfl⟩ (fun _=> .map hu rfl e6 I9 hI cC Jh)
     exact ⟨_,I,β,cX,a1,a2,rfl⟩
    rcases Pj hs hx hn kN wO w with ⟨h1,U,_,_,h5⟩|⟨j,e,k',y,h1,hE,Pt,jH,Zx,Zy,_,_,_,_,h5⟩
    ·have e5:=h5 vx
     refine fin (E.push {key:=k,val:=v,born:=clock}) (clock+1) ?_ (by rw[e5];simp[hs]) (fun j e x he qO=> ?_) ?_
     ·unfold Instr.mapUpdate
      simp only[Sem.run_bind,run_underlying hu,Result.andThen_ok,Go.MapKept.run_getObj_map hh,K.check w false hl,h1,Go.MapKept.run_setObj_map _ hh]
     ·rw[e5] at qO
      rw[Array.getElem?_push] at he
      split at he
      ·rename_i hj
       rw[iW (by omega),hj,hs,Nat.sub_self] at qO
       simp at he qO
       subst he;subst qO
       exact ⟨kx,vx,rfl,kN,wO,uq,wz⟩
      ·have hj:j<E.size:=(iz.1 he).1
       rw[iU (by omega)] at qO
       exact hx j e x he qO
     ·rw[Array.toList_push,List.pairwise_append]
      refine ⟨hn,by simp,fun a ha b' aB=> ?_⟩
      simp only[ez] at aB
      subst aB
      exact U a ha
    ·have e5:=h5 vx
     have hj:j<E.size:=(iz.1 hE).1
     refine fin (E.modify j fun e=>{e with key:=k,val:=v}) clock ?_ (by rw[e5];simp[hs]) (fun i e' x he gJ=> ?_) ?_
     ·have bQ:=K.stays w hl
      unfold Instr.mapUpdate
      simp only[Sem.run_bind,run_underlying hu,Result.andThen_ok,Go.MapKept.run_getObj_map hh,K.check w false hl,h1]
      simp only[hE,Option.map_some,Option.getD_some,Pt,bQ,Result.andThen_ok,Go.MapKept.run_setObj_map _ hh]
     ·rw[e5] at gJ
      rw[zg] at he
      rw[List.getElem?_set] at gJ
      split at he
      ·rename_i ur
       subst ur
       rw[aj rfl,aj (by omega)] at gJ
       rw[hE] at he
       simp at he gJ
       subst he;subst gJ
       exact ⟨k',vx,rfl,Zx,Zy,uq,wz⟩
      ·rename_i ur
       rw[ai ur] at gJ
       exact hx i e' x he gJ
     ·have nM: ∀i (h1:i<(E.modify j fun e=>{e with key:=k,val:=v}).toList.length) (U:i<E.toList.length),((E.modify j fun e=>{e with key:=k,val:=v}).toList[i]).key=(E.toList[i]).key:=by
       intro i h1 U
       simp only[Array.getElem_toList,Array.getElem_modify]
       split
       ·rename_i ur
        subst ur
        have:=(iz.1 hE).2
        rw[this,Pt]
       ·rfl
      rw[Dg] at hn⊢
      intro i i' h1 U ji
      have g1:i<E.toList.length:=by simpa using h1
      have g2:i'<E.toList.length:=by simpa using U
      rw[nM i h1 g1,nM i' U g2]
      exact hn i i' g1 g2 ji
theorem Zz (S:aF P w I β hp B M w0) {t ty kt vt:TypeId} {v:Value} {x:V} {r:R} {rd:List Nat} (hu:P.underlying t=some (.map kt vt)) (hv:ao P w I β hp v x)
  (h:(DC x).run C hp=some (r,rd)):c6 P ((Builtin.len_ #[t] ty #[v]).run P w) w I β hp B M w0 r:=by
 unfold DC at h
 cases x<;>simp only at h<;>first|(cases h;done)|skip
 ·rename_i t' id
  obtain ⟨l2,h'⟩:=run_get h
  clear h
  have h:=h'
  clear h'
  cases ab:hp id with
  | none=>rw[ab] at h;cases h
  | some blk=>
   rw[ab] at h
   cases blk<;>simp only at h<;>first|(cases h;done)|skip
   rename_i t2 es
   obtain rfl:=aO h
   cases hv with
   | iH hd=>rw[ab] at hd;cases hd
   | @cA _ _ b aK hd hb=>
    rw[ab] at hd
    cases hd
    have hr:=S.h.rel id _ ab
    cases hr with
    | @map _ Pq Pr _ b' clock E fY aB hh hs hI hx hn=>
     rw[hb] at aB;cases aB
     refine .same S (v:= .int .i64 E.size) (by simp[Builtin.len_,run_underlying hu,Go.MapKept.run_getObj_map hh,goInt]) ?_
     rw[hs]
     exact .int
 ·obtain rfl:=aO h
  cases hv
  exact .same S (v:= .int .i64 0) (by simp[Builtin.len_,run_underlying hu,goInt]) .int
theorem ao.Ji {v:Value} {t:TypeId} (h:ao P w I β hp v (.dB t)):v= .map none:=by cases h;rfl
theorem ao.ZA {v:Value} {t t':TypeId} {id:Nat} {es:List V} (h:ao P w I β hp v (.cA t id)) (ab:hp id=some (.map t' es)): ∃b,v= .map (some b):=by
 cases h with
 | iH h=>rw[ab] at h;cases h
 | cA h hb=>exact ⟨_,rfl⟩
theorem Pu (S:aF P w I β hp B M w0) {op:BinOp} {t:TypeId} {a:Option Nat} {r:R} {rd:List Nat} (x y:Operand)
  (h:(Dw P op t a.isNone).run C hp=some (r,rd)):c6 P ((do eqGuard op t x y (.map a) (.map none);binOp op t (.map a) (.map none)).run P w) w I β hp B M w0 r:=by
 unfold Dw at h
 split at h
 case h_2=>cases h
 rename_i kt vt hu
 have he:(Op.equal t (.map a) (.map none)).run P w= .ok a.isNone w:=by
  show (Op.equalIn (9999+1) t (.map a) (.map none)).run P w=_
  rw[Op.equalIn]
  cases a<;>simp[Sem.run_bind,run_underlying hu,Result.andThen_ok,Sem.run_pure]
 cases op<;>simp only at h<;>first|(cases h;done)|skip
 ·obtain rfl:=aO h
  exact .same S (by simp[eqGuard,binOp,he]) .bool
 ·obtain rfl:=aO h
  exact .same S (by simp[eqGuard,binOp,he]) .bool
end
end Go.AM
namespace Go.AM
section
variable {P:Program} {w w':World} {I I':Nat→Prop} {β β':Nat→Option Nat} {hp hp':Nat→Option an} {C:ag} {B:Nat} {M:Nat→Prop} {w0:Start}
theorem ZB {e:TypeId} (he:P.underlying e=some (.int .u8)) (hc:P.cellsOf e=1) (s:ByteArray): ∀(i j:Nat) (x:V) (t':TypeId),(s.data.toList.map dC)[i]? =some x→(aX P e)[j]? =some t'→j<P.cellsOf e→
  ∃u,(Lib.strCells s)[i*P.cellsOf e+j]? =some u∧Pure P w I t' u (bN P e x j):=by
 intro i j x t' hx ht hj
 have nO:bL P e=false:=by simp[bL,he]
 obtain rfl:j=0:=by omega
 simp only[aX,nO,cond_false,List.getElem?_cons_zero,dY] at ht
 subst ht
 rw[fR] at hx
 cases hb:s.data.toList[i]? with
 | none=>rw[hb] at hx;cases hx
 | some b=>
  rw[hb] at hx
  cases hx
  refine ⟨.int .u8 b.toNat,?_,?_⟩
  ·rw[hc,nq,Nat.add_zero]
   simp only[Lib.strCells,fR,hb,Option.map_some]
  ·simp only[bN,nO,cond_false]
   exact .int he
theorem ZC (w:World) (t u ty e:TypeId) (i:TypeInfo) (z:Value) (ht:P.underlying t=some (.slice e)) (hu:P.underlying u=some .string) (hi:P.info? e=some i) (hz:i.zero=some z)
  (s:ByteArray) (h0:0<s.size) (El:(s.size:Int)≤9223372036854775807) (Em:s.size*i.bytes≤281474976710656) (a0:Option Addr):
  (Builtin.append_ #[t,u] ty #[.slice a0 0 0,.string s]).run P w=
   .ok (.slice (some ⟨w.heap.size,0,none⟩) s.size (grownCap w s.size 0 e))
    (w.drew.alloc (.cells (s.data.map (fun b=>Value.int .u8 b.toNat)++Builtin.zeroCells z.cells (grownCap w s.size 0 e-s.size)) e)):=by
 cases a0 with
 | none=>exact run_append_nil_string w t u ty e i z ht hu hi hz s h0 El Em
 | some b=>
  rw[←run_append_nil_string w t u ty e i z ht hu hi hz s h0 El Em]
  have hn:s.size≠0:=by omega
  have ZD: ¬(9223372036854775807<(s.size:Int)):=by omega
  have ZE: ¬(281474976710656<Builtin.nextslicecap s.size 0*i.bytes):=by rw[nextslicecap_zero h0];omega
  simp[Builtin.append_,run_underlying ht,run_underlying hu,sizeOf,typeInfo,zeroValue,hi,hz,Builtin.lenOf,Builtin.firstCells,hn,ZD,ZE,Question.forced,newRow,grownCap,loadCells,loadCellsFrom]
theorem Pv (S:aF P w I β hp B M w0) {t u ty e:TypeId} {nb:Nat} {x:ByteArray} {xs:List V} {i:TypeInfo} {z:Value} (hu:P.underlying t=some (.slice e)) (oS:P.underlying u=some .string) (au:cS P e=true) (hn:hp nb=none)
 (hi:P.info? e=some i) (hz:i.zero=some z) (h3:i.size=P.cellsOf e) (h4:z.cells.size=P.cellsOf e) (wP:i.size=1) (mL:P.bytesOf e=i.bytes) (dV:xs.length*P.bytesOf e≤bP) (mP:xs.length=x.size) (kK:(Lib.strCells x).length=x.size)
 (cT: ∀(i j:Nat) (y:V) (t':TypeId),xs[i]? =some y→(aX P e)[j]? =some t'→j<P.cellsOf e→∃u,(Lib.strCells x)[i*P.cellsOf e+j]? =some u∧Pure P w I t' u (bN P e y j)):
 ∀a0,∃v w' β',(Builtin.append_ #[t,u] ty #[.slice a0 0 0,.string x]).run P w= .ok v w'∧Le P w I β hp w' I β' (aI hp nb (some (.arr e xs false)))∧aF P w' I β' (aI hp nb (some (.arr e xs false))) B M w0∧
  ao P w' I β' (aI hp nb (some (.arr e xs false))) v (.whole e nb):=by
 intro a0
 have uk:=wh au
 have hlen:xs.length≤2^45:=by
  have:xs.length*1≤xs.length*P.bytesOf e:=tA _ uk
  simp only[bP] at dV
  omega
 by_cases h0:x.size=0
 ·have gN:xs=[]:=lJ (by omega)
  subst gN
  obtain ⟨a1,a2⟩:=DW S e hn
  have hf:=Lib.run_firstCells_string (P:=P) w 1 x
  rw[h0] at hf
  have qS:Lib.strCells x=[]:=lJ (by omega)
  exact ⟨.slice a0 0 0,_,_,by cases a0<;>simp[storeCells,qS,Builtin.append_,run_underlying hu,run_underlying oS,sizeOf,typeInfo,hi,wP,Builtin.lenOf,h0,hf],a1,a2,.dI (cW _ _ _) (cW _ _ _)⟩
 ·have cX:=ZC (P:=P) w t u ty e i z hu oS hi hz x (by omega) (by omega) (by rw[←mL,←mP];simp only[bP] at dV;omega) a0
  have e1:(x.data.map fun b=>Value.int .u8 b.toNat)=(Lib.strCells x).toArray:=by
   apply Array.ext'
   simp[Lib.strCells]
  rw[e1,←mP] at cX
  have pQ:=grownCap_ge w xs.length 0 e
  have um:grownCap w xs.length 0 e≤maxLen:=grownCap_le_maxLen w xs.length 0 e (by simp only[maxLen];omega)
  obtain ⟨n1,n2,n3⟩:=wJ S.drew (nb:=nb) (cap:=grownCap w xs.length 0 e) (es:=xs) (C0:=(Lib.strCells x).toArray++Builtin.zeroCells z.cells (grownCap w xs.length 0 e-xs.length)) au hn
   (by
    have:(Lib.strCells x).length=xs.length*P.cellsOf e:=by rw[kK,mP,←h3,wP,nq]
    simp only[De,qp,size_zeroCells,h4,this,←dw];congr 1;omega) pQ um
   (fun i' j y t' hy ht hj=>by
    obtain ⟨u,fY,hp⟩:=cT i' j y t' hy ht hj
    have aN:=(bz.1 fY).1
    refine ⟨u,?_,Pure.drew hp⟩
    rw[Array.getElem?_append_left (by simpa using aN)]
    simpa using fY)
  exact ⟨_,_,_,cX,(Le.drew w I β hp).trans n1,n2,n3⟩
theorem ZF (S:aF P w I β hp B M w0) {t u ty e:TypeId} {nb:Nat} {s:Value} {sv:V} {x:ByteArray} {r:R} {rd:List Nat} (hu:P.underlying t=some (.slice e)) (oS:P.underlying u=some .string) (he:P.underlying e=some (.int .u8)) (hs:ao P w I β hp s sv)
  (h:(vX P nb e sv (.list e (x.data.toList.map dC))).run C hp=some (r,rd)):c6 P ((Builtin.append_ #[t,u] ty #[s,.string x]).run P w) w I β hp B M w0 r:=by
 unfold vX at h
 obtain ⟨au,h⟩:=aG h
 simp only[si] at h
 obtain ⟨_,h⟩:=aG h
 have nO:bL P e=false:=by simp[bL,he]
 have dK:P.cellsOf e=1:=by rw[←(kH au).1,zQ nO];rfl
 obtain ⟨i,z,hi,hz,h3,h4,_⟩:=kL au
 have wP:i.size=1:=by rw[h3,dK]
 have uk:=wh au
 have mL:P.bytesOf e=i.bytes:=by simp[Program.bytesOf,hi]
 have Eu:=ZB (P:=P) (w:=w) (I:=I) he dK x
 have mP:(x.data.toList.map dC).length=x.size:=by simp
 have kK:(Lib.strCells x).length=x.size:=Lib.strCells_length x
 have h1:=Lib.strCells_oneCell x
 generalize gN:x.data.toList.map dC=xs at*
 cases sv with
 | nilS e'=>
  obtain ⟨hc,h⟩:=aG h
  simp only[aM,aU,cV] at hc
  obtain ⟨hn,rfl⟩:=nJ h
  obtain ⟨a0,rfl⟩: ∃a0,s= .slice a0 0 0:=by cases hs;exact ⟨_,rfl⟩
  obtain ⟨v,w',β',a1,a2,a3,a4⟩:=Pv S hu oS au hn hi hz h3 h4 wP mL hc.2 mP kK Eu _
  exact ⟨v,w',I,β',a1,a2,a3,a4⟩
 | whole e' id=>
  obtain ⟨l,h⟩:=run_get h
  cases ab:hp id with
  | none=>rw[ab] at h;cases h
  | some blk=>
   rw[ab] at h
   cases blk with
   | dead=>cases h
   | var _=>cases h
   | nest _ _ _=>cases h
   | map _ _=>cases h
   | arr dG es fz=>
    cases fz with
    | true=>cases h
    | false=>
     obtain ⟨hc,h⟩:=aG h
     obtain ⟨hn,rfl⟩:=nJ h
     simp only[aM,aU,cV] at hc
     obtain ⟨IY,IZ,dV⟩:=hc
     subst IY
     subst IZ
     have bD:nb≠id:=fun e=>by rw[e,ab] at hn;cases hn
     obtain ⟨k1,k2⟩:=DX S ab
     have kM:aI hp id (some an.dead) nb=none:=by rw[eo _ _ bD];exact hn
     cases hs with
     | ek hd=>rw[ab] at hd;cases hd
     | eD hd=>rw[ab] at hd;cases hd
     | dI hd hb=>
      rw[ab] at hd
      cases hd
      simp only[List.length_nil,gY] at dV
      obtain ⟨v,w',β',a1,a2,a3,a4⟩:=Pv k2 hu oS au kM hi hz h3 h4 wP mL dV mP kK Eu _
      exact ⟨v,w',I,β',a1,k1.trans a2,a3,a4⟩
     | @whole _ _ aK nz b cap hd hb ba cf hm=>
      rw[ab] at hd
      cases hd
      have hr:=S.h.rel id _ ab
      cases hr with
      | dJ aB=>rw[aB] at hb;cases hb
      | @arr _ _ _ b' Ca _ aB hh pS hf en mM=>
       rw[hb] at aB
       cases aB
       have hlen:es.length+xs.length≤2^45:=by
        have:(es.length+xs.length)*1≤(es.length+xs.length)*P.bytesOf e:=tA _ uk
        simp only[bP] at dV
        omega
       rw[nD hh] at ba
       have qM: ∀aD blk',aI hp id (some an.dead) aD=some blk'→¬bA P w (β aD) blk' b:=by
        intro aD blk' h1 U
        by_cases ji:aD=id
        ·subst ji;rw[cW] at h1;cases h1;exact U.alive rfl
        ·rw[eo _ _ ji] at h1
         exact ji (S.h.inj aD id blk' _ b h1 ab U (.root (by simp) hb))
       have I0:=S.h.sw id _ b ab (by simp) hb
       have lZ:es.length*P.cellsOf e≤Ca.toList.length:=by simpa using pS
       have Pw:(Lib.strCells x).length=xs.length*P.cellsOf e:=by rw[kK,mP,dK,nq]
       by_cases sG:es.length+xs.length≤cap
       ·have Ad:es.length*P.cellsOf e+(Lib.strCells x).length≤Ca.size:=by rw[Pw,←dw,←ba];exact dF _ sG
        have cX:=Lib.run_append_room_string (P:=P) w t u ty e i hu oS hi wP b es.length cap Ca hh x (by rw[←mP];exact sG) (by rw[←kK];rw[dK,nq] at Ad;exact Ad)
        have cT:=Ej (P:=P) (w:=w) (I:=I) (n:=es.length) (c:=Ca.toList) rfl (fun i j y t' a b c=>by
         obtain ⟨v,hv,hp⟩:=mM i j y t' a b c
         exact ⟨v,by simpa using hv,hp⟩) Eu lZ (Ca.toList.drop (es.length*P.cellsOf e+(Lib.strCells x).length))
        generalize wF:(Ca.toList.take es.length++Lib.strCells x++Ca.toList.drop (es.length+x.size)).toArray=C' at cX
        have oQ:C'.size=Ca.size:=by
         rw[dK,nq] at Ad
         rw[←wF];simp;omega
        have Px:(w.setRow b C').heap[b]? =some (.cells C' e (0,0)):=setRow_heap w b Ca C' e _ hh
        obtain ⟨a1,a2⟩:=zU k2 (blk:= .arr e (es++xs) false) (w':=w.setRow b C') kM qM (en rfl) (fun b' h _=>setRow_other w b b' _ h) (by simp) ⟨rfl,rfl⟩ I0
         (fun b' h=>(dh (h.flat (by simp))).symm) (fun hle=> .arr au rfl Px (by rw[oQ,←ba];exact dF _ (by simpa using sG)) (fun h=>by cases h) (fun _=>en rfl) fun i j y t' a b c=>by
          obtain ⟨v,hv,hp⟩:=cT i j y t' a b c
          refine ⟨v,?_,hp.mono hle.dm hle.cj⟩
          rw[←wF,np]
          rw[dK] at hv⊢
          simpa[kK] using hv)
        refine ⟨_,_,_,_,cX,k1.trans a1,a2,?_⟩
        have a3:=ao.whole (P:=P) (w:=w.setRow b C') (I:=I) (β:=aI β nb (some b)) (hp:=aI (aI hp id (some .dead)) nb (some (.arr e (es++xs) false))) (cap:=cap) (b:=b) (es:=es++xs) (fz:=false) (id:=nb) (e:=e) (cW _ _ _) (cW _ _ _) (by rw[nD Px,oQ,ba]) (by simpa using sG) hm
        rw[bZ,mP] at a3
        exact a3
       ·have hold: ∀(j:Nat) v,(Ca.toList.take (es.length*P.cellsOf e))[j]? =some v→w.cell? ((⟨b,0,none⟩:Addr).add j)=some v:=by
         intro j v hj
         have cl:=(bz.1 hj).1
         have gu:j<es.length*P.cellsOf e:=by rw[fe] at cl;omega
         rw[fc gu] at hj
         rw[nG,cell?_cells hh,gY]
         simpa using hj
        have cX:=Lib.run_append_grow_string (P:=P) w t u ty e i z hu oS hi hz ⟨b,0,none⟩ es.length cap (Ca.toList.take (es.length*P.cellsOf e)) (by rw[h3];simp;omega) hold x (by omega) (by omega)
         (growslice_fits (by omega) (by rw[←mL,←mP];simp only[bP] at dV;omega))
        rw[←mP] at cX
        have pQ:=grownCap_ge w (es.length+xs.length) cap e
        have um:grownCap w (es.length+xs.length) cap e≤maxLen:=grownCap_le_maxLen w _ cap e (by simp only[maxLen];omega)
        have cT:=Ej (P:=P) (w:=w) (I:=I) (n:=es.length) (c:=Ca.toList) rfl (fun i j y t' a b c=>by
         obtain ⟨v,hv,hp⟩:=mM i j y t' a b c
         exact ⟨v,by simpa using hv,hp⟩) Eu lZ (Builtin.zeroCells z.cells (grownCap w (es.length+xs.length) cap e-(es.length+xs.length))).toList
        obtain ⟨n1,n2,n3⟩:=wJ k2.drew (nb:=nb) (cap:=grownCap w (es.length+xs.length) cap e) (es:=es++xs)
         (C0:=(Ca.toList.take (es.length*P.cellsOf e)).toArray++(Lib.strCells x).toArray++Builtin.zeroCells z.cells (grownCap w (es.length+xs.length) cap e-(es.length+xs.length))) au kM
         (by
          have e1:(Ca.toList.take (es.length*P.cellsOf e)).length=es.length*P.cellsOf e:=by simp;omega
          simp only[De,qp,size_zeroCells,h4,Pw,e1,←dw];congr 1;omega) (by simpa using pQ) um
         (fun i j y t' a b c=>by
          obtain ⟨v,hv,hp⟩:=cT i j y t' a b c
          refine ⟨v,?_,Pure.drew hp⟩
          rw[←r0]
          simpa using hv)
        rw[bZ] at n3
        exact ⟨_,_,_,_,cX,(k1.trans (Le.drew w I β _)).trans n1,n2,n3⟩
 | _=>cases h
end
section
variable {P:Program} {w w':World} {I I':Nat→Prop} {β β':Nat→Option Nat} {hp hp':Nat→Option an} {C:ag} {B:Nat} {M:Nat→Prop} {w0:Start}
theorem Py: ∀(ns:List Int) (s:ByteArray),(ns.foldl (fun r n=>r.push (UInt8.ofNat n.toNat)) s).data.toList=s.data.toList++ns.map fun n=>UInt8.ofNat n.toNat
 | [],s=>by simp
 | n::ns,s=>by
  simp only[List.foldl_cons,Py ns,cy]
  simp[ByteArray.push]
theorem Jj {e:TypeId} {u:Value} {x:V} (he:P.underlying e=some (.int .u8)) (hp:Pure P w I e u x):u= .int .u8 x.toInt:=by
 cases hp with
 | int hp'=>rw[he] at hp';cases hp';rfl
 | bool hp'=>rw[he] at hp';cases hp'
 | str hp'=>rw[he] at hp';cases hp'
 | nil hp'=>rw[he] at hp';cases hp'
 | emp hp'=>rw[he] at hp';cases hp'
 | list _ hp'=>rw[he] at hp';cases hp'
theorem ZG (S:aF P w I β hp B M w0) {src dst e:TypeId} {v:Value} {x:V} {r:R} {rd:List Nat} (hs:P.underlying src=some (.slice e)) (he:P.underlying e=some (.int .u8)) (hd:P.underlying dst=some .string)
  (hv:ao P w I β hp v x) (h:(Rd.aC (cS P e) (si e x fun es=> .ret ⟨.str (lb es),[]⟩)).run C hp=some (r,rd)):c6 P ((convert src dst v).run P w) w I β hp B M w0 r:=by
 obtain ⟨au,h⟩:=aG h
 obtain ⟨xs,hx,l,h⟩:=Ei S.h.rel au hv h
 obtain rfl:=aO h
 have nO:bL P e=false:=by simp[bL,he]
 have h1:P.cellsOf e=1:=by rw[←(kH au).1,zQ nO];rfl
 rcases hx with ⟨⟨a,rfl⟩,rfl⟩|⟨a,c,news,hr⟩
 ·refine .same S (v:= .string .empty) ?_ (.str (by simp[lb]))
  rw[run_convert_bytes_string w src dst e a 0 0 hs he hd]
  cases a<;>simp[Conv.bytesToString,loadCells,loadCellsFrom]
 ·have Ek:news=(xs.map V.toInt).map (Value.int .u8):=by
   apply List.ext_getElem?
   intro j
   by_cases hj:j<xs.length
   ·obtain ⟨u,hu,hp⟩:=hr.el j 0 xs[j] e (bC hj) (by simp[aX,nO]) (by omega)
    rw[h1] at hu
    simp only[bN,nO,cond_false] at hp
    have fY:news[j]? =some u:=by simpa using hu
    rw[fY]
    have:=Jj he hp
    simp[hj,←this]
   ·have hl:news.length=xs.length:=by rw[hr.len,h1];simp
    rw[zc (by omega),zc (by simp;omega)]
  have Jk:=run_loadCells_list (P:=P) w a news hr.cell
  have hl:news.length=xs.length:=by rw[hr.len,h1];simp
  rw[hl] at Jk
  rw[Ek] at Jk
  refine .same S (v:= .string ((xs.map V.toInt).foldl (fun r n=>r.push (UInt8.ofNat n.toNat)) ByteArray.empty)) ?_ (.str ?_)
  ·rw[hr.val,run_convert_bytes_string w src dst e _ _ _ hs he hd]
   exact run_bytesToString w a xs.length c (xs.map V.toInt) Jk
  ·rw[Py]
   simp[lb]
theorem ao.Ev {v:Value} (h:ao P w I β hp v .dy):v= .pointer none:=by cases h;rfl
section
variable (w:World)
theorem ZH (t e:TypeId) (a:Addr) (h:P.underlying t=some (.pointer e)):(binOp .eql t (.pointer (some a)) (.pointer none)).run P w= .ok (.bool false) w:=by
 have h0: ∀d:Nat,(Op.equalIn (d+1) t (.pointer (some a)) (.pointer none)).run P w= .ok false w:=fun d=>by simp[Op.equalIn,run_underlying h]
 simp only[binOp]
 simp[Op.equal,Op.maxDepth,h0 9999]
theorem ZI (t e:TypeId) (a:Addr) (h:P.underlying t=some (.pointer e)):(binOp .neq t (.pointer (some a)) (.pointer none)).run P w= .ok (.bool (!false)) w:=by
 have h0: ∀d:Nat,(Op.equalIn (d+1) t (.pointer (some a)) (.pointer none)).run P w= .ok false w:=fun d=>by simp[Op.equalIn,run_underlying h]
 simp only[binOp]
 simp[Op.equal,Op.maxDepth,h0 9999]
theorem ZJ (t e:TypeId) (a:Addr) (h:P.underlying t=some (.pointer e)):(binOp .eql t (.pointer none) (.pointer (some a))).run P w= .ok (.bool false) w:=by
 have h0: ∀d:Nat,(Op.equalIn (d+1) t (.pointer none) (.pointer (some a))).run P w= .ok false w:=fun d=>by simp[Op.equalIn,run_underlying h]
 simp only[binOp]
 simp[Op.equal,Op.maxDepth,h0 9999]
theorem ZK (t e:TypeId) (a:Addr) (h:P.underlying t=some (.pointer e)):(binOp .neq t (.pointer none) (.pointer (some a))).run P w= .ok (.bool (!false)) w:=by
 have h0: ∀d:Nat,(Op.equalIn (d+1) t (.pointer none) (.pointer (some a))).run P w= .ok false w:=fun d=>by simp[Op.equalIn,run_underlying h]
 simp only[binOp]
 simp[Op.equal,Op.maxDepth,h0 9999]
theorem ZL (t e:TypeId) (h:P.underlying t=some (.pointer e)):(binOp .eql t (.pointer none) (.pointer none)).run P w= .ok (.bool true) w:=by
 have h0: ∀d:Nat,(Op.equalIn (d+1) t (.pointer none) (.pointer none)).run P w= .ok true w:=fun d=>by simp[Op.equalIn,run_underlying h]
 simp only[binOp]
 simp[Op.equal,Op.maxDepth,h0 9999]
theorem ZM (t e:TypeId) (h:P.underlying t=some (.pointer e)):(binOp .neq t (.pointer none) (.pointer none)).run P w= .ok (.bool (!true)) w:=by
 have h0: ∀d:Nat,(Op.equalIn (d+1) t (.pointer none) (.pointer none)).run P w= .ok true w:=fun d=>by simp[Op.equalIn,run_underlying h]
 simp only[binOp]
 simp[Op.equal,Op.maxDepth,h0 9999]
end
theorem Ew (S:aF P w I β hp B M w0) {op:BinOp} {t:TypeId} {b:Bool} {x y:Operand} {v1 v2:Value} {r:R} {rd:List Nat} (h:(ptrEq P op t b).run C hp=some (r,rd)) (hg:(eqGuard op t x y v1 v2).run P w= .ok () w)
  (he: ∀e j,P.underlying t=some (.pointer e)→P.info? e=some j→(binOp .eql t v1 v2).run P w= .ok (.bool b) w∧(binOp .neq t v1 v2).run P w= .ok (.bool (!b)) w):
  c6 P ((do eqGuard op t x y v1 v2;binOp op t v1 v2:Sem Value).run P w) w I β hp B M w0 r:=by
 unfold ptrEq at h
 cases hu:P.underlying t with
 | none=>rw[hu] at h;cases h
 | some d=>
  rw[hu] at h
  cases d<;>simp only at h<;>first|(cases h;done)|skip
  rename_i e
  obtain ⟨h1,U⟩:=aG h
  obtain ⟨j,hj⟩:=zf.1 h1
  obtain ⟨k1,k2⟩:=he e j hu hj
  cases op<;>simp only at U<;>first|(cases U;done)|skip
  ·obtain rfl:=aO U
   exact .same S (by simp only[Sem.run_bind,hg,Result.andThen_ok,k1]) .bool
  ·obtain rfl:=aO U
   exact .same S (by simp only[Sem.run_bind,hg,Result.andThen_ok,k2]) .bool
theorem ZN {b n:Nat}:(∀b',b'≠b→(w.freeze ⟨b,0,none⟩ n).heap[b']? =w.heap[b']?)∧bsize (w.freeze ⟨b,0,none⟩ n) b=bsize w b∧w.heap.size≤(w.freeze ⟨b,0,none⟩ n).heap.size∧(w.freeze ⟨b,0,none⟩ n).os=w.os∧(w.freeze ⟨b,0,none⟩ n).output=w.output:=by
 unfold World.freeze
 split
 ·exact ⟨fun _ _=>rfl,rfl,b9 _,rfl,rfl⟩
 ·refine ⟨fun b' hb=> ?_,?_,by simp,rfl,rfl⟩
  ·simp only[zg]
   rw[ai (fun e=>hb e.symm)]
  ·simp only[bsize,zg,cO]
   cases w.heap[b]? with
   | none=>rfl
   | some o=>cases o<;>rfl
theorem ZO {e:TypeId} (hb:isByte P e=true):P.underlying e=some (.int .u8):=by
 unfold isByte at hb
 split at hb
 ·assumption
 ·cases hb
theorem ZP (S:aF P w I β hp B M w0) {ts:Array TypeId} {ty e:TypeId} {v:Value} {id:Nat} {es:List V} {fz:Bool} (hv:ao P w I β hp v (.whole e id)) (ab:hp id=some (.arr e es fz)) (h0:0<es.length):
  c6 P ((Builtin.unsafeSliceData_ ts ty #[v]).run P w) w I β hp B M w0 ⟨.ptr id 0 0,[]⟩:=by
 cases hv with
 | ek h=>rw[ab] at h;cases h
 | dI h _=>rw[ab] at h;cases h;simp at h0
 | eD h _ _ _ _=>rw[ab] at h;cases h
 | @whole _ _ aK nz b cap h hb cf hle hm=>
  rw[ab] at h;cases h
  refine .same S (Lib.run_unsafeSliceData_row w ts ty ⟨b,0,none⟩ es.length cap (by omega)) ?_
  have:=ao.ptr (P:=P) (w:=w) (I:=I) (β:=β) (i:=0) (c:=0) ab (by simp) hb
  simpa using this
theorem ZQ (S:aF P w I β hp B M w0) {t u ty e:TypeId} {vx:Value} {id:Nat} {n:Int} {es:List V} (hu:P.underlying t=some (.pointer e)) (hb:isByte P e=true) (hv:ao P w I β hp vx (.ptr id 0 0))
  (ab:hp id=some (.arr e es false)) (h0:0<n) (hn:n≤es.length) (hm:n.toNat≤sh) (lX:(es.take n.toNat).all v8=true):c6 P ((Builtin.unsafeString_ #[t,u] ty #[vx,.int .i64 n]).run P w) w I β hp B M w0 ⟨.str (lb (es.take n.toNat)),[(id,.dead)]⟩:=by
 obtain ⟨b,Jl,rfl⟩:=hv.hU ab (by simp)
 have he:P.underlying e=some (.int .u8):=by
  unfold isByte at hb
  split at hb
  ·assumption
  ·cases hb
 have nO:bL P e=false:=by simp[bL,he]
 have hr:=S.h.rel id _ ab
 rw[Jl] at hr
 cases hr with
 | dJ aB=>cases aB
 | @arr _ _ _ b1 Ca au lZ hh hs hI cQ cT=>
  cases lZ
  have h1:P.cellsOf e=1:=by rw[←(kH au).1,zQ nO];rfl
  have aN:=S.X2 ab (by simp) Jl
  have hl:(lb (es.take n.toNat)).length=n.toNat:=by simp[lb];omega
  have Jh:n=((lb (es.take n.toNat)).length:Nat):=by rw[hl];omega
  have cX:=Lib.run_unsafeString_row (P:=P) w t u ty e hu h1 b Ca.size (by simp[World.shape?,hh]) (lb (es.take n.toNat)) (fun h=>by rw[h] at hl;simp at hl;omega) (by rw[hl];rw[h1] at hs;omega) (by rw[hl];unfold sh at hm;omega) (fun j x hx=>by
   have hj:j<n.toNat:=by
    have:=(bz.1 hx).1
    rw[hl] at this;exact this
   have iJ:j<es.length:=by omega
   simp only[lb,fR,fc hj,bC iJ,Option.map_some,dY] at hx
   obtain ⟨v,wK,bq⟩:=cT j 0 es[j] e (bC iJ) (by simp[aX,nO]) (by omega)
   rw[h1] at wK
   simp only[bN,nO,cond_false] at bq
   have:=Jj he bq
   have hr:=fC.1 lX es[j] (jP (by rw[fc hj];exact bC iJ))
   simp only[v8,aM,eg] at hr
   have pM:(x.toNat:Int)=es[j].toInt:=by
    rw[←hx]
    have:es[j].toInt.toNat<256:=by omega
    simp only[UInt8.toNat_ofNat']
    omega
   rw[nG,cell?_cells hh,pM]
   rw[show 0+j=j*1+0 by omega,wK,this])
  obtain ⟨f1,f2,f3,f4,f5⟩:=ZN (w:=w) (b:=b) (n:=n.toNat)
  obtain ⟨k1,k2⟩:=DY (w':=w.freeze ⟨b,0,none⟩ n.toNat) S ab (by simp) (blk':= .dead) (by trivial) Jl (cQ rfl) (by simp) f1 f2 f3 ⟨f4,f5⟩ (fun _=> .dead)
  rw[←Jh,hl] at cX
  refine ⟨.string ⟨(lb (es.take n.toNat)).toArray⟩,_,I,β,?_,k1,k2,.str ?_⟩
  ·simpa using cX
  ·rfl
def Jm:Op→Bool
 | .call {callee:= .value (.func _),..}=>true
 | .call {callee:= .value (.tmp _),..}=>true
 | .defer _=>true
 | _=>false
theorem pJ.val {o:Oper} {a:Act} {s:Sem Value} {r:R} (he:execOp a.eval o=(do Pure.pure (Next.value (←s)))) (h:c6 P (s.run P w) w I β hp B M w0 r):pJ P ((execOp a.eval o).run P w) w I β hp B M w0 r:=by
 rw[he];exact h.op
theorem ZR {A:cJ} (S:aF P w I β hp B M w0) (hg:gF P A.aE w I) {a:Act} {sl:Nat→V} (hs:lj P w I β hp a sl) {ix nb:Nat} {o:Oper} (Jn:Jm o.op=false) {r:R} {rd:List Nat}
  (h:(fG P A sl ix nb o).run C hp=some (r,rd)):pJ P ((execOp a.eval o).run P w) w I β hp B M w0 r:=by
 obtain ⟨dst,op,ty,pos,after,guard⟩:=o
 cases op<;>simp only[fG] at h<;>first|(cases h;done)|skip
 case move x=>
  obtain rfl:=aO h
  exact ⟨_,w,I,β,.inl (by simp[execOp]),Le.refl w I β hp,S,hs.ev hg ty x⟩
 case assign x=>
  obtain rfl:=aO h
  exact ⟨_,w,I,β,.inl (by simp[execOp]),Le.refl w I β hp,S,hs.ev hg ty x⟩
 case pick c x y=>
  have hc:=hs.ev hg ty c
  cases ui:aP P A.aE ty sl c<;>rw[ui] at h hc<;>simp only at h<;>first|(cases h;done)|skip
  rename_i t
  have ZS:=hc.kI
  have hx:=hs.ev hg ty x
  have hy:=hs.ev hg ty y
  have fin: ∀z:V,ao P w I β hp (if t then a.eval x else a.eval y) z→pJ P ((execOp a.eval ⟨dst,.pick c x y,ty,pos,after,guard⟩).run P w) w I β hp B M w0 ⟨z,[]⟩:=by
   intro z hz
   exact ⟨_,w,I,β,.inl (by simp[execOp,ZS,asBool]),Le.refl w I β hp,S,hz⟩
  cases Pz:gone (aP P A.aE ty sl x) with
  | true=>
   rw[Pz] at h
   obtain ⟨h1,h⟩:=aG h
   obtain rfl:=aO h
   have:t=false:=by simpa using h1
   subst this
   refine fin _ ?_
   simpa using hy
  | false=>
   rw[Pz] at h
   simp only[cond_false] at h
   cases Ey:gone (aP P A.aE ty sl y) with
   | true=>
    rw[Ey] at h
    obtain ⟨h1,h⟩:=aG h
    obtain rfl:=aO h
    subst h1
    refine fin _ ?_
    simpa using hx
   | false=>
    rw[Ey] at h
    obtain rfl:=aO h
    exact fin _ (Om hx hy)
 case makeFunc fn x y=>
  cases fn<;>simp only[fG] at h<;>first|(cases h;done)|skip
  rename_i f
  obtain rfl:=aO h
  refine ⟨.func (.func f) (x.map a.eval) (y.map a.eval),w,I,β,.inl (by simp[execOp,Instr.makeFunc]),Le.refl w I β hp,S,.fn (by simp) (fun j v z hj hz=> ?_) (by simp) (fun j v z hj hz=> ?_)⟩
  ·rw[Array.getElem?_map] at hj
   rw[fR,r0] at hz
   cases hx:x[j]? with
   | none=>rw[hx] at hj;cases hj
   | some o1=>
    rw[hx] at hj hz
    cases hj
    cases hz
    exact hs.ev hg ty o1
  ·rw[Array.getElem?_map] at hj
   rw[fR,r0] at hz
   cases hx:y[j]? with
   | none=>rw[hx] at hj;cases hj
   | some o1=>
    rw[hx] at hj hz
    cases hj
    cases hz
    exact hs.ev hg ty o1
 case defer c=>cases Jn
 case makeMap t res=>
  cases res with
  | some x=>cases h
  | none=>exact .val rfl (Zw S h)
 case lookup t m k ok=>
  cases ht:lQ P t with
  | none=>rw[ht] at h;cases h
  | some q=>
   obtain ⟨kt,vt⟩:=q
   rw[ht] at h
   exact .val (s:=Instr.lookup t (a.eval m) (a.eval k) ok) rfl (Zv S ht (hs.ev hg t m) (hs.ev hg kt k) h)
 case mapUpdate t m k x=>
  cases ht:lQ P t with
  | none=>rw[ht] at h;cases h
  | some q=>
   obtain ⟨kt,vt⟩:=q
   rw[ht] at h
   have:=Ps S ht (hs.ev hg t m) (hs.ev hg kt k) (hs.ev hg vt x) h
   exact this.op
 case insert t m k x=>
  cases ht:lQ P t with
  | none=>rw[ht] at h;cases h
  | some q=>
   obtain ⟨kt,vt⟩:=q
   rw[ht] at h
   have:=Ps S ht (hs.ev hg t m) (hs.ev hg kt k) (hs.ev hg vt x) h
   exact this.op
 case alloc e=>
  exact .val rfl (YI S h)
 case box e x=>
  exact .val rfl (YJ S (hs.ev hg e x) h)
 case build t ps=>exact .val rfl (YL S hs hg h)
 case buildSlice t len ps=>
  cases hu:P.underlying t with
  | none=>rw[hu] at h;cases h
  | some d=>
   rw[hu] at h
   cases d<;>simp only at h<;>first|(cases h;done)|skip
   exact .val rfl (YT S hs hg hu h)
 case load t x=>exact .val rfl (Yi S (hs.ev hg ty x) h)
 case store t x y=>
  have:=YD S (hs.ev hg ty x) (hs.ev hg t y) h
  exact this.op
 case nilCheck x=>
  have hx:=hs.ev hg ty x
  cases ft:aP P A.aE ty sl x<;>rw[ft] at h hx<;>simp only at h<;>first|(cases h;done)|skip
  ·obtain ⟨⟨blk,ab,hd⟩,l,h⟩:=wo h
   obtain rfl:=aO h
   have cC:=hx
   obtain ⟨b,hb,he⟩:=hx.hU ab hd
   rw[he] at cC
   exact ⟨_,w,I,β,.inl (by simp only[execOp,he];rfl),Le.refl w I β hp,S,cC⟩
  ·obtain rfl:=aO h
   have cC:=hx
   obtain ⟨b,o,he,_⟩:=hx.D1
   rw[he] at cC
   exact ⟨_,w,I,β,.inl (by simp only[execOp,he];rfl),Le.refl w I β hp,S,cC⟩
  ·obtain ⟨e0,es,ar,l,ab,h1,U,h3,h⟩:=oK h
   obtain rfl:=aO h
   have cC:=hx
   obtain ⟨b,o,he,_⟩:=hx.Oj ab h1 U h3
   rw[he] at cC
   exact ⟨_,w,I,β,.inl (by simp only[execOp,he];rfl),Le.refl w I β hp,S,cC⟩
 case binOp op t x y yt=>
  have hx:=hs.ev hg t x
  have hy:=hs.ev hg t y
  refine .val (s:=do eqGuard op t x y (a.eval x) (a.eval y);binOp op t (a.eval x) (a.eval y)) rfl ?_
  cases ft:aP P A.aE t sl x<;>cases sH:aP P A.aE t sl y<;>rw[ft,sH] at h<;>rw[ft] at hx<;>rw[sH] at hy<;>first|(simp only[kB] at h;cases h;done)|skip
  ·rw[hx.dU,hy.dU]
   have:=X8 S h
   simpa[X5] using this
  ·rw[hx.kI,hy.kI]
   have:=Ya S h
   simpa[X6] using this
  ·obtain ⟨s1,e1,l1⟩:=hx.mI
   obtain ⟨s2,e2,l2⟩:=hy.mI
   rw[e1,e2]
   rw[←l1,←l2] at h
   have:=Yb (t:=t) S h
   simpa[X7] using this
  ·obtain ⟨cs,e1,h1,U⟩:=hx.ll
   obtain ⟨ds,e2,h3,h4⟩:=hy.ll
   rw[e1,e2]
   exact Yc S h1 h3 U h4 h
  ·
   simp only[kB] at h
   obtain ⟨h1,U⟩:=aG h
   clear h
   simp only[aM,aU] at h1
   obtain ⟨rfl,rfl,rfl⟩:=h1
   obtain ⟨⟨blk,ab,hd⟩,l,h⟩:=wo U
   obtain ⟨b,hb,e1⟩:=hx.hU ab hd
   obtain ⟨b',aB,e2⟩:=hy.hU ab hd
   rw[hb] at aB;cases aB
   rw[e1,e2]
   exact Ew S h (by cases op<;>simp[eqGuard]) fun e j he hj=>⟨run_eql_ptr_same w _ he hj,Lib.run_neq_ptr_same w _ he hj⟩
  ·simp only[kB] at h
   obtain ⟨⟨blk,ab,hd⟩,l,h⟩:=wo h
   obtain ⟨b,_,e1⟩:=hx.hU ab hd
   rw[e1,hy.Ev]
   exact Ew S h (by cases op<;>simp[eqGuard]) fun e j he hj=>⟨ZH w t e _ he,ZI w t e _ he⟩
  ·simp only[kB] at h
   obtain ⟨⟨blk,ab,hd⟩,l,h⟩:=wo h
   obtain ⟨b,_,e1⟩:=hy.hU ab hd
   rw[e1,hx.Ev]
   exact Ew S h (by cases op<;>simp[eqGuard]) fun e j he hj=>⟨ZJ w t e _ he,ZK w t e _ he⟩
  ·simp only[kB] at h
   rw[hx.Ev,hy.Ev]
   exact Ew S h (by cases op<;>simp[eqGuard]) fun e j he hj=>⟨ZL w t e he,ZM w t e he⟩
  ·
   simp only[kB] at h
   obtain ⟨l,h⟩:=run_get h
   split at h
   ·rename_i t2 es ab
    obtain ⟨b,hb⟩:=hx.ZA ab
    rw[hy.Ji,hb]
    exact Pu (a:=some b) S x y h
   ·cases h
  ·simp only[kB] at h
   rw[hx.Ji,hy.Ji]
   exact Pu (a:=none) S x y h
 case unOp op t x=>exact .val rfl (Yd S (hs.ev hg ty x) h)
 case convert src dst x=>
  have hx:=hs.ev hg ty x
  refine .val (s:=convert src dst (a.eval x)) rfl ?_
  cases jd:P.underlying src with
  | none=>rw[jd] at h;cases h
  | some d1=>
   cases nP:P.underlying dst with
   | none=>rw[jd,nP] at h;cases d1<;>cases h
   | some d2=>
    rw[jd,nP] at h
    have iA: ∀{b:Nat} {T:TypeId} {cs:List V} {id:Nat},hp id=some (.var T cs)→β id=some b→w.shape? b=some (T,cs.length):=by
     intro b T cs id ab hb
     have hr:=S.h.rel id _ ab
     rw[hb] at hr
     cases hr with
     | var aB hh ba _ _ _=>cases aB;simp[World.shape?,hh,ba]
    cases d1<;>(try (cases d2<;>cases h;done))
    ·cases d2<;>(try (cases h;done))
     rename_i k1 k2
     cases ft:aP P A.aE ty sl x<;>rw[ft] at h hx<;>simp only at h<;>first|(cases h;done)|skip
     obtain rfl:=aO h
     rw[hx.dU]
     exact .same S (by simp[convert,run_underlying jd,run_underlying nP,Conv.intToInt]) .int
    ·cases d2<;>(try (cases h;done))
     rename_i u
     cases ft:aP P A.aE ty sl x<;>rw[ft] at h hx<;>simp only at h<;>first|(cases h;done)|skip
     rename_i id i c
     obtain ⟨l,h1⟩:=run_get h
     cases ab:hp id with
     | none=>rw[ab] at h1;cases h1
     | some blk=>
      rw[ab] at h1
      cases blk<;>simp only at h1<;>first|(cases h1;done)|skip
      rename_i T cs
      obtain ⟨U,h3⟩:=aG h1
      simp only[aM,aU] at U
      obtain ⟨rfl,h4,h5⟩:=U
      obtain ⟨b,hb,e1⟩:=hx.hU ab (by simp)
      obtain rfl:=aO h3
      obtain ⟨j,hj⟩:=zf.1 h4
      have cC:=hx
      rw[e1] at cC⊢
      exact .same S (Lib.run_from_unsafe w _ jd nP hj (iA ab hb) (by simpa using h5)) cC
    ·cases d2<;>(try (cases h;done))
     rename_i t
     cases ft:aP P A.aE ty sl x<;>rw[ft] at h hx<;>simp only at h<;>first|(cases h;done)|skip
     rename_i id i c
     obtain ⟨l,h1⟩:=run_get h
     cases ab:hp id with
     | none=>rw[ab] at h1;cases h1
     | some blk=>
      rw[ab] at h1
      cases blk<;>simp only at h1<;>first|(cases h1;done)|skip
      rename_i T cs
      obtain ⟨U,h3⟩:=aG h1
      simp only[aM,aU,ku] at U
      obtain ⟨rfl,h4,h5⟩:=U
      obtain ⟨b,hb,e1⟩:=hx.hU ab (by simp)
      obtain rfl:=aO h3
      cases hj:P.info? t with
      | none=>rw[hj] at h5;cases h5
      | some j=>
       rw[hj] at h5
       simp only[nn] at h5
       have h6:j.size≠0:=fun e=>by rw[e] at h5;cases h5
       have cC:=hx
       rw[e1] at cC⊢
       exact .same S (Lib.run_to_unsafe w _ jd nP hj h6 (iA ab hb) (by simpa using h4)) cC
    ·rename_i e
     cases d2<;>(try (cases h;done))
     simp only at h
     cases he:P.underlying e with
     | none=>rw[he] at h;cases h
     | some d3=>
      rw[he] at h
      cases d3<;>(try (cases h;done))
      rename_i k
      cases k<;>(try (cases h;done))
      exact ZG S jd he nP hx h
 case fieldAddr s x f=>exact .val rfl (Ye S (hs.ev hg ty x) h)
 case field s x f=>exact .val rfl (Zb S (hs.ev hg ty x) h)
 case indexAddr t x y=>exact .val rfl (Zk S (hs.ev hg ty x) (hs.ev hg 0 y) h)
 case index t x y=>
  have hx:=hs.ev hg ty x
  have hy:=hs.ev hg 0 y
  refine .val (s:=Instr.index t (a.eval x) (a.eval y)) rfl ?_
  cases hu:P.underlying t with
  | none=>rw[hu] at h;cases h
  | some d=>
   rw[hu] at h
   cases d<;>(try (cases h;done))
   cases ft:aP P A.aE ty sl x<;>rw[ft] at h hx<;>(try (cases h;done))
   cases sH:aP P A.aE 0 sl y<;>rw[sH] at h hy<;>(try (cases h;done))
   obtain ⟨s,e1,l1⟩:=hx.mI
   rw[e1,hy.dU]
   exact Zd S hu l1 h
 case slice t x lo hi mx=>
  cases mx with
  | some m=>
   simp only at h
   refine .val (s:=Instr.sliceAt t (a.eval x) (lo.map a.eval) (hi.map a.eval) (some (a.eval m))) (by simp[execOp]) (Zi S (hs.ev hg ty x) (fun hy=> ?_) (fun y hy=> ?_) (fun y hy=> ?_) h)
   ·cases lo with
    | none=>rfl
    | some l=>cases hy
   ·cases hi with
    | none=>cases hy
    | some l=>cases hy;exact ⟨_,rfl,hs.ev hg 0 l⟩
   ·cases hy;exact ⟨_,rfl,hs.ev hg 0 m⟩
  | none=>
   simp only at h
   have plain:(DD P t (aP P A.aE ty sl x) (lo.map (aP P A.aE 0 sl)) (hi.map (aP P A.aE 0 sl))).run C hp=some (r,rd)→pJ P ((execOp a.eval ⟨dst,.slice t x lo hi none,ty,pos,after,guard⟩).run P w) w I β hp B M w0 r:=by
    intro h
    refine .val (s:=Instr.sliceAt t (a.eval x) (lo.map a.eval) (hi.map a.eval) none) (by simp[execOp]) (Zh S (hs.ev hg ty x) (fun y hy=> ?_) (fun y hy=> ?_) (fun hy=> ?_) (fun hy=> ?_) h)
    ·cases lo with
     | none=>cases hy
     | some l=>cases hy;exact ⟨_,rfl,hs.ev hg 0 l⟩
    ·cases hi with
     | none=>cases hy
     | some l=>cases hy;exact ⟨_,rfl,hs.ev hg 0 l⟩
    ·cases lo with
     | none=>rfl
     | some l=>cases hy
    ·cases hi with
     | none=>rfl
     | some l=>cases hy
   have tr:(DE P nb t (aP P A.aE ty sl x) (lo.map (aP P A.aE 0 sl)) (hi.map (aP P A.aE 0 sl))).run C hp=some (r,rd)→pJ P ((execOp a.eval ⟨dst,.slice t x lo hi none,ty,pos,after,guard⟩).run P w) w I β hp B M w0 r:=by
    intro h
    refine .val (s:=Instr.sliceAt t (a.eval x) (lo.map a.eval) (hi.map a.eval) none) (by simp[execOp]) (Zm S (hs.ev hg ty x) (fun y hy=> ?_) (fun hy=> ?_) h)
    ·cases hi with
     | none=>cases hy
     | some l=>cases hy;exact ⟨_,rfl,hs.ev hg 0 l⟩
    ·cases lo with
     | none=>rfl
     | some l=>cases hy
   cases dst with
   | none=>exact plain h
   | some d=>
    simp only at h
    cases PA:kz A.vT d with
    | true=>rw[PA] at h;exact tr h
    | false=>rw[PA] at h;exact plain h
 case extract x i=>
  have hx:=hs.ev hg ty x
  cases ft:aP P A.aE ty sl x<;>rw[ft] at h hx<;>simp only at h<;>first|(cases h;done)|skip
  exact .val (s:=Instr.extract (a.eval x) i) rfl (Zc S hx h)
 case makeSlice t l c=>
  have hl:=hs.ev hg 0 l
  have hc:=hs.ev hg 0 c
  refine .val (s:=Instr.makeSlice t (a.eval l) (a.eval c)) rfl ?_
  cases hu:P.underlying t with
  | none=>rw[hu] at h;cases h
  | some d=>
   rw[hu] at h
   cases d<;>(try (cases h;done))
   cases Jo:aP P A.aE 0 sl l<;>rw[Jo] at h hl<;>(try (cases h;done))
   cases ui:aP P A.aE 0 sl c<;>rw[ui] at h hc<;>(try (cases h;done))
   rw[hl.dU,hc.dU]
   cases dst with
   | none=>exact O0 S hu h
   | some d=>
    simp only at h
    cases hg:kz A.vT d with
    | true=>rw[hg] at h;exact YV S hu h
    | false=>rw[hg] at h;exact O0 S hu h
 case call c=>
  obtain ⟨callee,args,argTypes⟩:=c
  cases callee with
  | invoke r m=>cases h
  | value f=>
   cases f with
   | func f=>cases Jn
   | tmp f=>cases Jn
   | _=>cases h
  | builtin b=>
   have one: ∀{x:Operand},args.toList=[x]→args= #[x]:=fun h=>by rw[←Array.toArray_toList (xs:=args),h]
   have q0: ∀(s:Array TypeId→TypeId→Array Value→Sem Value),builtin b argTypes ty (args.map fun| .const _=>true|_=>false) (args.map a.eval)=(do Pure.pure (Next.value (←s argTypes ty (args.map a.eval))))→
     execOp a.eval ⟨dst,.call ⟨.builtin b,args,argTypes⟩,ty,pos,after,guard⟩=(do Pure.pure (Next.value (←s argTypes ty (args.map a.eval)))):=by
    intro s hb
    simp only[execOp,resolve,pure_bind,invoke]
    exact hb
   cases b<;>(try (cases h;done))
   case append=>
    simp only at h
    cases ha:args.toList with
    | nil=>rw[ha] at h;cases h
    | cons x l=>
     cases l with
     | nil=>rw[ha] at h;cases h
     | cons y l2=>
      cases l2 with
      | cons _ _=>rw[ha] at h;cases h
      | nil=>
       cases dp:argTypes.toList with
       | nil=>rw[ha,dp] at h;cases h
       | cons t l3=>
        cases l3 with
        | nil=>rw[ha,dp] at h;cases h
        | cons u l4=>
         cases l4 with
         | cons _ _=>rw[ha,dp] at h;cases h
         | nil=>
          rw[ha,dp] at h
          simp only at h
          have e1:args= #[x,y]:=by rw[←Array.toArray_toList (xs:=args),ha]
          have e2:argTypes= #[t,u]:=by rw[←Array.toArray_toList (xs:=argTypes),dp]
          cases hu:P.underlying t with
          | none=>rw[hu] at h;cases h
          | some d=>
           rw[hu] at h
           cases d<;>(try (cases h;done))
           cases hc:Nat.beq t u with
           | true=>
            rw[hc] at h
            rw[aU] at hc
            subst hc
            have:=YY (ty:=ty) S hu (hs.ev hg t x) (hs.ev hg t y) h
            refine .val (q0 Builtin.append_ rfl) ?_
            rw[e1,e2]
            simpa using this
           | false=>
            rw[hc] at h
            simp only[cond_false] at h
            have hy:=hs.ev hg u y
            cases oS:P.underlying u with
            | none=>rw[oS] at h;cases h
            | some du=>
             rw[oS] at h
             cases du<;>(try (cases h;done))
             cases sH:aP P A.aE u sl y<;>rw[sH] at h hy<;>(try (cases h;done))
             simp only at h
             obtain ⟨hb,h⟩:=aG h
             obtain ⟨s1,q1,q2⟩:=hy.mI
             subst q2
             have:=ZF (ty:=ty) S hu oS (ZO hb) (hs.ev hg t x) h
             refine .val (q0 Builtin.append_ rfl) ?_
             rw[e1,e2]
             simpa[q1] using this
   case len=>
    simp only at h
    cases ha:args.toList with
    | nil=>rw[ha] at h;cases h
    | cons x l=>
     cases l with
     | cons _ _=>rw[ha] at h;cases h
     | nil=>
      cases dp:argTypes.toList with
      | nil=>rw[ha,dp] at h;cases h
      | cons t l3=>
       cases l3 with
       | cons _ _=>rw[ha,dp] at h;cases h
       | nil=>
        rw[ha,dp] at h
        simp only at h
        have e1:args= #[x]:=by rw[←Array.toArray_toList (xs:=args),ha]
        have e2:argTypes= #[t]:=by rw[←Array.toArray_toList (xs:=argTypes),dp]
        have hx:=hs.ev hg ty x
        refine .val (q0 Builtin.len_ rfl) ?_
        rw[e1,e2]
        cases hu:P.underlying t with
        | none=>rw[hu] at h;cases h
        | some d=>
         rw[hu] at h
         cases d<;>(try (cases h;done))
         ·cases ft:aP P A.aE ty sl x<;>rw[ft] at h hx<;>(try (cases h;done))
          have:=On (t:=t) (ty:=ty) S hx (fun l hl=>hu) (fun hn=>absurd rfl (hn _)) h
          simpa using this
         ·have U:(∀l,aP P A.aE ty sl x≠ .str l)∧(Dy P (aP P A.aE ty sl x)).run C hp=some (r,rd):=by
           cases ft:aP P A.aE ty sl x<;>rw[ft] at h<;>first|(cases h;done)|exact ⟨fun l=>by simp,h⟩
          have:=On (t:=t) (ty:=ty) S hx (fun l hl=>absurd hl (U.1 l)) (fun _=>⟨_,hu⟩) U.2
          simpa using this
         ·have U:(DC (aP P A.aE ty sl x)).run C hp=some (r,rd):=by
           cases ft:aP P A.aE ty sl x<;>rw[ft] at h<;>exact h
          have:=Zz (t:=t) (ty:=ty) S hu hx U
          simpa using this
   case unsafeSliceData=>
    simp only at h
    cases ha:args.toList with
    | nil=>rw[ha] at h;cases h
    | cons x l=>
     cases l with
     | cons _ _=>rw[ha] at h;cases h
     | nil=>
      rw[ha] at h
      simp only at h
      have e1:args= #[x]:=by rw[←Array.toArray_toList (xs:=args),ha]
      have hx:=hs.ev hg ty x
      refine .val (q0 Builtin.unsafeSliceData_ rfl) ?_
      rw[e1]
      cases ft:aP P A.aE ty sl x<;>rw[ft] at h hx<;>simp only at h<;>first|(cases h;done)|skip
      rename_i e id
      obtain ⟨l2,h1⟩:=run_get h
      cases ab:hp id with
      | none=>rw[ab] at h1;cases h1
      | some blk=>
       rw[ab] at h1
       cases blk<;>simp only at h1<;>first|(cases h1;done)|skip
       rename_i e' es fz
       obtain ⟨U,h3⟩:=aG h1
       simp only[aM,aU,ku] at U
       obtain ⟨rfl,h4⟩:=U
       obtain rfl:=aO h3
       have:=ZP (ts:=argTypes) (ty:=ty) S hx ab h4
       simpa using this
   case unsafeString=>
    simp only at h
    cases ha:args.toList with
    | nil=>rw[ha] at h;cases h
    | cons x l=>
     cases l with
     | nil=>rw[ha] at h;cases h
     | cons y l2=>
      cases l2 with
      | cons _ _=>rw[ha] at h;cases h
      | nil=>
       cases dp:argTypes.toList with
       | nil=>rw[ha,dp] at h;cases h
       | cons t l3=>
        cases l3 with
        | nil=>rw[ha,dp] at h;cases h
        | cons u l4=>
         cases l4 with
         | cons _ _=>rw[ha,dp] at h;cases h
         | nil=>
          rw[ha,dp] at h
          simp only at h
          have e1:args= #[x,y]:=by rw[←Array.toArray_toList (xs:=args),ha]
          have e2:argTypes= #[t,u]:=by rw[←Array.toArray_toList (xs:=argTypes),dp]
          have hx:=hs.ev hg ty x
          have hy:=hs.ev hg ty y
          cases hu:P.underlying t with
          | none=>rw[hu] at h;cases h
          | some d=>
           rw[hu] at h
           cases d<;>(try (cases h;done))
           rename_i e
           cases ft:aP P A.aE ty sl x<;>rw[ft] at h hx<;>(try (cases h;done))
           cases sH:aP P A.aE ty sl y<;>rw[sH] at h hy<;>(try (cases h;done))
           rename_i id i c k n
           cases k<;>(try (cases h;done))
           simp only at h
           obtain ⟨l2,h1⟩:=run_get h
           cases ab:hp id with
           | none=>rw[ab] at h1;cases h1
           | some blk=>
            rw[ab] at h1
            cases blk<;>simp only at h1<;>first|(cases h1;done)|skip
            rename_i e' es fz
            cases fz<;>simp only at h1<;>first|(cases h1;done)|skip
            obtain ⟨U,h3⟩:=aG h1
            simp only[aM,aU,cV,eg] at U
            obtain ⟨rfl,h4,rfl,rfl,h5,h6,h7,h8⟩:=U
            obtain rfl:=aO h3
            have:=ZQ (u:=u) (ty:=ty) S hu h4 hx ab h5 h6 h7 h8
            refine .val (q0 Builtin.unsafeString_ rfl) ?_
            rw[e1,e2]
            simpa[hy.dU] using this
   case copy=>
    simp only at h
    cases ha:args.toList with
    | nil=>rw[ha] at h;cases h
    | cons x l=>
     cases l with
     | nil=>rw[ha] at h;cases h
     | cons y l2=>
      cases l2 with
      | cons _ _=>rw[ha] at h;cases h
      | nil=>
       cases dp:argTypes.toList with
       | nil=>rw[ha,dp] at h;cases h
       | cons t l3=>
        cases l3 with
        | nil=>rw[ha,dp] at h;cases h
        | cons u l4=>
         cases l4 with
         | cons _ _=>rw[ha,dp] at h;cases h
         | nil=>
          rw[ha,dp] at h
          simp only at h
          have e1:args= #[x,y]:=by rw[←Array.toArray_toList (xs:=args),ha]
          have e2:argTypes= #[t,u]:=by rw[←Array.toArray_toList (xs:=argTypes),dp]
          cases hu:P.underlying t with
          | none=>rw[hu] at h;cases h
          | some d=>
           rw[hu] at h
           cases d<;>(try (cases h;done))
           have:=Y5 (u:=u) (ty:=ty) S hu (hs.ev hg t x) (hs.ev hg u y) h
           refine .val (q0 Builtin.copy_ rfl) ?_
           rw[e1,e2]
           simpa using this
   case clear=>
    simp only at h
    cases ha:args.toList with
    | nil=>rw[ha] at h;cases h
    | cons x l=>
     cases l with
     | cons _ _=>rw[ha] at h;cases h
     | nil=>
      cases dp:argTypes.toList with
      | nil=>rw[ha,dp] at h;cases h
      | cons t l3=>
       cases l3 with
       | cons _ _=>rw[ha,dp] at h;cases h
       | nil=>
        rw[ha,dp] at h
        simp only at h
        have e1:args= #[x]:=by rw[←Array.toArray_toList (xs:=args),ha]
        have e2:argTypes= #[t]:=by rw[←Array.toArray_toList (xs:=argTypes),dp]
        cases hu:P.underlying t with
        | none=>rw[hu] at h;cases h
        | some d=>
         rw[hu] at h
         cases d<;>(try (cases h;done))
         have:=Y6 (ty:=ty) S hu (hs.ev hg t x) h
         refine .val (q0 Builtin.clear_ rfl) ?_
         rw[e1,e2]
         simpa using this
   case max=>
    simp only at h
    cases ha:args.toList with
    | nil=>rw[ha] at h;cases h
    | cons x l=>
     rw[ha] at h
     simp only at h
     have:=I5 S true (vs:=l.map a.eval) (xs:=l.map (aP P A.aE ty sl)) (hs.ev hg ty x) (by simp) (fun j u y hu hy=>by
      simp only[fR] at hu hy
      cases hl:l[j]? with
      | none=>rw[hl] at hu;cases hu
      | some z=>rw[hl] at hu hy;cases hu;cases hy;exact hs.ev hg ty z) h
     refine .val (q0 Builtin.max_ rfl) ?_
     simpa[Builtin.max_,ha] using this
   case min=>
    simp only at h
    cases ha:args.toList with
    | nil=>rw[ha] at h;cases h
    | cons x l=>
     rw[ha] at h
     simp only at h
     have:=I5 S false (vs:=l.map a.eval) (xs:=l.map (aP P A.aE ty sl)) (hs.ev hg ty x) (by simp) (fun j u y hu hy=>by
      simp only[fR] at hu hy
      cases hl:l[j]? with
      | none=>rw[hl] at hu;cases hu
      | some z=>rw[hl] at hu hy;cases hu;cases hy;exact hs.ev hg ty z) h
     refine .val (q0 Builtin.min_ rfl) ?_
     simpa[Builtin.min_,ha] using this
end
section
variable {P:Program} {A:cJ} {w w':World} {I I' I2:Nat→Prop} {μ β β':Nat→Option Nat} {hp hp':Nat→Option an} {C:ag} {B:Nat} {M:Nat→Prop} {w0:Start}
theorem wQ: ∀{l m:List Nat},eB.oF l m=true→l=m
 | [],[],_=>rfl
 | [],_::_,h=>by cases h
 | _::_,[],h=>by cases h
 | a::l,b::m,h=>by
  simp only[eB.oF,aM,aU] at h
  rw[h.1,wQ h.2]
@[simp] theorem PB (n:Nat):ld (ei n)=n:=by simp[ld,ei,V.toInt]
theorem Ez: ∀(path:List (Nat × Nat)) (rest:List V),zz (path.map (·.2)) ((path.map fun p=>ei p.1)++rest)=path
 | [],_=>rfl
 | p::l,rest=>by
  simp only[cy,List.cons_append,zz,V.nth,PB,la,jy,Ez l rest]
theorem EA {l:LS} {x:V} {ds:List V} (h:eB l x=some ds):ds.length=l.size∧(l= .qw∨∀rest,iY l (ds++rest)=x):=by
 cases l with
 | qw=>simp only[eB,dY] at h;subst h;exact ⟨rfl,.inl rfl⟩
 | int k=>
  cases x<;>simp only[eB] at h<;>first|(cases h;done)|skip
  rename_i k' n
  by_cases hk:k=k'
  ·subst hk
   simp only[rX,cond_true,dY] at h
   subst h
   exact ⟨rfl,.inr fun _=>rfl⟩
  ·simp[hk] at h
 | bool=>
  cases x<;>simp only[eB] at h<;>first|(cases h;done)|skip
  cases h
  exact ⟨rfl,.inr fun _=>rfl⟩
 | str=>
  cases x<;>simp only[eB] at h<;>first|(cases h;done)|skip
  cases h
  exact ⟨rfl,.inr fun _=>rfl⟩
 | list e=>
  cases x<;>simp only[eB] at h<;>first|(cases h;done)|skip
  rename_i e' es
  cases hb:Nat.beq e e' with
  | false=>rw[hb] at h;cases h
  | true=>
   rw[hb] at h
   rw[aU] at hb
   subst hb
   cases h
   exact ⟨rfl,.inr fun _=>rfl⟩
 | whole e j=>
  cases x<;>simp only[eB] at h<;>first|(cases h;done)|skip
  rename_i e' id
  cases hb:(Nat.beq e e'&&Nat.beq j id) with
  | false=>rw[hb] at h;cases h
  | true=>
   rw[hb] at h
   simp only[aM,aU] at hb
   obtain ⟨rfl,rfl⟩:=hb
   cases h
   exact ⟨rfl,.inr fun _=>rfl⟩
 | sub e j=>
  cases x<;>simp only[eB] at h<;>first|(cases h;done)|skip
  rename_i e' id o n
  cases hb:(Nat.beq e e'&&Nat.beq j id) with
  | false=>rw[hb] at h;cases h
  | true=>
   rw[hb] at h
   simp only[aM,aU] at hb
   obtain ⟨rfl,rfl⟩:=hb
   cases h
   exact ⟨rfl,.inr fun _=>by simp[iY,V.nth]⟩
 | ptr j=>
  cases x<;>simp only[eB] at h<;>first|(cases h;done)|skip
  rename_i id i c
  cases hb:(Nat.beq j id) with
  | false=>rw[hb] at h;cases h
  | true=>
   rw[hb] at h
   rw[aU] at hb
   subst hb
   cases h
   exact ⟨rfl,.inr fun _=>by simp[iY,V.nth]⟩
 | nu j i c=>
  cases x<;>simp only[eB] at h<;>first|(cases h;done)|skip
  rename_i id i' c'
  cases hb:(Nat.beq j id&&(Nat.beq i i'&&Nat.beq c c')) with
  | false=>rw[hb] at h;cases h
  | true=>
   rw[hb] at h
   simp only[aM,aU] at hb
   obtain ⟨rfl,rfl,rfl⟩:=hb
   cases h
   exact ⟨rfl,.inr fun _=>rfl⟩
 | nilS e=>
  cases x<;>simp only[eB] at h<;>first|(cases h;done)|skip
  rename_i e'
  cases hb:Nat.beq e e' with
  | false=>rw[hb] at h;cases h
  | true=>
   rw[hb] at h
   rw[aU] at hb
   subst hb
   cases h
   exact ⟨rfl,.inr fun _=>rfl⟩
 | dy=>
  cases x<;>simp only[eB] at h<;>first|(cases h;done)|skip
  cases h
  exact ⟨rfl,.inr fun _=>rfl⟩
 | cA e j=>
  cases x<;>simp only[eB] at h<;>first|(cases h;done)|skip
  rename_i e' id
  cases hb:(Nat.beq e e'&&Nat.beq j id) with
  | false=>rw[hb] at h;cases h
  | true=>
   rw[hb] at h
   simp only[aM,aU] at hb
   obtain ⟨rfl,rfl⟩:=hb
   cases h
   exact ⟨rfl,.inr fun _=>rfl⟩
 | dB e=>
  cases x<;>simp only[eB] at h<;>first|(cases h;done)|skip
  rename_i e'
  cases hb:Nat.beq e e' with
  | false=>rw[hb] at h;cases h
  | true=>
   rw[hb] at h
   rw[aU] at hb
   subst hb
   cases h
   exact ⟨rfl,.inr fun _=>rfl⟩
 | Dq k n=>
  cases x<;>simp only[eB] at h<;>first|(cases h;done)|skip
  rename_i k' m
  cases hb:(decide (k=k')&&decide (m=n)) with
  | false=>rw[hb] at h;cases h
  | true=>
   rw[hb] at h
   simp only[aM,eg] at hb
   obtain ⟨rfl,rfl⟩:=hb
   cases h
   exact ⟨rfl,.inr fun _=>rfl⟩
 | Dr b=>
  cases x<;>simp only[eB] at h<;>first|(cases h;done)|skip
  rename_i c
  cases hb:decide (b=c) with
  | false=>rw[hb] at h;cases h
  | true=>
   rw[hb] at h
   obtain rfl:=kq hb
   cases h
   exact ⟨rfl,.inr fun _=>rfl⟩
 | row e j cs=>
  cases x<;>simp only[eB] at h<;>first|(cases h;done)|skip
  rename_i e' id ver path
  cases hb:(Nat.beq e e'&&(Nat.beq j id&&(Nat.beq ver 0&&eB.oF cs (path.map (·.2))))) with
  | false=>rw[hb] at h;cases h
  | true=>
   rw[hb] at h
   simp only[aM,aU] at hb
   obtain ⟨rfl,rfl,rfl,oN⟩:=hb
   have:=wQ oN
   subst this
   cases h
   exact ⟨by simp[LS.size],.inr fun rest=>by simp only[iY,Ez]⟩
 | cI j cs c=>
  cases x<;>simp only[eB] at h<;>first|(cases h;done)|skip
  rename_i id ver path i c'
  cases hb:(Nat.beq j id&&(Nat.beq ver 0&&(Nat.beq c c'&&eB.oF cs (path.map (·.2))))) with
  | false=>rw[hb] at h;cases h
  | true=>
   rw[hb] at h
   simp only[aM,aU] at hb
   obtain ⟨rfl,rfl,rfl,oN⟩:=hb
   have:=wQ oN
   subst this
   cases h
   exact ⟨by simp[LS.size],.inr fun rest=>by simp only[iY,List.cons_append,V.nth,PB,la,jy,Ez]⟩
def LS.below (n:Nat) (x:V):Prop:= ∀id∈eC x,id<n
def PC:V→Prop
 | .agg _=>False
 | .bm _=>False
 | .fn .. =>False
 | .pref .. =>False
 | _=>True
theorem uu {c:Bool} {a d:List V} (h:(bif c then some a else none)=some d):c=true:=by
 cases c with
 | true=>rfl
 | false=>cases h
theorem ZT {l:LS} {x:V} {ds:List V} {n:Nat} (h:eB l x=some ds) (hl:l≠ .qw) (au:l.ok n=true):PC x∧LS.below n x:=by
 cases l<;>cases x<;>simp only[eB] at h<;>first|(cases h;done)|(exact absurd rfl hl)|skip
 all_goals refine ⟨trivial,fun id ab=> ?_⟩
 all_goals simp only[eC,ez,List.not_mem_nil] at ab
 all_goals subst ab
 all_goals simp only[LS.ok,ku] at au
 all_goals
  have hb:=uu h
  simp only[aM,aU] at hb
  omega
theorem ao.ZU {v:Value} {x:V} (h:ao P w I β hp v x) (hx:PC x) (hs: ∀id∈eC x,hp' id=hp id∧β' id=β id):ao P w I β' hp' v x:=by
 have one: ∀{id},id∈eC x→hp' id=hp id∧β' id=β id:=fun h=>hs _ h
 cases h with
 | undef=>exact .undef
 | int=>exact .int
 | bool=>exact .bool
 | str h=>exact .str h
 | list h=>exact .list h
 | nilS=>exact .nilS
 | agg=>exact hx.elim
 | bm=>exact hx.elim
 | dy=>exact .dy
 | fn=>exact hx.elim
 | pref=>exact hx.elim
 | ek h=>exact .ek ((one (by simp[eC])).1.trans h)
 | gn h=>exact .gn ((one (by simp[eC])).1.trans h)
 | kF h=>exact .kF ((one (by simp[eC])).1.trans h)
 | dI h hb=>exact .dI ((one (by simp[eC])).1.trans h) ((one (by simp[eC])).2.trans hb)
 | whole h hb a b c=>exact .whole ((one (by simp[eC])).1.trans h) ((one (by simp[eC])).2.trans hb) a b c
 | eD h hb a b c=>exact .eD ((one (by simp[eC])).1.trans h) ((one (by simp[eC])).2.trans hb) a b c
 | fX h hb=>exact .fX ((one (by simp[eC])).1.trans h) ((one (by simp[eC])).2.trans hb)
 | sub h hb a b c=>exact .sub ((one (by simp[eC])).1.trans h) ((one (by simp[eC])).2.trans hb) a b c
 | ptr h hd hb=>exact .ptr ((one (by simp[eC])).1.trans h) hd ((one (by simp[eC])).2.trans hb)
 | jT h qW=>exact .jT ((one (by simp[eC])).1.trans h) qW
 | jU h qW=>exact .jU ((one (by simp[eC])).1.trans h) qW
 | row h hb a b c d=>exact .row ((one (by simp[eC])).1.trans h) ((one (by simp[eC])).2.trans hb) a b c d
 | cI h hb a b c d e=>exact .cI ((one (by simp[eC])).1.trans h) ((one (by simp[eC])).2.trans hb) a b c d e
 | dB=>exact .dB
 | iH h=>exact .iH ((one (by simp[eC])).1.trans h)
 | cA h hb=>exact .cA ((one (by simp[eC])).1.trans h) ((one (by simp[eC])).2.trans hb)
theorem nQ {a b:List V} {n:Nat} (h:a.length=n):(a++b).drop n=b:=by subst h;simp
def Aj (n:Nat) (β:Nat→Option Nat) (hp:Nat→Option an) (β':Nat→Option Nat) (hp':Nat→Option an):Prop:= ∀id,id<n→hp' id=hp id∧β' id=β id
theorem PD {l:LS} {x:V} {ds:List V} {n:Nat} {v:Value} (h:eB l x=some ds) (au:l.ok n=true) (jl:Aj n β hp β' hp') (hv:ao P w I β hp v x) (rest:List V):
  ao P w I β' hp' v (iY l (ds++rest)):=by
 rcases (EA h).2 with e|e
 ·subst e;exact .undef
 ·rw[e rest]
  by_cases hu:l= .qw
  ·subst hu
   have:x= .undef:=(e rest).symm
   subst this
   exact .undef
  ·obtain ⟨h1,U⟩:=ZT h hu au
   exact hv.ZU h1 fun id ab=>jl id (U id ab)
theorem Ak {n:Nat} (jl:Aj n β hp β' hp'): ∀{ls:List LS} {xs:List V} {ds:List V},pE ls xs=some ds→ls.all (LS.ok n)=true→
  ds.length=kC ls∧(∀rest,(iB ls (ds++rest)).length=xs.length)∧
  ∀(rest:List V) (j:Nat) (v:Value) (y:V),(∀x,xs[j]? =some x→ao P w I β hp v x)→(iB ls (ds++rest))[j]? =some y→ao P w I β' hp' v y
 | [],[],ds,h,_=>by cases h;exact ⟨rfl,fun _=>rfl,fun rest j v y _ hy=>by simp[iB] at hy⟩
 | [],_::_,ds,h,_=>by cases h
 | _::_,[],ds,h,_=>by cases h
 | l::ls,x::xs,ds,h,au=>by
  simp only[pE] at h
  obtain ⟨a,h1,h⟩:=bind_some h
  obtain ⟨b,U,h⟩:=bind_some h
  cases h
  simp only[List.all_cons,aM] at au
  obtain ⟨i1,i2,i3⟩:=Ak jl U au.2
  have cm:=(EA h1).1
  have hd: ∀rest,(a++b++rest).drop l.size=b++rest:=fun rest=>by rw[cx];exact nQ cm
  refine ⟨by simp only[bZ,kC];omega,fun rest=>by simp only[iB,List.length_cons,hd,i2],fun rest j v y hv hy=> ?_⟩
  simp only[iB,hd] at hy
  cases j with
  | zero=>
   simp at hy
   subst hy
   exact PD h1 au.1 jl (hv x rfl) _
  | succ j=>exact i3 rest j v y (fun x hx=>hv x (by simpa using hx)) (by simpa using hy)
theorem Jp: ∀{ls:List LS} {xs:List V} {ds:List V},pE ls xs=some ds→ls.all LS.plain=true→ds.length=kC ls∧∀rest,iB ls (ds++rest)=xs
 | [],[],ds,h,_=>by cases h;exact ⟨rfl,fun _=>rfl⟩
 | [],_::_,ds,h,_=>by cases h
 | _::_,[],ds,h,_=>by cases h
 | l::ls,x::xs,ds,h,au=>by
  simp only[pE] at h
  obtain ⟨a,h1,h⟩:=bind_some h
  obtain ⟨b,U,h⟩:=bind_some h
  cases h
  simp only[List.all_cons,aM] at au
  obtain ⟨i1,i2⟩:=Jp U au.2
  obtain ⟨cm,hm⟩:=EA h1
  refine ⟨by simp only[bZ,kC];omega,fun rest=> ?_⟩
  simp only[iB]
  rw[show (a++b++rest).drop l.size=b++rest by rw[cx];exact nQ cm,i2,cx]
  rcases hm with e|e
  ·subst e;cases au.1
  ·rw[e]
theorem Jq {n:Nat} (jl:Aj n β hp β' hp') {s:VS} {x:V} {ds:List V} (h:pF s x=some ds) (au:s.ok n=true):
  ds.length=s.size∧∀(rest:List V) (v:Value),ao P w I β hp v x→ao P w I β' hp' v (lg s (ds++rest)):=by
 cases s with
 | one l=>exact ⟨(EA h).1,fun rest v hv=>PD h au jl hv rest⟩
 | agg ls=>
  cases x<;>simp only[pF] at h<;>first|(cases h;done)|skip
  rename_i xs
  obtain ⟨i1,i2,i3⟩:=Ak (P:=P) (w:=w) (I:=I) jl h au
  refine ⟨i1,fun rest v hv=> ?_⟩
  obtain ⟨cs,rfl,e1,e2⟩:=hv.ll
  exact .agg (by rw[i2];exact e1) fun j v y hj hy=>i3 rest j v y (fun x hx=>e2 j v x hj hx) hy
 | bm ls=>
  cases x<;>simp only[pF] at h<;>first|(cases h;done)|skip
  rename_i xs
  obtain ⟨i1,i2,i3⟩:=Ak (P:=P) (w:=w) (I:=I) jl h au
  refine ⟨i1,fun rest v hv=> ?_⟩
  obtain ⟨cs,rfl,e1,e2⟩:=hv.ua
  exact .bm (by rw[i2];exact e1) fun j v y hj hy=>i3 rest j v y (fun x hx=>e2 j v x hj hx) hy
 | fn f a b=>
  cases x<;>simp only[pF] at h<;>first|(cases h;done)|skip
  rename_i f' xs ys
  cases hb:Nat.beq f f' with
  | false=>rw[hb] at h;cases h
  | true=>
   rw[hb] at h
   rw[aU] at hb
   subst hb
   simp only[cond_true] at h
   obtain ⟨p,h1,h⟩:=bind_some h
   obtain ⟨q,U,h⟩:=bind_some h
   cases h
   simp only[VS.ok,aM] at au
   obtain ⟨i1,i2,i3⟩:=Ak (P:=P) (w:=w) (I:=I) jl h1 au.1
   obtain ⟨j1,j2,j3⟩:=Ak (P:=P) (w:=w) (I:=I) jl U au.2
   refine ⟨by simp only[bZ,VS.size];omega,fun rest v hv=> ?_⟩
   cases hv with
   | fn a1 a2 b1 b2=>
    simp only[lg]
    rw[show (p++q++rest).drop (kC a)=q++rest by rw[cx];exact nQ i1,cx]
    exact .fn (by rw[i2];exact a1) (fun j v y hj hy=>i3 _ j v y (fun x hx=>a2 j v x hj hx) hy) (by rw[j2];exact b1) (fun j v y hj hy=>j3 _ j v y (fun x hx=>b2 j v x hj hx) hy)
 | pref ts ls=>
  cases x<;>simp only[pF] at h<;>first|(cases h;done)|skip
  rename_i v5 xs
  cases hb:eB.oF ts v5 with
  | false=>rw[hb] at h;cases h
  | true=>
   rw[hb] at h
   have:=wQ hb
   subst this
   simp only[cond_true] at h
   refine ⟨?_,fun rest v hv=> ?_⟩
   ·exact (Jp h au).1
   ·simp only[lg]
    rw[(Jp h au).2]
    cases hv with
    | pref hl hI hc=>exact .pref hl hI hc
theorem Al {n:Nat} (jl:Aj n β hp β' hp'): ∀{ls:List VS} {xs:List V} {ds:List V},qn ls xs=some ds→ls.all (VS.ok n)=true→
  ds.length=sk ls∧(∀rest,(fF ls (ds++rest)).length=xs.length)∧
  ∀(rest:List V) (j:Nat) (v:Value) (y:V),(∀x,xs[j]? =some x→ao P w I β hp v x)→(fF ls (ds++rest))[j]? =some y→ao P w I β' hp' v y
 | [],[],ds,h,_=>by cases h;exact ⟨rfl,fun _=>rfl,fun rest j v y _ hy=>by simp[fF] at hy⟩
 | [],_::_,ds,h,_=>by cases h
 | _::_,[],ds,h,_=>by cases h
 | l::ls,x::xs,ds,h,au=>by
  simp only[qn] at h
  obtain ⟨a,h1,h⟩:=bind_some h
  obtain ⟨b,U,h⟩:=bind_some h
  cases h
  simp only[List.all_cons,aM] at au
  obtain ⟨i1,i2,i3⟩:=Al jl U au.2
  obtain ⟨cm,wK⟩:=Jq (P:=P) (w:=w) (I:=I) jl h1 au.1
  have hd: ∀rest,(a++b++rest).drop l.size=b++rest:=fun rest=>by rw[cx];exact nQ cm
  refine ⟨by simp only[bZ,sk];omega,fun rest=>by simp only[fF,List.length_cons,hd,i2],fun rest j v y hv hy=> ?_⟩
  simp only[fF,hd] at hy
  cases j with
  | zero=>
   simp at hy
   subst hy
   exact wK _ v (hv x rfl)
  | succ j=>exact i3 rest j v y (fun x hx=>hv x (by simpa using hx)) (by simpa using hy)
end
section
variable {P:Program} {A:cJ} {w w':World} {I I' I2:Nat→Prop} {μ β β':Nat→Option Nat} {hp hp' hp0:Nat→Option an} {C:ag} {B:Nat} {M:Nat→Prop} {w0:Start}
theorem ic: ∀{l:List an} {j:Nat},jR l j=l[j]?
 | [],j=>by simp[jR]
 | b::l,0=>rfl
 | b::l,j+1=>by simp only[jR,ic,List.getElem?_cons_succ]
theorem Jr {sl:Nat→V} {k:Nat} {y:V}: ∀{l:List (Nat × VS)} {ds:List V},zx sl l=some ds→(∀p∈l,∀d,pF p.2 (sl p.1)=some d→d.length=p.2.size)→
  ds.length=oG l∧∀rest,dH (fk l (ds++rest)) k=some y→∃s d gx,(k,s)∈l∧pF s (sl k)=some d∧y=lg s (d++gx)
 | [],ds,h,_=>by cases h;exact ⟨rfl,fun rest h=>by cases h⟩
 | (q,s)::l,ds,h,hz=>by
  simp only[zx] at h
  obtain ⟨a,h1,h⟩:=bind_some h
  obtain ⟨b,U,h⟩:=bind_some h
  cases h
  obtain ⟨i1,i2⟩:=Jr (k:=k) (y:=y) U fun p hp=>hz p (lK _ hp)
  have cm:=hz (q,s) (sa ..) a h1
  refine ⟨by simp only[bZ,oG];simp only at cm;omega,fun rest hl=> ?_⟩
  simp only[fk,dH] at hl
  rw[show (a++b++rest).drop s.size=b++rest by rw[cx];exact nQ cm] at hl
  cases hb:Nat.beq k q with
  | true=>
   rw[hb] at hl
   rw[aU] at hb
   subst hb
   cases hl
   exact ⟨s,a,b++rest,sa ..,h1,by rw[cx]⟩
  | false=>
   rw[hb] at hl
   obtain ⟨s',d,gx,m1,m2,m3⟩:=i2 rest hl
   exact ⟨s',d,gx,lK _ m1,m2,m3⟩
theorem Js {α:Type} {c:Bool} {x:Option α} {a:α} (h:(bif c then x else none)=some a):c=true∧x=some a:=by
 cases c with
 | true=>exact ⟨rfl,h⟩
 | false=>cases h
theorem ZV {n:Nat} {b:BS} {o:Option an} {ds:List V} (h:lf b o=some ds) (au:b.ok n=true):ds.length=b.size:=by
 cases b with
 | dead=>cases o<;>(cases h;rfl)
 | var T0 ls=>
  cases o with
  | none=>cases h
  | some blk=>
   cases blk<;>simp only[lf] at h<;>first|(cases h;done)|skip
   exact (Al (P:=default) (w:=default) (I:=fun _=>False) (β:=fun _=>none) (hp:=fun _=>none) (fun _ _=>⟨rfl,rfl⟩) (Js h).2 au).1
 | arr e fz=>
  cases o with
  | none=>cases h
  | some blk=>
   cases blk<;>simp only[lf] at h<;>first|(cases h;done)|skip
   rw[uu h] at h
   cases h
   rfl
 | nest e=>
  cases o with
  | none=>cases h
  | some blk=>
   cases blk<;>simp only[lf] at h<;>first|(cases h;done)|skip
   rw[uu h] at h
   cases h
   rfl
 | map t=>
  cases o with
  | none=>cases h
  | some blk=>
   cases blk<;>simp only[lf] at h<;>first|(cases h;done)|skip
   rw[uu h] at h
   cases h
   rfl
theorem PE {n:Nat}: ∀{l:List BS} {j:Nat} {ds:List V},zy hp j l=some ds→l.all (BS.ok n)=true→
  (∀rest,(eS l (ds++rest)).length=l.length)∧∀(rest:List V) (i:Nat) (blk:an),(eS l (ds++rest))[i]? =some blk→∃b d gx,l[i]? =some b∧b.ok n=true∧lf b (hp (j+i))=some d∧blk=fU b (d++gx)
 | [],j,ds,h,_=>by cases h;exact ⟨fun _=>rfl,fun rest i blk hb=>by simp[eS] at hb⟩
 | b::l,j,ds,h,au=>by
  simp only[zy] at h
  obtain ⟨a,h1,h⟩:=bind_some h
  obtain ⟨c,U,h⟩:=bind_some h
  cases h
  simp only[List.all_cons,aM] at au
  obtain ⟨i1,i2⟩:=PE U au.2
  have cm:=ZV h1 au.1
  have hd: ∀rest,(a++c++rest).drop b.size=c++rest:=fun rest=>by rw[cx];exact nQ cm
  refine ⟨fun rest=>by simp only[eS,List.length_cons,hd,i1],fun rest i blk hb=> ?_⟩
  simp only[eS,hd] at hb
  cases i with
  | zero=>
   simp at hb
   exact ⟨b,a,c++rest,rfl,au.1,h1,by rw[←hb]⟩
  | succ i=>
   obtain ⟨b',d,gx,m1,m2,m3,m4⟩:=i2 rest i blk (by simpa using hb)
   exact ⟨b',d,gx,by simpa using m1,m2,by rw[show j+(i+1)=j+1+i by omega];exact m3,m4⟩
theorem ZW {n:Nat} {b:BS} {blk:an} {ds rest:List V} (h:lf b (some blk)=some ds) (au:b.ok n=true):
  blk.le (fU b (ds++rest))∧(fU b (ds++rest)= .dead∨fU b (ds++rest)=blk∨∃T ls cs,b= .var T ls∧blk= .var T cs∧qn ls cs=some ds∧fU b (ds++rest)= .var T (fF ls (ds++rest))):=by
 cases b with
 | dead=>exact ⟨by cases blk<;>trivial,.inl rfl⟩
 | var T0 ls=>
  cases blk<;>simp only[lf] at h<;>first|(cases h;done)|skip
  obtain ⟨hT,h0⟩:=Js h
  clear h
  rw[aU] at hT
  subst hT
  exact ⟨rfl,.inr (.inr ⟨_,_,_,rfl,rfl,h0,rfl⟩)⟩
 | arr e fz=>
  cases blk<;>simp only[lf] at h<;>first|(cases h;done)|skip
  rename_i e' es nz
  have hb:=uu h
  simp only[aM,aU,beq_iff_eq] at hb
  obtain ⟨rfl,rfl⟩:=hb
  simp only[jO,vO,Bool.and_self,cond_true,dY] at h
  subst h
  exact ⟨⟨rfl,rfl⟩,.inr (.inl rfl)⟩
 | nest e=>
  cases blk<;>simp only[lf] at h<;>first|(cases h;done)|skip
  rename_i e' es ar
  have hb:=uu h
  simp only[aM,aU] at hb
  obtain ⟨rfl,hv⟩:=hb
  have:=wQ hv
  subst this
  simp only[jO,mz] at h
  cases h
  exact ⟨⟨rfl,rfl,rfl,fun _=>b9 _⟩,.inr (.inl rfl)⟩
 | map t=>
  cases blk<;>simp only[lf] at h<;>first|(cases h;done)|skip
  rename_i t' es
  have hb:=uu h
  rw[aU] at hb
  subst hb
  simp only[jO,cond_true,dY] at h
  subst h
  exact ⟨rfl,.inr (.inl rfl)⟩
theorem PF {m:Nat} {S:Shape} {st:St} {ds:List V} (h:jS m S st=some ds):
  S.ok=true∧m≤S.bj.length∧∃a b,zx st.sl S.bR=some a∧zy st.hp 0 S.bj=some b∧ds=a++b:=by
 unfold jS at h
 cases hc:(S.ok&&Nat.ble m S.bj.length) with
 | false=>rw[hc] at h;cases h
 | true=>
  rw[hc] at h
  simp only[cond_true] at h
  simp only[aM,cV] at hc
  obtain ⟨a,h1,h⟩:=bind_some h
  obtain ⟨b,U,h⟩:=bind_some h
  cases h
  exact ⟨hc.1,hc.2,a,b,h1,U,rfl⟩
theorem reshape {m:Nat} {S:Shape} {st:St} {ds:List V} (h:jS m S st=some ds) (hS:aF P w I β st.hp B M w0):
  aF P w I β (br S ds).hp B M w0∧(∀(k:Nat) (v:Value),ao P w I β st.hp v (st.sl k)→ao P w I β (br S ds).hp v ((br S ds).sl k))∧
  (∀(μ:Nat→Option Nat) (hp0:Nat→Option an),(∀id blk,hp0 id=some blk→id<m)→Le P w0.w w0.I μ hp0 w I β st.hp→Le P w0.w w0.I μ hp0 w I β (br S ds).hp)∧
  ∀j blk',(br S ds).hp j=some blk'→blk'≠ .dead→∃blk,st.hp j=some blk∧blk.le blk'∧∀o b,bA P w o blk' b→bA P w o blk b:=by
 obtain ⟨au,hm,a,b,h1,U,rfl⟩:=PF h
 unfold Shape.ok at au
 rw[aM] at au
 obtain ⟨PH,I7⟩:=au
 have ba: ∀p∈S.bR,∀d,pF p.2 (st.sl p.1)=some d→d.length=p.2.size:=fun p hp d hd=>
  (Jq (P:=P) (w:=w) (I:=I) (β:=β) (hp:=st.hp) (fun _ _=>⟨rfl,rfl⟩) hd (fC.1 PH p hp)).1
 have cm:a.length=oG S.bR:=(Jr (k:=0) (y:= .undef) h1 ba).1
 have Eo:(br S (a++b)).hp=jR (eS S.bj (b++[])):=by
  simp only[br,mk,cR]
  rw[nQ cm]
 obtain ⟨bl,bg⟩:=PE U I7
 have get: ∀j blk',(br S (a++b)).hp j=some blk'→j<S.bj.length∧∃bs d gx,bs.ok S.bj.length=true∧lf bs (st.hp j)=some d∧blk'=fU bs (d++gx):=by
  intro j blk' hj
  rw[Eo,ic] at hj
  obtain ⟨bs,d,gx,m1,m2,m3,m4⟩:=bg [] j blk' hj
  rw[gY] at m3
  exact ⟨(bz.1 m1).1,bs,d,gx,m2,m3,m4⟩
 have have': ∀j,j<S.bj.length→∃blk',(br S (a++b)).hp j=some blk':=by
  intro j hj
  rw[Eo,ic]
  exact ⟨_,bC (by rw[bl];exact hj)⟩
 generalize gr:(br S (a++b)).hp=uv at*
 let bq:Nat→Option an:=fun id=>if id<S.bj.length then uv id else st.hp id
 have back: ∀j blk',uv j=some blk'→blk'≠ .dead→∃blk,st.hp j=some blk∧blk.le blk'∧(blk'=blk∨∃T ls cs d gx,ls.all (VS.ok S.bj.length)=true∧blk= .var T cs∧qn ls cs=some d∧blk'= .var T (fF ls (d++gx))):=by
  intro j blk' hj hd
  obtain ⟨cl,bs,d,gx,m1,m2,m3⟩:=get j blk' hj
  cases bQ:st.hp j with
  | none=>
   rw[bQ] at m2
   cases bs<;>simp only[lf] at m2<;>first|(cases m2;done)|skip
   exact absurd m3 hd
  | some blk=>
   rw[bQ] at m2
   obtain ⟨n1,n2⟩:=ZW (rest:=gx) m2 m1
   rw[←m3] at n1 n2
   refine ⟨blk,rfl,n1,?_⟩
   rcases n2 with e|e|⟨T,ls,cs,e1,e2,e3,e4⟩
   ·exact absurd e hd
   ·exact .inl e
   ·subst e1
    exact .inr ⟨T,ls,cs,d,gx,m1,e2,e3,e4⟩
 have ZX: ∀j blk,st.hp j=some blk→j<S.bj.length→∃blk',uv j=some blk'∧blk.le blk':=by
  intro j blk hj cl
  obtain ⟨blk',aB⟩:=have' j cl
  refine ⟨blk',aB,?_⟩
  by_cases hd:blk'= .dead
  ·subst hd;cases blk<;>trivial
  ·obtain ⟨ca,e1,e2,_⟩:=back j blk' aB hd
   rw[hj] at e1;cases e1
   exact e2
 have ZY: ∀j e es ar e' aK vers',st.hp j=some (.nest e es ar)→uv j=some (.nest e' aK vers')→e'=e∧aK=es∧vers'=ar:=by
  intro j e es ar e' aK vers' hj gM
  obtain ⟨blk,e1,_,e3⟩:=back j _ gM (by simp)
  rw[hj] at e1;cases e1
  rcases e3 with e3|⟨_,_,_,_,_,_,e3,_⟩
  ·cases e3;exact ⟨rfl,rfl,rfl⟩
  ·cases e3
 have hle:Le P w I β st.hp w I β bq:=by
  refine ⟨fun _ h=>h,fun _ _=>rfl,fun id blk ab=> ?_,fun _ _ _ _ _ _ _ _=>rfl,Le.sx (fun _ _ _ _ _ _=>rfl) fun id e es ar e' aK vers' ab bG=> ?_⟩
  ·by_cases hl:id<S.bj.length
   ·obtain ⟨blk',e1,e2⟩:=ZX id blk ab hl
    exact ⟨blk',by simp only[bq,aj hl];exact e1,e2,fun _=>rfl⟩
   ·exact ⟨blk,by simp only[bq,ai hl];exact ab,an.le_refl _,fun _=>rfl⟩
  ·by_cases hl:id<S.bj.length
   ·simp only[bq,aj hl] at bG
    exact ZY _ _ _ _ _ _ _ ab bG
   ·simp only[bq,ai hl] at bG
    rw[ab] at bG;cases bG
    exact ⟨rfl,rfl,rfl⟩
 have jl:Aj S.bj.length β bq β uv:=fun id ab=>⟨by simp only[bq,aj ab],rfl⟩
 have wD: ∀j blk' blk o b,uv j=some blk'→st.hp j=some blk→bA P w o blk' b→bA P w o blk b:=by
  intro j blk' blk o b gM hj ho
  obtain ⟨ca,e1,_,e3⟩:=back j blk' gM ho.alive
  rw[hj] at e1;cases e1
  rcases e3 with e3|⟨T,ls,cs,d,gx,_,e3,_,e5⟩
  ·subst e3;exact ho
  ·subst e3;subst e5
   exact .root (by simp) (ho.flat (by simp))
 refine ⟨⟨⟨fun j blk' hj=> ?_,fun j1 j2 b1 b2 b' e1 e2 o1 o2=> ?_,fun j blk b' hj ho=> ?_,hS.h.jV⟩,hS.cj,hS.size,hS.new,hS.io⟩,fun k v hv=> ?_,fun μ hp0 aN hE=> ?_,fun j blk' hj hd=> ?_⟩
 ·by_cases hd:blk'= .dead
  ·subst hd;exact .dead
  ·obtain ⟨blk,e1,_,e3⟩:=back j blk' hj hd
   have hr:=hS.h.rel j blk e1
   generalize β j=o at hr
   rcases e3 with e3|⟨T0,ls,cs,d,gx,q1,e3,e4,e5⟩
   ·subst e3
    cases hr with
    | @var xs b' Ca T hb hh hs cQ hx gq=>
     obtain ⟨cl,bs,d,gx,m1,m2,m3⟩:=get j _ hj
     rw[e1] at m2
     cases bs<;>simp only[lf] at m2<;>first|(cases m2;done)|skip
     ·rename_i T0 ls
      simp only[fU] at m3
      obtain ⟨hT,m2⟩:=Js m2
      obtain ⟨i1,i2,i3⟩:=Al (P:=P) (w:=w) (I:=I) jl m2 m1
      injection m3 with m4 m3
      rw[m3]
      exact .var hb hh (by rw[i2];exact hs) cQ (fun i v y hi hy=>i3 gx i v y (fun x cC=>(hx i v x hi cC).mono hle) hy) gq
     ·simp only[fU] at m3
      cases m3
    | dJ hb=>exact .dJ hb
    | arr a1 a2 a3 a4 a5 a6 a7=>exact .arr a1 a2 a3 a4 a5 a6 a7
    | dead=>exact absurd rfl hd
    | nest a1 a2 a3=>exact .nest a1 a2 a3
    | map a1 a2 a3 a4 a5 a6 a7=>exact .map a1 a2 a3 a4 a5 a6 a7
   ·subst e3
    subst e5
    cases hr with
    | @var xs b' Ca T hb hh hs cQ hx gq=>
     obtain ⟨i1,i2,i3⟩:=Al (P:=P) (w:=w) (I:=I) jl e4 q1
     exact .var hb hh (by rw[i2];exact hs) cQ (fun i v y hi hy=>i3 gx i v y (fun x cC=>(hx i v x hi cC).mono hle) hy) gq
 ·obtain ⟨c1,x1,_,_⟩:=back j1 b1 e1 o1.alive
  obtain ⟨c2,x2,_,_⟩:=back j2 b2 e2 o2.alive
  exact hS.h.inj j1 j2 c1 c2 b' x1 x2 (wD _ _ _ _ _ e1 x1 o1) (wD _ _ _ _ _ e2 x2 o2)
 ·obtain ⟨c1,x1,_,_⟩:=back j blk hj ho.alive
  exact hS.h.own j c1 b' x1 (wD _ _ _ _ _ hj x1 ho)
 ·change ao P w I β uv v (jB (fk S.bR (a++b)) k)
  unfold jB
  cases Jt:dH (fk S.bR (a++b)) k with
  | none=>exact .undef
  | some y=>
   obtain ⟨s,d,gx,n1,n2,n3⟩:=(Jr h1 ba).2 b Jt
   simp only[Option.getD_some,n3]
   exact (Jq (P:=P) (w:=w) (I:=I) jl n2 (fC.1 PH _ n1)).2 gx v (hv.mono hle)
 ·have h3:=hE.trans hle
  refine ⟨h3.dm,h3.cj,fun id blk ab=> ?_,fun id blk blk' b' ab bG hd hb=> ?_,fun id e es ar e' aK vers' b2 q i c t v e1 l ab bG=> ?_⟩
  ·have hl:=aN id blk ab
   obtain ⟨blk',k1,k2,k3⟩:=h3.blk id blk ab
   simp only[bq,aj (show id<S.bj.length by omega)] at k1
   exact ⟨blk',k1,k2,k3⟩
  ·have hl:=aN id blk ab
   exact h3.size id blk blk' b' ab (by simp only[bq,aj (show id<S.bj.length by omega)];exact bG) hd hb
  ·have hl:=aN id _ ab
   exact h3.row id e es ar e' aK vers' b2 q i c t v e1 l ab (by simp only[bq,aj (show id<S.bj.length by omega)];exact bG)
 ·obtain ⟨blk,e1,e2,_⟩:=back j blk' hj hd
  exact ⟨blk,e1,e2,fun o b' ho=>wD _ _ _ _ _ hj e1 ho⟩
end
section
variable {P:Program} {A:cJ} {w w':World} {I I' I2:Nat→Prop} {μ β β':Nat→Option Nat} {hp hp' hp0:Nat→Option an} {C:ag} {B:Nat} {M:Nat→Prop} {w0:Start}
inductive ec (P:Program) (w:World) (β:Nat→Option Nat) (hp:Nat→Option an):Place→Option Nat→an→Prop
 | var {id:Nat} {T:TypeId} {cs Ju:List V}:hp id=some (.var T cs)→ec P w β hp (.blk id) (β id) (.var T Ju)
 | arr {id:Nat} {e:TypeId} {es:List V}:hp id=some (.arr e es false)→ec P w β hp (.blk id) (β id) (.arr e es false)
 | nest {id:Nat} {e:TypeId} {es:List V} {ar:List Nat}:hp id=some (.nest e es ar)→ec P w β hp (.blk id) (β id) (.nest e es [0,0,0])
 | row {id ver b b':Nat} {path:Path} {e0 e':TypeId} {es l:List V} {ar:List Nat}:hp id=some (.nest e0 es ar)→β id=some b→At P w b e0 es path b' e' l→zw P e'=true→
   0<path.length→path.length≤ar.length→bE ar (path.length-1)=ver→0<l.length→ec P w β hp (.row id ver path) (some b') (.arr e' l false)
 | map {id:Nat} {t:TypeId} {es:List V}:hp id=some (.map t es)→ec P w β hp (.blk id) (β id) (.map t es)
def Am (P:Program) (w:World) (β:Nat→Option Nat) (hp:Nat→Option an) (ρ:List Place) (μ:Nat→Option Nat) (hp0:Nat→Option an):Prop:=
 ∀j p,ej ρ j=some p→∃blk,hp0 j=some blk∧ec P w β hp p (μ j) blk
theorem oT: ∀{l m:List Place} {j:Nat} {p:Place},ej l j=some p→ej (l++m) j=some p
 | [],m,j,p,h=>by cases h
 | a::l,m,0,p,h=>h
 | a::l,m,j+1,p,h=>oT (l:=l) h
theorem l8: ∀{l:List Place} {j:Nat},ej l j=l[j]?
 | [],j=>by simp[ej]
 | a::l,0=>rfl
 | a::l,j+1=>by simp only[ej,l8,List.getElem?_cons_succ]
structure Ext (P:Program) (w:World) (I:Nat→Prop) (β:Nat→Option Nat) (hp:Nat→Option an) (h h':Hand) (d:List V) (u:List (Nat × an)):Prop where
 ds:h'.ds=h.ds++d
 upd:h'.upd=h.upd++u
 EB: ∀q∈u,zP hp q
 pl: ∃m,h'.pl=h.pl++m
 nodup:(h.pl.map Place.id).Nodup→(h'.pl.map Place.id).Nodup
theorem Ext.refl (h:Hand):Ext P w I β hp h h [] []:=⟨by simp,by simp,by simp,⟨[],by simp⟩,id⟩
theorem Ext.trans {h1 U h3:Hand} {d1 d2:List V} {u1 u2:List (Nat × an)} (a:Ext P w I β hp h1 U d1 u1) (b:Ext P w I β hp U h3 d2 u2):Ext P w I β hp h1 h3 (d1++d2) (u1++u2):=by
 obtain ⟨m1,e1⟩:=a.pl
 obtain ⟨m2,e2⟩:=b.pl
 exact ⟨by rw[b.ds,a.ds,cx],by rw[b.upd,a.upd,cx],fun q hq=>(eQ.1 hq).elim (a.EB q) (b.EB q),⟨m1++m2,by rw[e2,e1,cx]⟩,fun h=>b.nodup (a.nodup h)⟩
theorem Ext.look {h h':Hand} {d:List V} {u:List (Nat × an)} (a:Ext P w I β hp h h' d u) {j:Nat} {p:Place} (hj:ej h.pl j=some p):ej h'.pl j=some p:=by
 obtain ⟨m,e⟩:=a.pl
 rw[e]
 exact oT hj
theorem Ext.leaf (h:Hand) (x:V):Ext P w I β hp h {h with ds:=h.ds++[x]} [x] []:=⟨rfl,by simp,by simp,⟨[],by simp⟩,id⟩
theorem ZZ {α:Type} {ρ:List Place} {j:Nat} {p:Place} {k:List Place→Rd α} {r:α} {rd:List Nat} (h:(unify ρ j p k).run C hp=some (r,rd)) (hb: ∃id,p= .blk id∨∃ver path,p= .row id ver path):
  ∃j4,(k j4).run C hp=some (r,rd)∧(∃m,j4=ρ++m)∧ej j4 j=some p∧((ρ.map Place.id).Nodup→(j4.map Place.id).Nodup):=by
 unfold unify at h
 cases hc:Nat.blt j ρ.length with
 | true=>
  rw[hc] at h
  obtain ⟨h1,U⟩:=aG h
  refine ⟨ρ,U,⟨[],by simp⟩,?_,id⟩
  unfold N9 at h1
  split at h1
  ·rename_i a b he
   rw[aU] at h1
   subst h1
   exact he
  ·cases h1
 | false=>
  rw[hc] at h
  obtain ⟨h1,U⟩:=aG h
  simp only[aM,aU,nn] at h1
  obtain ⟨rfl,h3⟩:=h1
  refine ⟨ρ++[p],U,⟨[p],rfl⟩,?_,fun hn=> ?_⟩
  ·rw[l8];simp
  ·rw[eh,vP]
   refine ⟨hn,by simp,fun a ha b hb=> ?_⟩
   simp only[cy,fD,ez] at hb
   subst hb
   intro e
   subst e
   rw[wA ha] at h3
   cases h3
theorem uw {α:Type} {h:Hand} {j:Nat} {p:Place} {k:List Place→Rd α} {r:α} {rd:List Nat} (hr:(unify h.pl j p k).run C hp=some (r,rd)) (ds:List V):
  ∃j4,(k j4).run C hp=some (r,rd)∧ej j4 j=some p∧Ext P w I β hp h {h with pl:=j4,ds:=h.ds++ds} ds []:=by
 obtain ⟨j4,a,b,c,d⟩:=ZZ hr (by cases p with|blk id=>exact ⟨id,.inl rfl⟩|row id ver path=>exact ⟨id,.inr ⟨ver,path,rfl⟩⟩)
 exact ⟨j4,a,c,⟨rfl,by simp,by simp,b,d⟩⟩
theorem Z0 {o:Option Nat} {blk:an} {e:TypeId} {id j:Nat} {v:Value} (hv:ao P w I β hp v (.whole e id)) (hl:ec P w β hp (.blk id) o blk) (hj:hp0 j=some blk) (j5:μ j=o):ao P w I' μ hp0 v (.whole e j):=by
 cases hl with
 | var h=>
  cases hv with
  | ek U=>rw[h] at U;cases U
  | dI U=>rw[h] at U;cases U
  | whole U=>rw[h] at U;cases U
  | eD U=>rw[h] at U;cases U
 | arr h=>
  cases hv with
  | ek U=>rw[h] at U;cases U
  | dI U hb=>rw[h] at U;cases U;exact .dI hj (j5.trans hb)
  | whole U hb a b c=>rw[h] at U;cases U;exact .whole hj (j5.trans hb) a b c
  | eD U=>rw[h] at U;cases U
 | nest h=>
  cases hv with
  | ek U=>rw[h] at U;cases U
  | dI U=>rw[h] at U;cases U
  | whole U=>rw[h] at U;cases U
  | eD U hb a b c=>rw[h] at U;cases U;exact .eD hj (j5.trans hb) a b c
 | map h=>
  cases hv with
  | ek U=>rw[h] at U;cases U
  | dI U=>rw[h] at U;cases U
  | whole U=>rw[h] at U;cases U
  | eD U=>rw[h] at U;cases U
theorem Z1 {o:Option Nat} {blk:an} {t:TypeId} {id j:Nat} {v:Value} (hv:ao P w I β hp v (.cA t id)) (hl:ec P w β hp (.blk id) o blk) (hj:hp0 j=some blk) (j5:μ j=o):ao P w I' μ hp0 v (.cA t j):=by
 cases hv with
 | iH U=>cases hl<;>(rename_i h;rw[h] at U;cases U)
 | cA U hb=>
  cases hl<;>(rename_i h;rw[h] at U;cases U)
  exact .cA hj (j5.trans hb)
theorem Z2 {o:Option Nat} {blk:an} {e:TypeId} {id off n j:Nat} {v:Value} (hv:ao P w I β hp v (.sub e id off n)) (hl:ec P w β hp (.blk id) o blk) (hj:hp0 j=some blk) (j5:μ j=o):ao P w I' μ hp0 v (.sub e j off n):=by
 cases hl with
 | var h=>
  cases hv with
  | gn U=>rw[h] at U;cases U
  | fX U=>rw[h] at U;cases U
  | sub U=>rw[h] at U;cases U
 | arr h=>
  cases hv with
  | gn U=>rw[h] at U;cases U
  | fX U hb=>rw[h] at U;cases U;exact .fX hj (j5.trans hb)
  | sub U hb a b c=>rw[h] at U;cases U;exact .sub hj (j5.trans hb) a b c
 | nest h=>
  cases hv with
  | gn U=>rw[h] at U;cases U
  | fX U=>rw[h] at U;cases U
  | sub U=>rw[h] at U;cases U
 | map h=>
  cases hv with
  | gn U=>rw[h] at U;cases U
  | fX U=>rw[h] at U;cases U
  | sub U=>rw[h] at U;cases U
theorem PI {o:Option Nat} {blk:an} {id i c j:Nat} {v:Value} (hv:ao P w I β hp v (.ptr id i c)) (hl:ec P w β hp (.blk id) o blk) (hj:hp0 j=some blk) (j5:μ j=o):ao P w I' μ hp0 v (.ptr j i c):=by
 cases hl with
 | @var _ T0 cs Ju h=>
  obtain ⟨b,hb,rfl⟩:=hv.hU h (by simp)
  exact ao.ptr (blk:= .var T0 Ju) hj (by simp) (j5.trans hb)
 | @arr _ e es h=>
  obtain ⟨b,hb,rfl⟩:=hv.hU h (by simp)
  exact ao.ptr (blk:= .arr e es false) hj (by simp) (j5.trans hb)
 | @nest _ e es ar h=>
  obtain ⟨b,hb,rfl⟩:=hv.hU h (by simp)
  exact ao.ptr (blk:= .nest e es [0,0,0]) hj (by simp) (j5.trans hb)
 | @map _ t es h=>
  obtain ⟨b,hb,rfl⟩:=hv.hU h (by simp)
  exact ao.ptr (blk:= .map t es) hj (by simp) (j5.trans hb)
theorem Z3 (cL: ∀id blk,hp id=some blk→dZ P w I β hp (β id) blk) {id b i c:Nat} {e0 t:TypeId} {es l:List V} {ar:List Nat} {q:Path} {e:TypeId} {v:Value} (ab:hp id=some (.nest e0 es ar)) (hb:β id=some b)
  (ht:P.underlying t=some (.slice e)) (hc:mG P w b e0 es q i c t v (.list e l)) (hl:0<l.length): ∃b1 cap,v= .slice (some ⟨b1,0,none⟩) l.length cap∧cap*P.cellsOf e=bsize w b1∧l.length≤cap∧cap≤maxLen∧At P w b e0 es (q++[(i,c)]) b1 e l:=by
 obtain ⟨b2,e1,m,Ca,T,f,x,n1,n2,n3,n4,n5,n6⟩:=hc
 have hr:=cL _ _ ab
 cases hr with
 | nest aB hr hn=>
  rw[hb] at aB;cases aB
  have hR:=hr _ _ _ _ n1
  obtain ⟨zS,c1,c2,c3⟩:=hR.cells
  rw[n2] at c1
  cases c1
  have tZ:c<P.cellsOf e1:=by rw[←fI hR.ok];exact (bz.1 n4).1
  obtain ⟨v',d1,d2⟩:=c3 i c x t n3 n4 tZ
  rw[n6] at d1
  cases d1
  rw[n5] at d2
  generalize hy:V.list e l=y at d2
  cases d2 with
  | fW a p=>unfold fT at a;rw[ht] at a;cases a
  | emp hu ha=>cases hy;simp at hl
  | row hu jW ba cf oL=>
   cases hy
   exact ⟨_,_,rfl,ba,cf,oL,n1.snoc n2 n3 n4 ht n5 jW n6⟩
theorem Z4 (S:aF P w I β hp B M w0) {o:Option Nat} {blk:an} {e:TypeId} {id ver j:Nat} {path:Path} {v:Value} (hv:ao P w I β hp v (.row e id ver path)) (hl:ec P w β hp (.row id ver path) o blk) (hj:hp0 j=some blk) (j5:μ j=o):ao P w I' μ hp0 v (.whole e j):=by
 cases hl with
 | row h hb ha hf h1 U h3 h4=>
  obtain ⟨b2,q,i,c,t,l2,rfl,jg,ht,hc⟩:=hv.Oh h h1 U h3
  rw[hb] at jg;cases jg
  obtain ⟨p1,p2⟩:=Is ha
  have jc:=hc
  obtain ⟨b3,e3,m3,Ca,T,f,x,n1,n2,n3,n4,n5,n6⟩:=jc
  obtain ⟨q1,q2⟩:=DT n1 n3 n4 ht n5
  rw[p1] at q1
  rw[p2] at q2
  cases q1
  cases q2
  obtain ⟨b1,cap,rfl,m1,m2,m4,m5⟩:=Z3 S.h.rel h hb ht hc h4
  have:=Z5 ha m5
  subst this
  exact .whole hj j5 m1 m2 m4
where
 Z5 {b b1 b2:Nat} {e e1 e2:TypeId} {es l l2:List V} {q:Path} (h:At P w b e es q b1 e1 l) (U:At P w b e es q b2 e2 l2):b2=b1:=(h.fun U).1
theorem PJ (S:aF P w I β hp B M w0) {α:Type} {l:LS} {x:V} {h:Hand} {k:Hand→Rd α} {r:α} {rd:List Nat} {v:Value} (hr:(DG P l x h k).run C hp=some (r,rd)) (hv:ao P w I β hp v x):
  ∃h' e7 d u,(k h').run C hp=some (r,e7)∧Ext P w I β hp h h' d u∧d.length=l.size∧
   ∀(I':Nat→Prop) (μ:Nat→Option Nat) (hp0:Nat→Option an),(∀b,I b→I' b)→(∀q∈u,∀b,sy P w β hp q.1 b→I' b)→∀ρ m,ρ=h'.pl++m→Am P w β hp ρ μ hp0→∀rest,ao P w I' μ hp0 v (iY l (d++rest)):=by
 have plain: ∀{x':V} {jI:List Nat},(k {h with ds:=h.ds++[x']}).run C hp=some (r,jI)→l.size=1→(∀I' μ hp0 rest,ao P w I' μ hp0 v (iY l ([x']++rest)))→∃h' e7 d u,(k h').run C hp=some (r,e7)∧Ext P w I β hp h h' d u∧d.length=l.size∧
   ∀(I':Nat→Prop) (μ:Nat→Option Nat) (hp0:Nat→Option an),(∀b,I b→I' b)→(∀q∈u,∀b,sy P w β hp q.1 b→I' b)→∀ρ m,ρ=h'.pl++m→Am P w β hp ρ μ hp0→∀rest,ao P w I' μ hp0 v (iY l (d++rest)):=
  fun hk hs hx=>⟨_,_,_,_,hk,Ext.leaf h _,hs.symm,fun I' μ hp0 _ _ _ _ _ _ rest=>hx I' μ hp0 rest⟩
 have nK: ∀{jI:List Nat},(k h).run C hp=some (r,jI)→l.size=0→(∀I' μ hp0 rest,ao P w I' μ hp0 v (iY l rest))→∃h' e7 d u,(k h').run C hp=some (r,e7)∧Ext P w I β hp h h' d u∧d.length=l.size∧
   ∀(I':Nat→Prop) (μ:Nat→Option Nat) (hp0:Nat→Option an),(∀b,I b→I' b)→(∀q∈u,∀b,sy P w β hp q.1 b→I' b)→∀ρ m,ρ=h'.pl++m→Am P w β hp ρ μ hp0→∀rest,ao P w I' μ hp0 v (iY l (d++rest)):=
  fun hk hs hx=>⟨_,_,_,_,hk,Ext.refl h,by simp[hs],fun I' μ hp0 _ _ _ _ _ _ rest=>hx I' μ hp0 rest⟩
 unfold DG at hr
 cases l with
 | qw=>exact nK hr rfl fun _ _ _ _=> .undef
 | int kd=>
  cases x<;>simp only at hr<;>first|(cases hr;done)|skip
  obtain ⟨h1,U⟩:=aG hr
  simp only[eg] at h1
  subst h1
  obtain rfl:=hv.dU
  exact plain U rfl fun _ _ _ _=> .int
 | bool=>
  cases x<;>simp only at hr<;>first|(cases hr;done)|skip
  obtain rfl:=hv.kI
  exact plain hr rfl fun _ _ _ _=> .bool
 | str=>
  cases x<;>simp only at hr<;>first|(cases hr;done)|skip
  obtain ⟨s,rfl,hl⟩:=hv.mI
  exact plain hr rfl fun _ _ _ _=> .str hl
 | nilS e=>
  cases x<;>simp only at hr<;>first|(cases hr;done)|skip
  obtain ⟨h1,U⟩:=aG hr
  cases hv with
  | nilS=>exact nK U rfl fun _ _ _ _=> .nilS
 | dy=>
  cases x<;>simp only at hr<;>first|(cases hr;done)|skip
  cases hv with
  | dy=>exact nK hr rfl fun _ _ _ _=> .dy
 | row e j cs=>
  cases x<;>simp only at hr<;>first|(cases hr;done)|skip
  rename_i e' id ver path
  obtain ⟨e0,es,ar,l0,ab,p1,p2,p3,hr⟩:=oK hr
  obtain ⟨h1,U⟩:=aG hr
  simp only[aM,aU,cV] at h1
  obtain ⟨rfl,oN,Z6⟩:=h1
  have:=wQ oN
  subst this
  obtain ⟨j4,a,b,c⟩:=uw (P:=P) (w:=w) (I:=I) (β:=β) U (path.map fun p=>ei p.1)
  refine ⟨_,_,path.map fun p=>ei p.1,[],a,c,by simp[LS.size],fun I' μ hp0 i1 i2 ρ m dz c8 rest=> ?_⟩
  obtain ⟨blk,k1,k2⟩:=c8 j _ (by rw[dz];exact oT b)
  obtain ⟨bb,q,i,cc,t,l,rfl,hb,ht,hc⟩:=hv.Oh ab p1 p2 p3
  have qN:blk= .nest e0 es [0,0,0]∧μ j=β id:=by
   generalize μ j=o at k2
   cases k2 with
   | var h=>rw[ab] at h;cases h
   | arr h=>rw[ab] at h;cases h
   | map h=>rw[ab] at h;cases h
   | nest h=>rw[ab] at h;cases h;exact ⟨rfl,rfl⟩
  obtain ⟨rfl,j5⟩:=qN
  simp only[iY,Ez]
  have hq:q.length<3:=by rw[bZ,List.length_singleton] at Z6;omega
  refine .row k1 (j5.trans hb) (by simpa using hq) ?_ ht hc
  match q.length,hq with
  | 0,_=>rfl
  | 1,_=>rfl
  | 2,_=>rfl
 | cI j cs c=>cases hr
 | Dq k n=>cases hr
 | Dr b=>cases hr
 | dB t=>
  cases x<;>simp only at hr<;>first|(cases hr;done)|skip
  obtain ⟨h1,U⟩:=aG hr
  cases hv with
  | dB=>exact nK U rfl fun _ _ _ _=> .dB
 | cA t j=>
  cases x<;>simp only at hr<;>first|(cases hr;done)|skip
  rename_i t' id
  obtain ⟨h1,U⟩:=aG hr
  rw[aU] at h1
  subst h1
  obtain ⟨j4,a,b,c⟩:=uw (P:=P) (w:=w) (I:=I) (β:=β) U []
  refine ⟨_,_,[],[],a,by simpa using c,rfl,fun I' μ hp0 i1 i2 ρ m dz c8 rest=> ?_⟩
  obtain ⟨blk,k1,k2⟩:=c8 j _ (by rw[dz];exact oT b)
  exact Z1 hv k2 k1 rfl
 | list e=>
  obtain ⟨⟨y,u⟩,l1,l2,h1,U⟩:=lk hr
  cases y<;>simp only at U<;>first|(cases U;done)|skip
  rename_i e' es
  obtain ⟨h3,h4⟩:=aG U
  rw[aU] at h3
  subst h3
  obtain ⟨p1,p2⟩:=DU S.h.rel h1 hv
  exact ⟨_,_,[.list e es],u,h4,⟨rfl,rfl,p1,⟨[],by simp⟩,id⟩,rfl,fun I' μ hp0 i1 i2 _ _ _ _ rest=> .list (p2 I' i1 i2)⟩
 | whole e j=>
  cases x<;>simp only at hr<;>first|(cases hr;done)|skip
  ·rename_i e' id
   obtain ⟨h1,U⟩:=aG hr
   rw[aU] at h1
   subst h1
   obtain ⟨j4,a,b,c⟩:=uw (P:=P) (w:=w) (I:=I) (β:=β) U []
   refine ⟨_,_,[],[],a,by simpa using c,rfl,fun I' μ hp0 i1 i2 ρ m dz c8 rest=> ?_⟩
   obtain ⟨blk,k1,k2⟩:=c8 j _ (by rw[dz];exact oT b)
   exact Z0 hv k2 k1 rfl
  ·rename_i e' id ver path
   obtain ⟨h1,U⟩:=aG hr
   rw[aU] at h1
   subst h1
   obtain ⟨j4,a,b,c⟩:=uw (P:=P) (w:=w) (I:=I) (β:=β) U []
   refine ⟨_,_,[],[],a,by simpa using c,rfl,fun I' μ hp0 i1 i2 ρ m dz c8 rest=> ?_⟩
   obtain ⟨blk,k1,k2⟩:=c8 j _ (by rw[dz];exact oT b)
   exact Z4 S hv k2 k1 rfl
 | sub e j=>
  cases x<;>simp only at hr<;>first|(cases hr;done)|skip
  rename_i e' id o n
  obtain ⟨h1,U⟩:=aG hr
  rw[aU] at h1
  subst h1
  obtain ⟨j4,a,b,c⟩:=uw (P:=P) (w:=w) (I:=I) (β:=β) U [ei o,ei n]
  refine ⟨_,_,[ei o,ei n],[],a,c,rfl,fun I' μ hp0 i1 i2 ρ m dz c8 rest=> ?_⟩
  obtain ⟨blk,k1,k2⟩:=c8 j _ (by rw[dz];exact oT b)
  simpa[iY,V.nth] using Z2 (I':=I') hv k2 k1 rfl
 | ptr j=>
  cases x<;>simp only at hr<;>first|(cases hr;done)|skip
  rename_i id i c
  obtain ⟨j4,a,b,c'⟩:=uw (P:=P) (w:=w) (I:=I) (β:=β) hr [ei i,ei c]
  refine ⟨_,_,[ei i,ei c],[],a,c',rfl,fun I' μ hp0 i1 i2 ρ m dz c8 rest=> ?_⟩
  obtain ⟨blk,k1,k2⟩:=c8 j _ (by rw[dz];exact oT b)
  simpa[iY,V.nth] using PI (I':=I') hv k2 k1 rfl
 | nu j i c=>
  cases x<;>simp only at hr<;>first|(cases hr;done)|skip
  rename_i id i' c'
  obtain ⟨h1,U⟩:=aG hr
  simp only[aM,aU] at h1
  obtain ⟨rfl,rfl⟩:=h1
  obtain ⟨j4,a,b,c'⟩:=uw (P:=P) (w:=w) (I:=I) (β:=β) U []
  refine ⟨_,_,[],[],a,by simpa using c',rfl,fun I' μ hp0 i1 i2 ρ m dz c8 rest=> ?_⟩
  obtain ⟨blk,k1,k2⟩:=c8 j _ (by rw[dz];exact oT b)
  exact PI hv k2 k1 rfl
end
section
variable {P:Program} {A:cJ} {w w':World} {I I' I2:Nat→Prop} {μ β β':Nat→Option Nat} {hp hp' hp0:Nat→Option an} {C:ag} {B:Nat} {M:Nat→Prop} {w0:Start}
def mQ (P:Program) (w:World) (I:Nat→Prop) (β:Nat→Option Nat) (hp:Nat→Option an) (h':Hand) (u:List (Nat × an)) (K:(Nat→Prop)→(Nat→Option Nat)→(Nat→Option an)→Prop):Prop:=
 ∀(I':Nat→Prop) (μ:Nat→Option Nat) (hp0:Nat→Option an),(∀b,I b→I' b)→(∀q∈u,∀b,sy P w β hp q.1 b→I' b)→∀ρ m,ρ=h'.pl++m→Am P w β hp ρ μ hp0→K I' μ hp0
theorem mQ.An {h h':Hand} {d:List V} {u u':List (Nat × an)} {K:(Nat→Prop)→(Nat→Option Nat)→(Nat→Option an)→Prop} (t:mQ P w I β hp h u K) (e:Ext P w I β hp h h' d u'):mQ P w I β hp h' (u++u') K:=by
 obtain ⟨m1,e1⟩:=e.pl
 exact fun I' μ hp0 i1 i2 ρ m dz c8=>t I' μ hp0 i1 (fun q hq=>i2 q (eQ.2 (.inl hq))) ρ (m1++m) (by rw[dz,e1,cx]) c8
theorem mQ.more {h:Hand} {u u':List (Nat × an)} {K:(Nat→Prop)→(Nat→Option Nat)→(Nat→Option an)→Prop} (t:mQ P w I β hp h u K):mQ P w I β hp h (u'++u) K:=
 fun I' μ hp0 i1 i2 ρ m dz c8=>t I' μ hp0 i1 (fun q hq=>i2 q (eQ.2 (.inr hq))) ρ m dz c8
theorem EC (S:aF P w I β hp B M w0) {α:Type}: ∀{ls:List LS} {xs:List V} {h:Hand} {k:Hand→Rd α} {r:α} {rd:List Nat} {vs:List Value},(v7 P ls xs h k).run C hp=some (r,rd)→vs.length=xs.length→
  (∀(j:Nat) v x,vs[j]? =some v→xs[j]? =some x→ao P w I β hp v x)→
  ∃h' e7 d u,(k h').run C hp=some (r,e7)∧Ext P w I β hp h h' d u∧d.length=kC ls∧ls.length=xs.length∧
   mQ P w I β hp h' u fun I' μ hp0=> ∀rest,(iB ls (d++rest)).length=xs.length∧∀(j:Nat) v y,vs[j]? =some v→(iB ls (d++rest))[j]? =some y→ao P w I' μ hp0 v y
 | [],[],h,k,r,rd,vs,hr,hl,hv=>⟨h,rd,[],[],hr,Ext.refl h,rfl,rfl,fun I' μ hp0 _ _ _ _ _ _ rest=>⟨rfl,fun j v y _ hy=>by simp[iB] at hy⟩⟩
 | [],_::_,h,k,r,rd,vs,hr,hl,hv=>by cases hr
 | _::_,[],h,k,r,rd,vs,hr,hl,hv=>by cases hr
 | l::ls,x::xs,h,k,r,rd,vs,hr,hl,hv=>by
  cases vs with
  | nil=>simp at hl
  | cons v vs=>
   simp only[v7] at hr
   obtain ⟨h1,jI,d1,u1,a1,a2,a3,a4⟩:=PJ S hr (hv 0 v x rfl rfl)
   obtain ⟨U,sI,d2,u2,b1,b2,b3,b5,b4⟩:=EC S a1 (by simpa using hl) (vs:=vs) (fun j v x hj hx=>hv (j+1) v x (by simpa using hj) (by simpa using hx))
   have Z7:mQ P w I β hp h1 u1 fun I' μ hp0=> ∀rest,ao P w I' μ hp0 v (iY l (d1++rest)):=a4
   refine ⟨U,sI,d1++d2,u1++u2,b1,a2.trans b2,by simp only[bZ,kC];omega,by simp[b5],fun I' μ hp0 i1 i2 ρ m dz c8 rest=> ?_⟩
   have k1:=(Z7.An b2) I' μ hp0 i1 i2 ρ m dz c8 (d2++rest)
   obtain ⟨k2,k3⟩:=b4.more I' μ hp0 i1 i2 ρ m dz c8 rest
   simp only[iB]
   rw[show (d1++d2++rest).drop l.size=d2++rest by rw[cx];exact nQ a3,cx]
   refine ⟨by simp[k2],fun j v' y hj hy=> ?_⟩
   cases j with
   | zero=>simp at hj hy;subst hj;subst hy;exact k1
   | succ j=>exact k3 j v' y (by simpa using hj) (by simpa using hy)
theorem Z8 (S:aF P w I β hp B M w0) {α:Type} {s:VS} {x:V} {h:Hand} {k:Hand→Rd α} {r:α} {rd:List Nat} {v:Value} (hr:(zA P s x h k).run C hp=some (r,rd)) (hv:ao P w I β hp v x):
  ∃h' e7 d u,(k h').run C hp=some (r,e7)∧Ext P w I β hp h h' d u∧d.length=s.size∧
   mQ P w I β hp h' u fun I' μ hp0=> ∀rest,ao P w I' μ hp0 v (lg s (d++rest)):=by
 cases s with
 | one l=>
  simp only[zA] at hr
  obtain ⟨h1,jI,d1,u1,a1,a2,a3,a4⟩:=PJ S hr hv
  exact ⟨h1,jI,d1,u1,a1,a2,a3,a4⟩
 | agg ls=>
  cases x<;>simp only[zA] at hr<;>first|(cases hr;done)|skip
  rename_i xs
  obtain ⟨cs,rfl,e1,e2⟩:=hv.ll
  obtain ⟨h1,jI,d1,u1,a1,a2,a3,a5,a4⟩:=EC S hr (vs:=cs.toList) (by simpa using e1) (fun j v x hj hx=>e2 j v x (by simpa using hj) hx)
  refine ⟨h1,jI,d1,u1,a1,a2,a3,fun I' μ hp0 i1 i2 ρ m dz c8 rest=> ?_⟩
  obtain ⟨k1,k2⟩:=a4 I' μ hp0 i1 i2 ρ m dz c8 rest
  exact .agg (by rw[k1];exact e1) fun j v y hj hy=>k2 j v y (by simpa using hj) hy
 | bm ls=>cases x<;>cases hr
 | pref ts ls=>cases x<;>cases hr
 | fn f a b=>
  cases x<;>simp only[zA] at hr<;>first|(cases hr;done)|skip
  rename_i f' xs ys
  obtain ⟨hc,ux⟩:=aG hr
  clear hr
  rw[aU] at hc
  subst hc
  cases hv with
  | @fn _ fs cs _ _ q1 q2 q3 q4=>
   obtain ⟨h1,jI,d1,u1,a1,a2,a3,a5,a4⟩:=EC S ux (vs:=fs.toList) (by simpa using q1) (fun j v x hj hx=>q2 j v x (by simpa using hj) hx)
   obtain ⟨U,sI,d2,u2,b1,b2,b3,b5,b4⟩:=EC S a1 (vs:=cs.toList) (by simpa using q3) (fun j v x hj hx=>q4 j v x (by simpa using hj) hx)
   refine ⟨U,sI,d1++d2,u1++u2,b1,a2.trans b2,by simp only[bZ,VS.size];omega,fun I' μ hp0 i1 i2 ρ m dz c8 rest=> ?_⟩
   obtain ⟨k1,k2⟩:=(a4.An b2) I' μ hp0 i1 i2 ρ m dz c8 (d2++rest)
   obtain ⟨k3,k4⟩:=b4.more I' μ hp0 i1 i2 ρ m dz c8 rest
   simp only[lg]
   rw[show (d1++d2++rest).drop (kC a)=d2++rest by rw[cx];exact nQ a3,cx]
   exact .fn (by rw[k1];exact q1) (fun j v y hj hy=>k2 j v y (by simpa using hj) hy) (by rw[k3];exact q3) (fun j v y hj hy=>k4 j v y (by simpa using hj) hy)
theorem Jv (S:aF P w I β hp B M w0) {α:Type}: ∀{ls:List VS} {xs:List V} {h:Hand} {k:Hand→Rd α} {r:α} {rd:List Nat} {vs:List Value},(zB P ls xs h k).run C hp=some (r,rd)→vs.length=xs.length→
  (∀(j:Nat) v x,vs[j]? =some v→xs[j]? =some x→ao P w I β hp v x)→
  ∃h' e7 d u,(k h').run C hp=some (r,e7)∧Ext P w I β hp h h' d u∧d.length=sk ls∧ls.length=xs.length∧
   mQ P w I β hp h' u fun I' μ hp0=> ∀rest,(fF ls (d++rest)).length=xs.length∧∀(j:Nat) v y,vs[j]? =some v→(fF ls (d++rest))[j]? =some y→ao P w I' μ hp0 v y
 | [],[],h,k,r,rd,vs,hr,hl,hv=>⟨h,rd,[],[],hr,Ext.refl h,rfl,rfl,fun I' μ hp0 _ _ _ _ _ _ rest=>⟨rfl,fun j v y _ hy=>by simp[fF] at hy⟩⟩
 | [],_::_,h,k,r,rd,vs,hr,hl,hv=>by cases hr
 | _::_,[],h,k,r,rd,vs,hr,hl,hv=>by cases hr
 | l::ls,x::xs,h,k,r,rd,vs,hr,hl,hv=>by
  cases vs with
  | nil=>simp at hl
  | cons v vs=>
   simp only[zB] at hr
   obtain ⟨h1,jI,d1,u1,a1,a2,a3,a4⟩:=Z8 S hr (hv 0 v x rfl rfl)
   obtain ⟨U,sI,d2,u2,b1,b2,b3,b5,b4⟩:=Jv S a1 (by simpa using hl) (vs:=vs) (fun j v x hj hx=>hv (j+1) v x (by simpa using hj) (by simpa using hx))
   refine ⟨U,sI,d1++d2,u1++u2,b1,a2.trans b2,by simp only[bZ,sk];omega,by simp[b5],fun I' μ hp0 i1 i2 ρ m dz c8 rest=> ?_⟩
   have k1:=(a4.An b2) I' μ hp0 i1 i2 ρ m dz c8 (d2++rest)
   obtain ⟨k2,k3⟩:=b4.more I' μ hp0 i1 i2 ρ m dz c8 rest
   simp only[fF]
   rw[show (d1++d2++rest).drop l.size=d2++rest by rw[cx];exact nQ a3,cx]
   refine ⟨by simp[k2],fun j v' y hj hy=> ?_⟩
   cases j with
   | zero=>simp at hj hy;subst hj;subst hy;exact k1
   | succ j=>exact k3 j v' y (by simpa using hj) (by simpa using hy)
def ED:List BS→Nat
 | []=>0
 | b::l=>b.size+ED l
theorem PK: ∀{b:Nat} {e e':TypeId} {es:List V} {v:V},(∀q b' e' m,At P w b e es q b' e' m→jC P w I b' e' m)→∀(path:Path),kA P e path=some e'→mC P e es path=some v→0<v.toList.length→
  ∃b1,At P w b e es path b1 e' v.toList
 | b,e,e',es,v,cG,[],ht,hv,hl=>by
  simp only[kA,dY] at ht
  simp only[mC,dY] at hv
  subst ht;subst hv
  exact ⟨b,.here⟩
 | b,e,e',es,v,cG,(i,c)::q,ht,hv,hl=>by
  simp only[kA] at ht
  simp only[mC] at hv
  obtain ⟨x,hx,hv⟩:=bind_some hv
  cases Jw:(kA.zp P e)[c]? with
  | none=>rw[Jw] at ht;cases ht
  | some t=>
   rw[Jw] at ht
   simp only at ht
   have EE:(aX P e)[c]? =some t:=Jw
   cases hu:P.underlying t with
   | none=>rw[hu] at ht;cases ht
   | some d=>
    rw[hu] at ht
    cases d<;>simp only at ht<;>first|(cases ht;done)|skip
    rename_i e1
    rw[nE EE] at hv
    have hR:=cG _ _ _ _ .here
    obtain ⟨Ca,c1,c2,c3⟩:=hR.cells
    have tZ:c<P.cellsOf e:=by rw[←fI hR.ok];exact (bz.1 EE).1
    obtain ⟨u,d1,d2⟩:=c3 i c x t hx EE tZ
    rw[d2.sB] at hv
    generalize hy:bN P e x c=y at d2 hv
    cases d2 with
    | fW a p=>unfold fT at a;rw[hu] at a;cases a
    | @emp e2 a cap mO ha=>
     rw[hu] at mO;cases mO
     simp only at hv
     cases q with
     | nil=>simp only[mC,dY] at hv;subst hv;simp[V.toList] at hl
     | cons a q=>simp[mC] at hv
    | @row e2 cd b2 cap mO jW ba cf oL=>
     rw[hu] at mO;cases mO
     simp only at hv
     have di: ∀{q b' e' aK},At P w b2 e1 cd q b' e' aK→At P w b e es ((i,c)::q) b' e' aK:=fun h=> .step c1 hx EE hu hy jW d1 h
     obtain ⟨b1,lZ⟩:=PK (fun q b' e' m h=>cG _ _ _ _ (di h)) q ht hv hl
     exact ⟨b1,di lZ⟩
theorem PL (S:aF P w I β hp B M w0) {α:Type}: ∀{bs:List BS} {j:Nat} {h:Hand} {k:Hand→Rd α} {r:α} {rd:List Nat},(qy P bs j h k).run C hp=some (r,rd)→
  ∃h' e7 d u,(k h').run C hp=some (r,e7)∧Ext P w I β hp h h' d u∧d.length=ED bs∧
   ∀rest,(eS bs (d++rest)).length=bs.length∧∃o:Nat→Option Nat,
    (∀(i:Nat) blk,(eS bs (d++rest))[i]? =some blk→∃p,ej h'.pl (j+i)=some p∧ec P w β hp p (o i) blk)∧
    mQ P w I β hp h' u fun I' μ hp0=> ∀(i:Nat) blk,(eS bs (d++rest))[i]? =some blk→(∀b,bA P w (o i) blk b→¬I' b)→dZ P w I' μ hp0 (o i) blk
 | [],j,h,k,r,rd,hr=>⟨h,rd,[],[],hr,Ext.refl h,rfl,fun rest=>⟨rfl,fun _=>none,fun i blk hb=>by simp[eS] at hb,fun I' μ hp0 _ _ _ _ _ _ i blk hb=>by simp[eS] at hb⟩⟩
 | b::bs,j,h,k,r,rd,hr=>by
  simp only[qy] at hr
  have fin: ∀{h1:Hand} {jI:List Nat} {d1:List V} {u1:List (Nat × an)} {o1:Option Nat} {p:Place},(qy P bs (j+1) h1 k).run C hp=some (r,jI)→Ext P w I β hp h h1 d1 u1→d1.length=b.size→ej h.pl j=some p→
    (∀rest,ec P w β hp p o1 (fU b (d1++rest)))→(∀rest,mQ P w I β hp h1 u1 fun I' μ hp0=>(∀bb,bA P w o1 (fU b (d1++rest)) bb→¬I' bb)→dZ P w I' μ hp0 o1 (fU b (d1++rest)))→
    ∃h' e7 d u,(k h').run C hp=some (r,e7)∧Ext P w I β hp h h' d u∧d.length=ED (b::bs)∧
     ∀rest,(eS (b::bs) (d++rest)).length=(b::bs).length∧∃o:Nat→Option Nat,
      (∀(i:Nat) blk,(eS (b::bs) (d++rest))[i]? =some blk→∃p,ej h'.pl (j+i)=some p∧ec P w β hp p (o i) blk)∧
      mQ P w I β hp h' u fun I' μ hp0=> ∀(i:Nat) blk,(eS (b::bs) (d++rest))[i]? =some blk→(∀b,bA P w (o i) blk b→¬I' b)→dZ P w I' μ hp0 (o i) blk:=by
   intro h1 jI d1 u1 o1 p hk he hd bq hl ht
   obtain ⟨U,sI,d2,u2,b1,b2,b3,b4⟩:=PL S hk
   refine ⟨U,sI,d1++d2,u1++u2,b1,he.trans b2,by simp only[bZ,ED];omega,fun rest=> ?_⟩
   obtain ⟨c1,o,c2,c3⟩:=b4 rest
   simp only[eS]
   rw[show (d1++d2++rest).drop b.size=d2++rest by rw[cx];exact nQ hd,cx]
   refine ⟨by simp[c1],fun i=>match i with|0=>o1|i+1=>o i,fun i blk hb=> ?_,fun I' μ hp0 i1 i2 ρ m dz c8 i blk hb cQ=> ?_⟩
   ·cases i with
    | zero=>
     simp at hb
     subst hb
     exact ⟨p,b2.look (he.look bq),hl _⟩
    | succ i=>
     obtain ⟨q,e1,e2⟩:=c2 i blk (by simpa using hb)
     exact ⟨q,by rw[show j+(i+1)=j+1+i by omega];exact e1,e2⟩
   ·cases i with
    | zero=>
     simp at hb
     subst hb
     exact ((ht _).An b2) I' μ hp0 i1 i2 ρ m dz c8 cQ
    | succ i=>exact c3.more I' μ hp0 i1 i2 ρ m dz c8 i blk (by simpa using hb) cQ
  cases bq:ej h.pl j with
  | none=>rw[bq] at hr;cases hr
  | some p=>
   rw[bq] at hr
   cases p with
   | blk id=>
    obtain ⟨l1,hr⟩:=run_get hr
    cases ab:hp id with
    | none=>rw[ab] at hr;cases hr
    | some blk=>
     rw[ab] at hr
     cases blk with
     | dead=>cases hr
     | var T0 cs=>
      cases b<;>simp only at hr<;>first|(cases hr;done)|skip
      rename_i T1 ss
      obtain ⟨hT,Z9⟩:=aG hr
      clear hr
      rw[aU] at hT
      subst hT
      have cL:=S.h.rel id _ ab
      generalize ho:β id=o at cL
      cases cL with
      | @var _ bb Ca T hb hh hs hI hx gq=>
       obtain ⟨h1,jI,d1,u1,a1,a2,a3,a5,a4⟩:=Jv S Z9 (vs:=Ca.toList) (by simpa using hs) (fun j v x hj cC=>hx j v x (by simpa using hj) cC)
       refine fin (o1:=β id) a1 a2 a3 bq (fun rest=> .var ab) fun rest I' μ hp0 i1 i2 ρ m dz c8 cQ=> ?_
       obtain ⟨k1,k2⟩:=a4 I' μ hp0 i1 i2 ρ m dz c8 rest
       exact .var (ho.trans hb) hh (by rw[k1];exact hs) (cQ _ (.root (by simp[fU]) (ho.trans hb))) (fun i v y hi hy=>k2 i v y (by simpa using hi) hy) gq
     | arr e' es fz=>
      cases fz with
      | true=>cases hr
      | false=>
       cases b with
       | arr e fz=>
        cases fz with
        | true=>cases hr
        | false=>
         obtain ⟨hc,ux⟩:=aG hr
         clear hr
         rw[aU] at hc
         subst hc
         refine fin (d1:=[.list e es]) (o1:=β id) ux (Ext.leaf h _) rfl bq (fun rest=>ec.arr ab) fun rest I' μ hp0 i1 i2 ρ m dz c8 cQ=> ?_
         change dZ P w I' μ hp0 (β id) (.arr e es false)
         have cL:=S.h.rel id _ ab
         generalize ho:β id=o at cL cQ⊢
         cases cL with
         | dJ hb=>exact .dJ hb
         | arr a1 a2 a3 a4 a5 a6 a7=>
          refine .arr a1 a2 a3 a4 (fun h=>by cases h) (fun _=>cQ _ (.root (by simp[fU]) a2)) fun i j x t' y1 y2 y3=> ?_
          obtain ⟨v,z1,z2⟩:=a7 i j x t' y1 y2 y3
          exact ⟨v,z1,z2.mono i1 fun _ _=>rfl⟩
       | _=>cases hr
     | nest e' es ar=>
      cases b with
      | nest e=>
       obtain ⟨hc,ux⟩:=aG hr
       clear hr
       rw[aU] at hc
       subst hc
       refine fin (d1:=[.list e es]) (o1:=β id) ux (Ext.leaf h _) rfl bq (fun rest=>ec.nest ab) fun rest I' μ hp0 i1 i2 ρ m dz c8 cQ=> ?_
       have PM: ∀bb,bA P w (β id) (.nest e es [0,0,0]) bb→¬I' bb:=cQ
       change dZ P w I' μ hp0 (β id) (.nest e es [0,0,0])
       have cL:=S.h.rel id _ ab
       generalize ho:β id=o at cL PM⊢
       cases cL with
       | nest hb cG oO=>
        refine .nest hb (fun q b' e1 m1 hq=> ?_) oO
        obtain ⟨ok,⟨Ca,c1,c2,c3⟩,nI⟩:=cG q b' e1 m1 hq
        refine ⟨ok,⟨Ca,c1,c2,fun i j x t' y1 y2 y3=> ?_⟩,PM _ (.row hb hq)⟩
        obtain ⟨v,z1,z2⟩:=c3 i j x t' y1 y2 y3
        exact ⟨v,z1,z2.mono i1 (fun _ _=>rfl) fun _ _ _ _ _=>rfl⟩
      | _=>cases hr
     | map t' es=>
      cases b with
      | map t=>
       obtain ⟨hc,ux⟩:=aG hr
       clear hr
       rw[aU] at hc
       subst hc
       refine fin (d1:=[.list t es]) (o1:=β id) ux (Ext.leaf h _) rfl bq (fun rest=>ec.map ab) fun rest I' μ hp0 i1 i2 ρ m dz c8 cQ=> ?_
       change dZ P w I' μ hp0 (β id) (.map t es)
       have cL:=S.h.rel id _ ab
       generalize ho:β id=o at cL cQ⊢
       cases cL with
       | map a1 a2 a3 a4 a5 a6 a7=>exact .map a1 a2 a3 a4 (cQ _ (.root (by simp[fU]) a2)) a6 a7
      | _=>cases hr
   | row id ver path=>
    obtain ⟨e0,es,ar,l1,k1,k2,k3,k4,k5⟩:=oK hr
    obtain ⟨e',vv,m1,m2,m3⟩:=wi k5
    cases b with
    | arr e fz=>
     cases fz with
     | true=>cases m3
     | false=>
      obtain ⟨hc,m4⟩:=aG m3
      clear m3
      simp only[aM,aU,ku] at hc
      obtain ⟨rfl,Ao,jW⟩:=hc
      have cL:=S.h.rel id _ k1
      cases hb:β id with
      | none=>
       rw[hb] at cL
       cases cL with
       | nest aB _ _=>cases aB
      | some b0=>
       rw[hb] at cL
       cases cL with
       | nest aB cG oO=>
        cases aB
        obtain ⟨b1,dp⟩:=PK cG path m1 m2 jW
        refine fin (d1:=[.list e vv.toList]) (o1:=some b1) m4 (Ext.leaf h _) rfl bq (fun rest=>ec.row k1 hb dp Ao k2 k3 k4 jW) fun rest I' μ hp0 i1 i2 ρ m dz c8 cQ=> ?_
        change dZ P w I' μ hp0 (some b1) (.arr e vv.toList false)
        obtain ⟨ok,⟨Ca,c1,c2,c3⟩,nI⟩:=cG _ _ _ _ dp
        refine .arr ok rfl c1 c2 (fun h=>by cases h) (fun _=>cQ _ (.root (by simp[fU]) rfl)) fun i j x t' y1 y2 y3=> ?_
        obtain ⟨v,z1,z2⟩:=c3 i j x t' y1 y2 y3
        refine ⟨v,z1,?_⟩
        generalize bN P e x j=y at z2⊢
        cases z2 with
        | fW _ p=>exact p.mono i1 fun _ _=>rfl
        | emp hu _=>exact absurd hu (PN Ao y2 _)
        | row hu _ _ _ _=>exact absurd hu (PN Ao y2 _)
    | _=>cases m3
where
 PN {e t:TypeId} {j:Nat} (h:zw P e=true) (ht:(aX P e)[j]? =some t) (e':TypeId):P.underlying t≠some (.slice e'):=by
  intro hu
  have U:=fC.1 h t (jP ht)
  rw[hu] at U
  cases U
end
end Go.AM
