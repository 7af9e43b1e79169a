/-
  Functions of the program, lifted to plain data.
-/
import Derived.Great.BuildSlice
import Derived.Maps.Keyed
import Derived.WideKeyArr
import Derived.MapKept
import Derived.ChangeMaps4
import Derived.Carry
import Derived.Lib.AppendStr
import Derived.Laws.BytesString
import Derived.Lib.Builder
import Derived.Lib.UnsafeStr
import Derived.Test.YtbbgbkiefjilcaaGreatDoorP1
set_option linter.unusedVariables false
set_option linter.unusedSimpArgs false
namespace Go.AM
section
variable {P:Program} {w w':World} {I I':Nat→Prop} {β β':Nat→Option Nat} {hp hp':Nat→Option ak} {C:af} {B:Nat} {M:Nat→Prop} {w0:Start}
theorem UU (S:aH P w I β hp B M w0) {t:TypeId} {a v:Value} {xa x:V} {r:R} {rd:List Nat} (ha:ao P w I β hp a xa) (hv:ao P w I β hp v x)
  (h:(Fw P t xa x).run C hp=some (r,rd)):nZ P ((Instr.storeAt t a v).run P w) w I β hp B M w0 r:=by
 unfold Fw at h
 obtain ⟨h0,h⟩:=aK h
 simp only[aM,aT] at h0
 obtain ⟨ht,hn⟩:=h0
 cases xa with
 | ptr id i c=>
  obtain ⟨l,h⟩:=run_get h
  cases ab:hp id with
  | none=>rw[ab] at h;cases h
  | some blk=>
   rw[ab] at h
   cases blk with
   | dead=>cases h
   | var T0 cs=>
    obtain ⟨LH,h⟩:=aK h
    have k9:nP P T0=true→0<c:=fun bL=>by
     rw[bL] at LH
     simpa using LH
    obtain ⟨b,hb,rfl⟩:=ha.gf ab (by simp)
    simp only[ak.sz,Nat.mul_zero,ia]
    cases nY:(xL P t cs&&dS P t x) with
    | true=>
     dsimp only at h
     rw[nY] at h
     simp only[cond_true] at h
     obtain ⟨hc,h⟩:=aK h
     obtain rfl:=aP h
     simp only[aM,iY] at hc nY
     obtain ⟨o1,o2⟩:=Ly hv nY.2
     have ko:=UB nY.2
     refine Lw S ab hb ht hn (by rw[o2,ko];rfl) k9 (fun j u y hu hy=> ?_) (by rw[o2];simp[o1]) (by rw[ko];simp;omega) (Lv _ _ _ _) (fun j y hy hj u hu=> ?_) (fun j y hy hj u hu=> ?_)
     ·rw[o2] at hu
      rw[ko] at hy
      cases j with
      | zero=>simp at hu hy;subst hu;subst hy;exact hv
      | succ j=>simp at hy
     ·rw[Gb] at hy
      cases vl:cs[j]? with
      | none=>rw[vl] at hy;cases hy
      | some y0=>
       rw[vl] at hy
       simp only[Option.map_some,dA] at hy
       rw[ko] at hj
       simp only[List.length_singleton] at hj
       have bA:Nat.beq c (0+j)=false:=by
        cases hq:Nat.beq c (0+j) with
        | false=>rfl
        | true=>rw[aT] at hq;omega
       rw[bA] at hy
       have:=Lj (c:=false) hv (hu y0 vl)
       rw[←hy]
       simpa using this
     ·rw[ko] at hj hu
      have UW:j=0:=by simpa using hj
      subst UW
      rw[Gb] at hy
      cases vl:cs[c+0]? with
      | none=>rw[vl] at hy;cases hy
      | some y0=>
       rw[vl] at hy
       simp only[Option.map_some,dA] at hy
       have heq:Nat.beq c (0+(c+0))=true:=by rw[aT];omega
       rw[heq] at hy
       have U:ao P w I β hp u x:=hu x rfl
       have:qG true x y0=x:=UC x y0
       rw[←hy,this]
       exact U
    | false=>
     dsimp only at h
     rw[nY] at h
     simp only[cond_false] at h
     obtain ⟨hc,h⟩:=aK h
     simp only[aM,eR] at hc
     obtain ⟨e1,e2⟩:=F9 hv h
     obtain ⟨h1,l2,h⟩:=Cy h (vs:=v.cells.toList) (by simpa using e1) (fun j u y a b=>e2 j u y (by simpa using a) b)
     obtain rfl:=aP h
     refine Lw S ab hb ht hn e1 k9 e2 h1 hc.2 (yw _ _ _ hc.2) (fun j y hy hj u hu=> ?_) (fun j y hy hj u hu=> ?_)
     ·unfold fc at hy
      rw[ma _ _ _ _ hc.2] at hy
      rcases hj with hj|hj
      ·rw[ag hj] at hy;exact hu y hy
      ·rw[ai (by omega),ai (by omega)] at hy;exact hu y hy
     ·unfold fc at hy
      rw[ma _ _ _ _ hc.2,ai (by omega),ag (by omega)] at hy
      rw[show c+j-c=j by omega] at hy
      exact hu y hy
   | arr e es fz=>
    cases fz with
    | true=>cases h
    | false=>
    obtain ⟨b,hb,rfl⟩:=ha.gf ab (by simp)
    obtain ⟨ar,h⟩:=aK h
    obtain ⟨⟨ys,fr⟩,l1,l2,bm,h⟩:=jQ h
    obtain ⟨hc,h⟩:=aK h
    obtain ⟨x0,pL,h⟩:=km h
    obtain rfl:=aP h
    simp only[aM,lN,eR] at hc
    obtain ⟨dp,UX,gO⟩:=hc
    have n0:v.cells.size=x.cells.length∧∀(j:Nat) u y,v.cells.toList[j]? =some u→x.cells[j]? =some y→ao P w I β hp u y:=by
     cases x with
     | agg xs=>
      obtain ⟨cs,rfl,h1,U⟩:=hv.jR
      exact ⟨h1,fun j u y a b=>U j u y (by simpa[Value.cells] using a) b⟩
     | _=>
      simp only[V.cells] at bm gO⊢
      simp only[qF] at bm
      obtain ⟨⟨y1,u1⟩,l3,l4,hq,bm⟩:=jQ bm
      obtain ⟨q1,q2⟩:=Cm S.h.rel hq hv
      obtain ⟨⟨y2,u2⟩,l5,l6,Gr,bm⟩:=jQ bm
      cases Gr
      have:=aP bm
      cases this
      obtain ⟨tl,tg⟩:=sE gO
      have eX:=tg 0 _ y1 (bO (by rw[tl];exact Nat.one_pos)) rfl
      have cU:=q2 (gQ P w I β hp u1) (fun _ h=> .inl h) (fun p hp b h=> .inr ⟨p,hp,h⟩)
      have ho:=cU.pure eX
      have Gs:v.cells= #[v]:=by cases ho<;>rfl
      rw[Gs]
      refine ⟨rfl,fun j u y hu hy=> ?_⟩
      cases j with
      | zero=>simp at hu hy;subst hu;subst hy;exact hv
      | succ j=>simp at hy
    obtain ⟨k1,k2,k3⟩:=F1 S.h.rel bm (vs:=v.cells.toList) (by simpa using n0.1) n0.2
    obtain ⟨pJ,S1⟩:=yo S k2
    have yF:bE hp fr id=some (.arr e es false):=by
     rcases sw (hp:=hp) (l:=fr) (id:=id) with h|⟨b',hm,_⟩
     ·exact h.trans ab
     ·exfalso
      have UY:jd (fr.map (·.1)) id=true:=ve (ib.2 ⟨_,hm,rfl⟩)
      rw[UY] at dp;cases dp
    have LI:=k3 (gQ P w I β hp fr) (fun _ h=> .inl h) (fun p hp b h=> .inr ⟨p,hp,h⟩)
    obtain ⟨tl,tg⟩:=sE gO
    have qT:=(jo ar).1
    have sH:ys.length=v.cells.size:=by rw[k1,n0.1]
    have UZ:c+v.cells.size≤P.cellsOf e:=by rw[n0.1];exact UX
    have hr:=S1.h.rel id _ yF
    cases hr with
    | dm aC=>simp at pL
    | @arr _ _ _ b' Ca F8 aC hh hs hf dJ hx=>
     rw[hb] at aC
     cases aC
     have kp:i<es.length:=(bj.1 pL).1
     have hbound:i*P.cellsOf e+P.cellsOf e≤Ca.size:=by
      have:(i+1)*P.cellsOf e≤es.length*P.cellsOf e:=dx _ kp
      rw[dz] at this
      omega
     simp only[ak.sz]
     have qW:i*P.cellsOf e+c+v.cells.size≤Ca.size:=by omega
     have cD: ¬gQ P w I β hp fr b:=dJ rfl
     have h1: ∀u∈v.cells.toList,u.oneCell'=true:=by
      intro u hu
      obtain ⟨j,hj⟩:=qx hu
      have b8:j<ys.length:=by rw[sH];simpa using (bj.1 hj).1
      have ld:j<(((flat P e).drop c).take x.cells.length).length:=by rw[tl];exact b8
      exact (LI j u ys[j] hj (bO b8)).one (tg j _ ys[j] (bO ld) (bO b8))
     have cJ:=Ga (t:=t) (o:=i*P.cellsOf e+c) (v:=v) ht (by rw[n0.1];exact hn.symm) hh qW h1
     have hlen:(Ca.toList.take (i*P.cellsOf e+c)++(v.cells.toList++Ca.toList.drop (i*P.cellsOf e+c+v.cells.toList.length))).length=Ca.size:=by
      rw[yw _ _ _ (by simpa using qW)];simp
     have cU:(parts P e x0).length=P.cellsOf e:=by rw[vb];exact eW ar
     have yx:=Cz S1 (blk':= .arr e (es.set i (cf P e (fc (parts P e x0) c ys))) false)
      (Cb:=(Ca.toList.take (i*P.cellsOf e+c)++(v.cells.toList++Ca.toList.drop (i*P.cellsOf e+c+v.cells.toList.length))).toArray) yF (by simp) ⟨rfl,by simp⟩ hb cD (by simp) hh (by simpa using hlen)
      (fun hle eo=> .arr ar rfl eo (by simp only[o6,lP];omega) (fun h=>by cases h) (fun _=>cD) fun i' j z t' hz ld hj=>by
       simp only[lO]
       rw[ma _ _ _ _ (by simpa using qW)]
       simp only[Array.length_toList]
       rw[xy] at hz
       by_cases gU:i=i'
       ·subst gU
        rw[ag rfl,ag kp] at hz
        cases hz
        have CJ:j<(parts P e x0).length:=by omega
        have sI:(fc (parts P e x0) c ys)[j]? =if j<c then (parts P e x0)[j]? else if j<c+ys.length then ys[j-c]? else (parts P e x0)[j]? :=by
         unfold fc;exact ma _ _ _ _ (by omega)
        by_cases pF:j<c
        ·rw[ag (by omega)]
         rw[ag pF] at sI
         obtain ⟨u,t2,a1,a2,a3⟩:=Cv hx ar pL (bO CJ)
         rw[ld] at a1;cases a1
         refine ⟨u,by simpa using a2,?_⟩
         rw[pG (sI.trans (bO CJ)) ld]
         exact a3.mono hle.cW hle.b7
        ·rw[ai pF] at sI
         by_cases gD:j<c+ys.length
         ·rw[ag gD] at sI
          rw[ai (by omega),ag (by omega)]
          have oa:j-c<ys.length:=by omega
          have LJ:j-c<v.cells.toList.length:=by simp;omega
          have agZ:j-c<v.cells.size:=by omega
          refine ⟨v.cells.toList[j-c],?_,?_⟩
          ·rw[show i*P.cellsOf e+j-(i*P.cellsOf e+c)=j-c by omega]
           exact bO LJ
          ·rw[pG (sI.trans (bO oa)) ld]
           have U0:(((flat P e).drop c).take x.cells.length)[j-c]? =some t':=by
            rw[ez (by omega),gp,show c+(j-c)=j by omega,←qS]
            exact ld
           exact ((LI (j-c) _ ys[j-c] (bO LJ) (bO oa)).pure (tg (j-c) t' ys[j-c] U0 (bO oa))).mono hle.cW hle.b7
         ·rw[ai gD] at sI
          rw[ai (by omega),ai (by omega)]
          obtain ⟨u,t2,a1,a2,a3⟩:=Cv hx ar pL (bO CJ)
          rw[ld] at a1;cases a1
          refine ⟨u,by simpa using a2,?_⟩
          rw[pG (sI.trans (bO CJ)) ld]
          exact a3.mono hle.cW hle.b7
       ·rw[ai gU] at hz
        obtain ⟨u,a2,a3⟩:=hx i' j z t' hz ld hj
        have bA:i'*P.cellsOf e+j<i*P.cellsOf e+c∨i*P.cellsOf e+c+v.cells.size≤i'*P.cellsOf e+j:=by
         rcases rW i' i with aR|oc
         ·left
          have:(i'+1)*P.cellsOf e≤i*P.cellsOf e:=dx _ aR
          rw[dz] at this
          omega
         ·right
          have:(i+1)*P.cellsOf e≤i'*P.cellsOf e:=dx _ (by omega)
          rw[dz] at this
          omega
        refine ⟨u,?_,a3.mono hle.cW hle.b7⟩
        rcases bA with bA|bA
        ·rw[ag bA];simpa using a2
        ·rw[ai (by omega),ai (by omega)];simpa using a2)
     exact ⟨_,_,_,cJ,pJ.trans yx.1,yx.2,rfl⟩
   | map _ _=>cases h
   | nest e es aq=>
    obtain ⟨b,hb,rfl⟩:=ha.gf ab (by simp)
    exact LG S ht hn hv ab hb .here h
 | cu id ver path i c=>
  obtain ⟨e0,es,aq,l,ab,h1,U,h3,h⟩:=m7 h
  obtain ⟨b,b1,e1,l1,hb,cX,rfl⟩:=ha.Lf ab h1 U h3
  exact LG S ht hn hv ab hb cX h
 | _=>cases h
end
section
variable {P:Program} {w w':World} {I I':Nat→Prop} {β β':Nat→Option Nat} {hp hp':Nat→Option ak} {C:af} {B:Nat} {M:Nat→Prop} {w0:Start}
theorem Gt: ∀{ts:List TypeId} {vs:List Value} {j:Nat} {y:V},(ic P ts vs)[j]? =some y→∃t v,ts[j]? =some t∧vs[j]? =some v∧y=nO P t v
 | [],vs,j,y,h=>by simp[ic] at h
 | _::_,[],j,y,h=>by simp[ic] at h
 | t::ts,v::vs,0,y,h=>by simp[ic] at h;exact ⟨t,v,rfl,rfl,h.symm⟩
 | t::ts,v::vs,j+1,y,h=>by
  simp only[ic,List.getElem?_cons_succ] at h
  obtain ⟨t',v',a,b,c⟩:=Gt h
  exact ⟨t',v',by simpa using a,by simpa using b,c⟩
theorem LL: ∀{ts:List TypeId} {vs:List Value},ts.length=vs.length→(ic P ts vs).length=vs.length
 | [],[],_=>rfl
 | [],_::_,h=>by simp at h
 | _::_,[],h=>by simp at h
 | t::ts,v::vs,h=>by simp[ic,LL (ts:=ts) (vs:=vs) (by simpa using h)]
theorem js {e:TypeId} (h:cE P e=true): ∃i z,P.info? e=some i∧i.zero=some z∧i.size=P.cellsOf e∧z.cells.size=P.cellsOf e∧zeroCells P e=ic P (flat P e) z.cells.toList:=by
 unfold cE at h
 simp only[aM,aT,iY] at h
 obtain ⟨h1,U,_,h3⟩:=h
 cases hi:P.info? e with
 | none=>rw[hi] at h3;cases h3
 | some i=>
  rw[hi] at h3
  simp only[Option.bind_some] at h3
  cases hz:i.zero with
  | none=>rw[hz] at h3;cases h3
  | some z=>
   rw[hz] at h3
   simp only[aT] at h3
   exact ⟨i,z,rfl,hz,by simp[Program.cellsOf,hi],h3,by simp[zeroCells,hi,hz]⟩
theorem LM {e:TypeId} (h:cE P e=true): ∃i z,P.info? e=some i∧i.zero=some z∧z.cells.size=(zeroCells P e).length∧z.cells.size=P.cellsOf e∧
  ∀(j:Nat) v x,z.cells[j]? =some v→(zeroCells P e)[j]? =some x→ao P w I β hp v x:=by
 obtain ⟨i,z,h1,U,h3,h4,h5⟩:=js h
 have hl:(flat P e).length=z.cells.toList.length:=by rw[(jo h).1];simpa using h4.symm
 refine ⟨i,z,h1,U,?_,h4,fun j v x hv hx=> ?_⟩
 ·rw[h5,LL hl];simp
 ·rw[h5] at hx
  obtain ⟨t,v',_,vc,rfl⟩:=Gt hx
  have:v'=v:=by
   have e1:z.cells[j]? =some v':=by simpa using vc
   rw[hv] at e1;exact (cC e1).symm
  subst this
  exact ao.const t v'
theorem mc {nb:Nat} {b:ak} {v:V} {upd:List (Nat × ak)} {r:R} {rd:List Nat} (h:(ig nb b v upd).run C hp=some (r,rd)):hp nb=none∧r=⟨v,(nb,b)::upd⟩:=by
 obtain ⟨l,h⟩:=run_get h
 cases hn:hp nb with
 | none=>rw[hn] at h;exact ⟨rfl,(aP h).symm⟩
 | some x=>rw[hn] at h;cases h
theorem LN (S:aH P w I β hp B M w0) {nb:Nat} {xs:List V} {C0:Array Value} {T:TypeId} (hn:hp nb=none) (hs:C0.size=xs.length)
  (hx: ∀(j:Nat) v x,C0[j]? =some v→xs[j]? =some x→ao P w I β hp v x) (fD:K9 P w.heap.size T C0):
  Le P w I β hp (w.alloc (.cells C0 T)) I (aL β nb (some w.heap.size)) (aL hp nb (some (.var T xs)))∧aH P (w.alloc (.cells C0 T)) I (aL β nb (some w.heap.size)) (aL hp nb (some (.var T xs))) B M w0∧
  ao P (w.alloc (.cells C0 T)) I (aL β nb (some w.heap.size)) (aL hp nb (some (.var T xs))) (.pointer (some ⟨w.heap.size,0,none⟩)) (.ptr nb 0 0):=by
 obtain ⟨h1,U⟩:=F4 S (blk:= .var T xs) (c:=C0) (T:=T) hn (fun b' h=>(cC (h.flat (by simp))).symm) (fun hle eo cD=> .var rfl eo hs cD (fun j v x a b=>(hx j v x a b).mono hle) fD)
 refine ⟨h1,U,?_⟩
 have:=ao.ptr (P:=P) (w:=w.alloc (.cells C0 T)) (I:=I) (β:=aL β nb (some w.heap.size)) (hp:=aL hp nb (some (.var T xs))) (i:=0) (c:=0) (blk:= .var T xs) (cI _ _ _) (by simp) (cI _ _ _)
 simpa using this
theorem U1 (S:aH P w I β hp B M w0) {e:TypeId} {nb:Nat} {r:R} {rd:List Nat}
  (h:(Rd.aE (cE P e&&(!(nP P e)||K4 (zeroCells P e))) (ig nb (.var e (zeroCells P e)) (.ptr nb 0 0) [])).run C hp=some (r,rd)):cN P ((Instr.alloc e true (.tuple #[])).run P w) w I β hp B M w0 r:=by
 obtain ⟨ar,h⟩:=aK h
 rw[aM] at ar
 obtain ⟨ar,k9⟩:=ar
 obtain ⟨hn,rfl⟩:=mc h
 obtain ⟨i,z,h1,U,h3,h4,h5⟩:=LM (w:=w) (I:=I) (β:=β) (hp:=hp) ar
 obtain ⟨a,b,c⟩:=LN S (T:=e) hn h3 h5 fun bL=>by
  rw[bL,qy,Bool.false_or] at k9
  cases hz:zeroCells P e with
  | nil=>rw[hz] at k9;cases k9
  | cons y l=>
   rw[hz] at k9 h3 h5
   cases y<;>first|(cases k9;done)|skip
   have aR:0<z.cells.size:=by rw[h3];simp
   have:=h5 0 z.cells[0] .c8 (jJ aR) rfl
   left
   rw[jJ aR]
   generalize z.cells[0]=u at this
   cases this;rfl
 exact ⟨_,_,_,_,by simp[Instr.alloc,zeroValue,typeInfo,h1,U,newVar,newRow],a,b,c⟩
theorem U2 (S:aH P w I β hp B M w0) {e:TypeId} {nb:Nat} {x:V} {v:Value} {r:R} {rd:List Nat} (hv:ao P w I β hp v x)
  (h:(Rd.aE (!(nP P e)) <| kh x.cells (ig nb (.var e x.cells) (.ptr nb 0 0) [])).run C hp=some (r,rd)):cN P ((Instr.box e v).run P w) w I β hp B M w0 r:=by
 obtain ⟨k9,h⟩:=aK h
 obtain ⟨e1,e2⟩:=F9 hv h
 obtain ⟨_,l,h⟩:=Cy h (vs:=v.cells.toList) (by simpa using e1) (fun j u y a b=>e2 j u y (by simpa using a) b)
 obtain ⟨hn,rfl⟩:=mc h
 obtain ⟨a,b,c⟩:=LN S (T:=e) hn e1 e2 fun bL=>by rw[bL] at k9;cases k9
 exact ⟨_,_,_,_,by simp[Instr.box,newVar,newRow],a,b,c⟩
theorem foldl_set (off:Nat): ∀(vs:List Value) (k:Nat) (cs:Array Value) (i:Nat),off+k+vs.length≤cs.size→
  ((vs.zipIdx k).foldl (fun cs p=>cs.setIfInBounds (off+p.2) p.1) cs)[i]? =if i<off+k then cs[i]? else if i<off+k+vs.length then vs[i-(off+k)]? else cs[i]?
 | [],k,cs,i,h=>by simp;intro h1 U;omega
 | v::vs,k,cs,i,h=>by
  simp only[List.zipIdx_cons,List.foldl_cons]
  simp only[List.length_cons] at h⊢
  rw[foldl_set off vs (k+1) _ i (by simp;omega)]
  by_cases h1:i<off+k
  ·rw[ag (by omega),ag h1]
   rw[BA (by omega)]
  ·rw[ai h1]
   by_cases U:i=off+k
   ·subst U
    rw[ag (by omega),ag (by omega)]
    rw[Ft (by omega)]
    simp
   ·rw[ai (by omega)]
    by_cases h3:i<off+k+(vs.length+1)
    ·rw[ag (by omega),ag h3,show i-(off+k)=(i-(off+(k+1)))+1 by omega]
     simp
    ·rw[ai (by omega),ai h3,BA (by omega)]
theorem LO (off:Nat): ∀(vs:List Value) (k:Nat) (cs:Array Value),((vs.zipIdx k).foldl (fun cs p=>cs.setIfInBounds (off+p.2) p.1) cs).size=cs.size
 | [],k,cs=>rfl
 | v::vs,k,cs=>by
  simp only[List.zipIdx_cons,List.foldl_cons]
  rw[LO off vs (k+1)]
  simp
theorem LP {cells:Array Value} {off:Nat} {v:Value} (h:off+v.cells.size≤cells.size) (i:Nat):
  (v.cells.zipIdx.foldl (fun cs (p:Value × Nat)=>cs.setIfInBounds (off+p.2) p.1) cells)[i]? =if i<off then cells[i]? else if i<off+v.cells.size then v.cells[i-off]? else cells[i]? :=by
 have:=foldl_set off v.cells.toList 0 cells i (by simpa using h)
 rw[←BB]
 simpa[Array.toList_zipIdx] using this
theorem LQ {cells:Array Value} {off:Nat} {v:Value}:(v.cells.zipIdx.foldl (fun cs (p:Value × Nat)=>cs.setIfInBounds (off+p.2) p.1) cells).size=cells.size:=by
 have:=LO off v.cells.toList 0 cells
 rw[←BB]
 simpa[Array.toList_zipIdx] using this
inductive vm (P:Program) (w:World) (I:Nat→Prop) (β:Nat→Option Nat) (hp:Nat→Option ak):List (Nat × Value)→List (Nat × V)→Prop
 | nil:vm P w I β hp [] []
 | cons {i:Nat} {v:Value} {x:V} {vs:List (Nat × Value)} {xs:List (Nat × V)}:v.cells.size=x.cells.length→(∀(j:Nat) u y,v.cells[j]? =some u→x.cells[j]? =some y→ao P w I β hp u y)→
   vm P w I β hp vs xs→vm P w I β hp ((i,v)::vs) ((i,x)::xs)
theorem LR (place:Nat→Option (Nat × Nat)): ∀{vs:List (Nat × Value)} {px:List (Nat × V)} {cells:Array Value} {xs ys:List V},vm P w I β hp vs px→cells.size=xs.length→
  (∀(j:Nat) v x,cells[j]? =some v→xs[j]? =some x→ao P w I β hp v x)→sc place xs px=some ys→
  ∃od:Array Value,Instr.fill place cells vs=some od∧od.size=ys.length∧∀(j:Nat) v x,od[j]? =some v→ys[j]? =some x→ao P w I β hp v x
 | _,_,cells,xs,ys,.nil,hs,hx,h=>by
  simp only[sc,dA] at h
  subst h
  exact ⟨cells,by simp[Instr.fill],hs,hx⟩
 | _,_,cells,xs,ys,@vm.cons _ _ _ _ _ i v x vs px h1 U h3,hs,hx,h=>by
  simp only[sc] at h
  cases cU:place i with
  | none=>rw[cU] at h;cases h
  | some os=>
   obtain ⟨off,size⟩:=os
   rw[cU] at h
   simp only at h
   cases hc:(Nat.beq x.cells.length size&&Nat.ble (off+size) xs.length) with
   | false=>rw[hc] at h;cases h
   | true=>
    rw[hc] at h
    simp only[cond_true] at h
    simp only[aM,aT,eR] at hc
    have hv:off+v.cells.size≤cells.size:=by omega
    have hb:off+x.cells.length≤xs.length:=by omega
    have hl:(fc xs off x.cells).length=xs.length:=yw _ _ _ hb
    obtain ⟨od,f1,f2,f3⟩:=LR place (cells:=v.cells.zipIdx.foldl (fun cs (p:Value × Nat)=>cs.setIfInBounds (off+p.2) p.1) cells) (xs:=fc xs off x.cells) h3 (by rw[LQ,hl,hs])
     (fun j u y hu hy=>by
      rw[LP hv] at hu
      unfold fc at hy
      rw[ma _ _ _ _ hb] at hy
      by_cases j1:j<off
      ·rw[ag j1] at hu hy;exact hx j u y hu hy
      ·rw[ai j1] at hu hy
       by_cases j2:j<off+x.cells.length
       ·rw[ag (by omega)] at hu
        rw[ag j2] at hy
        exact U (j-off) u y hu hy
       ·rw[ai (by omega)] at hu
        rw[ai j2] at hy
        exact hx j u y hu hy) h
    refine ⟨od,?_,f2,f3⟩
    simp only[Instr.fill,cU]
    rw[ai (by simp;omega)]
    exact f1
theorem U3 {t:TypeId} {parts:Array (Nat × Value)} {cells:Array Value} {z:Value} {i:TypeInfo} (hi:P.info? t=some i) (hz:i.zero=some z) (h:Instr.fill (placeOf P t) z.cells parts.toList=some cells) (ha:bC P t=true)
  (cU: ∀fs,P.underlying t=some (.struct fs)→(fs.toList.mapM fun f=>(P.info? f.type).map fun i=>(f.offset,i.size)).isSome=true) (pM: ∀n e,P.underlying t=some (.array n e)→(P.info? e).isSome=true):
  (Instr.build t parts).run P w= .ok (.agg cells) w:=by
 refine run_build w t parts cells ?_
 unfold Program.built
 unfold bC at ha
 rw[hi]
 split at ha
 ·rename_i fs hu
  have:=cU fs hu
  cases hm:fs.toList.mapM fun f=>(P.info? f.type).map fun i=>(f.offset,i.size) with
  | none=>rw[hm] at this;cases this
  | some places=>
   simp only[hu,hz,hm]
   have hq:placeOf P t=fun i=>places[i]? :=by simp[placeOf,hu,hm]
   rw[hq] at h
   simpa using h
 ·rename_i n e hu
  have:=pM n e hu
  cases iL:P.info? e with
  | none=>rw[iL] at this;cases this
  | some ie=>
   simp only[hu,hz,iL]
   have hq:placeOf P t=fun i=>some (i*ie.size,ie.size):=by simp[placeOf,hu,iL]
   rw[hq] at h
   exact h
 ·cases ha
theorem LU {α:Type}: ∀(xs ys:List V) (k:Rd α),kh (xs++ys) k=kh xs (kh ys k)
 | [],_,_=>rfl
 | x::xs,ys,k=>by simp only[List.cons_append,kh,LU xs ys k]
theorem LV {a:Act} {sl:Nat→V} (hs:jP P w I β hp a sl) {G:Nat→V} (hg:fO P G w I) (t:TypeId) {α:Type}: ∀{l:List (Nat × Operand)} {k:Rd α} {r:α} {rd:List Nat},
  (kh ((l.map fun p=>(aQ P G t sl p.2).cells).flatten) k).run C hp=some (r,rd)→
  vm P w I β hp (l.map fun p=>(p.1,a.eval p.2)) (l.map fun p=>(p.1,aQ P G t sl p.2))∧∃ep,k.run C hp=some (r,ep)
 | [],k,r,rd,h=>⟨.nil,rd,h⟩
 | (i,x)::l,k,r,rd,h=>by
  simp only[dB,List.flatten_cons,LU] at h
  obtain ⟨e1,e2⟩:=F9 (hs.ev hg t x) h
  obtain ⟨_,l1,h⟩:=Cy h (vs:=(a.eval x).cells.toList) (by simpa using e1) (fun j u y a b=>e2 j u y (by simpa using a) b)
  obtain ⟨h1,U⟩:=LV hs hg t h
  exact ⟨.cons e1 e2 h1,U⟩
theorem U4 (S:aH P w I β hp B M w0) {a:Act} {sl:Nat→V} (hs:jP P w I β hp a sl) {G:Nat→V} (hg:fO P G w I) {t ty:TypeId} {ps:Array (Nat × Operand)} {r:R} {rd:List Nat}
  (h:(Rd.aE (cE P t&&(bC P t&&B5 P t)) (kh ((ps.toList.map fun p=>(aQ P G ty sl p.2).cells).flatten)
   (uT (sc (placeOf P t) (zeroCells P t) (ps.toList.map fun p=>(p.1,aQ P G ty sl p.2))) fun cs=> .ret ⟨.agg cs,[]⟩))).run C hp=some (r,rd)):
  cN P ((Instr.build t (ps.map fun (i,x)=>(i,a.eval x))).run P w) w I β hp B M w0 r:=by
 obtain ⟨ar,h⟩:=aK h
 simp only[aM] at ar
 obtain ⟨h1,l,h⟩:=LV hs hg ty h
 cases hf:sc (placeOf P t) (zeroCells P t) (ps.toList.map fun p=>(p.1,aQ P G ty sl p.2)) with
 | none=>rw[hf] at h;cases h
 | some cs=>
  rw[hf] at h
  obtain rfl:=aP h
  obtain ⟨i,z,hi,hz,h3,h4,h5⟩:=LM (w:=w) (I:=I) (β:=β) (hp:=hp) ar.1
  obtain ⟨cells,f1,f2,f3⟩:=LR (placeOf P t) h1 h3 h5 hf
  have LW:=ar.2.2
  refine .same S (v:= .agg cells) (U3 hi hz (by simpa using f1) ar.2.1 (fun fs hu=> ?_) (fun n e hu=> ?_)) (.agg f2 f3)
  ·simpa[B5,hu] using LW
  ·simpa[B5,hu] using LW
theorem U5 (cx: ∀id blk,hp id=some blk→dC P w I β hp (β id) blk) {x:V} {v:Value} {ys:List V} {fr:List (Nat × ak)} {rd:List Nat} {ts:List TypeId} (hv:ao P w I β hp v x)
  (h:(qF P x.cells).run C hp=some ((ys,fr),rd)) (ht:pd P ts ys=true):
  v.cells.size=x.cells.length∧∀(j:Nat) u y,v.cells.toList[j]? =some u→x.cells[j]? =some y→ao P w I β hp u y:=by
 cases x with
 | agg xs=>
  obtain ⟨cs,rfl,h1,U⟩:=hv.jR
  exact ⟨h1,fun j u y a b=>U j u y (by simpa[Value.cells] using a) b⟩
 | _=>
  simp only[V.cells] at h⊢
  simp only[qF] at h
  obtain ⟨⟨y1,u1⟩,l3,l4,hq,h⟩:=jQ h
  obtain ⟨q1,q2⟩:=Cm cx hq hv
  obtain ⟨⟨y2,u2⟩,l5,l6,Gr,h⟩:=jQ h
  cases Gr
  have:=aP h
  cases this
  obtain ⟨tl,tg⟩:=sE ht
  have eX:=tg 0 _ y1 (bO (by rw[tl];exact Nat.one_pos)) rfl
  have cU:=q2 (gQ P w I β hp u1) (fun _ h=> .inl h) (fun p hp b h=> .inr ⟨p,hp,h⟩)
  have ho:=cU.pure eX
  have Gs:v.cells= #[v]:=by cases ho<;>rfl
  rw[Gs]
  refine ⟨rfl,fun j u y hu hy=> ?_⟩
  cases j with
  | zero=>simp at hu hy;subst hu;subst hy;exact hv
  | succ j=>simp at hy
def vn (P:Program) (w:World) (I:Nat→Prop) (e:TypeId) (cells:Array Value) (es:List V):Prop:=
 cells.size=es.length*P.cellsOf e∧∀(i j:Nat) (x:V) (t':TypeId),es[i]? =some x→(aV P e)[j]? =some t'→j<P.cellsOf e→∃v,cells[i*P.cellsOf e+j]? =some v∧Pure P w I t' v (bH P e x j)
theorem vn.set {e:TypeId} {cells:Array Value} {es ys:List V} {i:Nat} {v:Value} (h:vn P w I e cells es) (hi:i<es.length) (hv:v.cells.size=P.cellsOf e) (hy:ys.length=P.cellsOf e)
  (hr: ∀(j:Nat) (t':TypeId) (u:Value) (y:V),(aV P e)[j]? =some t'→v.cells[j]? =some u→ys[j]? =some y→Pure P w I t' u y):
  vn P w I e (v.cells.zipIdx.foldl (fun cs (p:Value × Nat)=>cs.setIfInBounds (i*P.cellsOf e+p.2) p.1) cells) (es.set i (cf P e ys)):=by
 obtain ⟨h1,U⟩:=h
 have hb:i*P.cellsOf e+v.cells.size≤cells.size:=by
  have:(i+1)*P.cellsOf e≤es.length*P.cellsOf e:=dx _ hi
  rw[dz] at this
  omega
 refine ⟨by rw[LQ,lP,h1],fun i' j x t' hx ht hj=> ?_⟩
 rw[LP hb]
 rw[xy] at hx
 by_cases gU:i=i'
 ·subst gU
  rw[ag rfl,ag hi] at hx
  cases hx
  rw[ai (by omega),ag (by omega),show i*P.cellsOf e+j-i*P.cellsOf e=j by omega]
  have h3:j<v.cells.size:=by omega
  have h4:j<ys.length:=by omega
  refine ⟨v.cells[j],jJ h3,?_⟩
  rw[pG (bO h4) ht]
  exact hr j t' _ _ ht (jJ h3) (bO h4)
 ·rw[ai gU] at hx
  have bA:i'*P.cellsOf e+j<i*P.cellsOf e∨i*P.cellsOf e+v.cells.size≤i'*P.cellsOf e+j:=by
   rcases rW i' i with aR|oc
   ·left
    have:(i'+1)*P.cellsOf e≤i*P.cellsOf e:=dx _ aR
    rw[dz] at this
    omega
   ·right
    have:(i+1)*P.cellsOf e≤i'*P.cellsOf e:=dx _ (by omega)
    rw[dz] at this
    omega
  rcases bA with bA|bA
  ·rw[ag bA];exact U i' j x t' hx ht hj
  ·rw[ai (by omega),ai (by omega)];exact U i' j x t' hx ht hj
theorem U6 {t':TypeId} {v:Value} (eX:dS P t' (uN (nO P t' v))=true):Pure P w I t' v (uN (nO P t' v)):=by
 have hc:=ao.const (P:=P) (w:=w) (I:=I) (β:=fun _=>none) (hp:=fun _=>none) t' v
 cases sJ:nO P t' v<;>rw[sJ] at eX hc<;>simp only[uN] at eX⊢
 case int k n=>rw[hc.dL];exact Plain.pure (v:= .int k n) (y:= .int k n) rfl eX
 case bool b=>rw[hc.jq];exact Plain.pure (v:= .bool b) (y:= .bool b) rfl eX
 case str l=>obtain ⟨s,e1,e2⟩:=hc.kZ;rw[e1];exact Plain.pure (v:= .string s) (y:= .str l) ⟨s,rfl,e2⟩ eX
 case nilS e'=>
  cases hc
  exact Plain.pure (y:= .list e' []) (gN.any fun _=>rfl) eX
 case list e' es=>
  cases hc with
  | list hp=>exact Plain.pure (y:= .list e' es) hp eX
 all_goals (unfold dS at eX;split at eX<;>simp_all)
theorem yG {e:TypeId} (h:kS P e=true): ∃i z,P.info? e=some i∧i.zero=some z∧i.size=P.cellsOf e∧z.cells.size=P.cellsOf e∧
  ∀(j:Nat) (t':TypeId),(aV P e)[j]? =some t'→j<P.cellsOf e→∃v,z.cells[j]? =some v∧Pure P w I t' v (bH P e (cf P e (dX P e)) j):=by
 unfold kS at h
 simp only[aM] at h
 obtain ⟨i,z,h1,U,h3,h4,h5⟩:=js h.1
 refine ⟨i,z,h1,U,h3,h4,fun j t' ht hj=> ?_⟩
 obtain ⟨tl,tg⟩:=sE h.2
 have b8:j<(dX P e).length:=by rw[←tl,(jo h.1).1];exact hj
 have hz:=bO b8
 have eX:=tg j t' _ (by rw[←qS];exact ht) hz
 refine ⟨z.cells[j],jJ (by omega),?_⟩
 rw[pG hz ht]
 have sK:(dX P e)[j]=uN (nO P t' z.cells[j]):=by
  have:(dX P e)[j]? =((zeroCells P e)[j]?).map uN:=by simp[dX]
  rw[hz] at this
  cases hc:(zeroCells P e)[j]? with
  | none=>rw[hc] at this;cases this
  | some y=>
   rw[hc] at this
   simp only[Option.map_some,dA] at this
   rw[h5] at hc
   obtain ⟨t2,v2,a1,a2,rfl⟩:=Gt hc
   have U7:t2=t':=by
    rw[←qS,ht] at a1;exact (cC a1).symm
   have pz:v2=z.cells[j]:=by
    have U8:j<z.cells.size:=by omega
    have:z.cells.toList[j]? =some z.cells[j]:=by simp[U8]
    rw[this] at a2;exact (cC a2).symm
   rw[this,U7,pz]
 rw[sK] at eX⊢
 exact U6 eX
end
section
variable {P:Program} {w w':World} {I I':Nat→Prop} {β β':Nat→Option Nat} {hp hp':Nat→Option ak} {C:af} {B:Nat} {M:Nat→Prop} {w0:Start}
theorem vo (S:aH P w I β hp B M w0) {nb cap:Nat} {e:TypeId} {es:List V} {C0:Array Value} (ar:cE P e=true) (hn:hp nb=none) (hs:C0.size=cap*P.cellsOf e) (hl:es.length≤cap) (hm:cap≤maxLen)
  (hx: ∀(i j:Nat) (x:V) (t':TypeId),es[i]? =some x→(aV P e)[j]? =some t'→j<P.cellsOf e→∃v,C0[i*P.cellsOf e+j]? =some v∧Pure P w I t' v (bH P e x j)):
  Le P w I β hp (w.alloc (.cells C0 e)) I (aL β nb (some w.heap.size)) (aL hp nb (some (.arr e es false)))∧aH P (w.alloc (.cells C0 e)) I (aL β nb (some w.heap.size)) (aL hp nb (some (.arr e es false))) B M w0∧
  ao P (w.alloc (.cells C0 e)) I (aL β nb (some w.heap.size)) (aL hp nb (some (.arr e es false))) (.slice (some ⟨w.heap.size,0,none⟩) es.length cap) (.whole e nb):=by
 obtain ⟨h1,U⟩:=F4 S (blk:= .arr e es false) (c:=C0) (T:=e) hn (fun b' h=>(cC (h.flat (by simp))).symm) (fun hle eo cD=> .arr ar rfl eo (by rw[hs];exact dx _ hl) (fun h=>by cases h) (fun _=>cD) fun i j x t' a b c=>by
  obtain ⟨v,hv,hp⟩:=hx i j x t' a b c
  exact ⟨v,hv,hp.mono hle.cW hle.b7⟩)
 refine ⟨h1,U,.whole (cI _ _ _) (cI _ _ _) ?_ hl hm⟩
 rw[lX (heap_alloc_new w (.cells C0 e)),hs]
theorem At.only {b b':Nat} {e e':TypeId} {es aO:List V} {q:Path} (hz: ∀(i j:Nat) x t' e1 l,es[i]? =some x→(aV P e)[j]? =some t'→bH P e x j= .list e1 l→l=[])
  (h:At P w b e es q b' e' aO):q=[]∧b'=b∧e'=e∧aO=es:=by
 cases h with
 | here=>exact ⟨rfl,rfl,rfl,rfl⟩
 | step h1 U h3 h4 h5 h6=>have:=hz _ _ _ _ _ _ U h3 h5;subst this;simp at h6
theorem kW.pt {t:TypeId} {v:Value} {x:V} (h:Pure P w I t v x) (hz: ∀e1 l,x= .list e1 l→l=[]):kW P w I t v x:=by
 cases h with
 | int h=>exact .fj (by unfold fe;rw[h]) (.int h)
 | bool h=>exact .fj (by unfold fe;rw[h]) (.bool h)
 | str h hl=>exact .fj (by unfold fe;rw[h]) (.str h hl)
 | nil h=>exact .emp h fun _=>rfl
 | emp h=>exact .emp h fun h=>by cases h
 | list g hu hl _ _ _ _=>
  have:=hz _ _ rfl
  subst this
  simp at hl
  subst hl
  exact .emp hu fun h=>by cases h
theorem U9 (S:aH P w I β hp B M w0) {nb cap:Nat} {e:TypeId} {es:List V} {C0:Array Value} (ar:cE P e=true) (hn:hp nb=none) (hs:C0.size=cap*P.cellsOf e) (hl:es.length≤cap) (hm:cap≤maxLen)
  (hx: ∀(i j:Nat) (x:V) (t':TypeId),es[i]? =some x→(aV P e)[j]? =some t'→j<P.cellsOf e→∃v,C0[i*P.cellsOf e+j]? =some v∧Pure P w I t' v (bH P e x j))
  (hz: ∀(i j:Nat) x t' e1 l,es[i]? =some x→(aV P e)[j]? =some t'→bH P e x j= .list e1 l→l=[]):
  Le P w I β hp (w.alloc (.cells C0 e)) I (aL β nb (some w.heap.size)) (aL hp nb (some (.nest e es [0,0,0])))∧aH P (w.alloc (.cells C0 e)) I (aL β nb (some w.heap.size)) (aL hp nb (some (.nest e es [0,0,0]))) B M w0∧
  ao P (w.alloc (.cells C0 e)) I (aL β nb (some w.heap.size)) (aL hp nb (some (.nest e es [0,0,0]))) (.slice (some ⟨w.heap.size,0,none⟩) es.length cap) (.whole e nb):=by
 obtain ⟨h1,U⟩:=F4 S (blk:= .nest e es [0,0,0]) (c:=C0) (T:=e) hn (fun b' h=>by
   cases h with
   | root _ h=>exact (cC h).symm
   | row h ha=>cases h;exact (At.only hz ha).2.1)
  (fun hle eo cD=> .nest rfl (fun q b' e' aO ha=>by
   obtain ⟨rfl,rfl,rfl,rfl⟩:=At.only hz ha
   refine ⟨ar,⟨C0,eo,by rw[hs];exact dx _ hl,fun i j x t' a b c=> ?_⟩,cD⟩
   obtain ⟨v,hv,hp⟩:=hx i j x t' a b c
   exact ⟨v,hv,.pt (hp.mono hle.cW hle.b7) fun e1 l h=>hz i j x t' e1 l a b h⟩)
   fun q1 q2 b' e1 cb e2 bY a1 a2=>(At.only hz a1).1.trans (At.only hz a2).1.symm)
 refine ⟨h1,U,.dQ (cI _ _ _) (cI _ _ _) ?_ hl hm⟩
 rw[lX (heap_alloc_new w (.cells C0 e)),hs]
theorem LX (cx: ∀id blk,hp id=some blk→dC P w I β hp (β id) blk) {a:Act} {sl:Nat→V} (hs:jP P w I β hp a sl) {G:Nat→V} (hg:fO P G w I) {e:TypeId} {len:Nat}: ∀{l:List (Nat × Operand)} {ps:List (Nat × V)} {upd:List (Nat × ak)} {rd:List Nat},
  (xQ P e len (l.map fun p=>(p.1,aQ P G e sl p.2))).run C hp=some ((ps,upd),rd)→cE P e=true→(∀p∈upd,yk hp p)∧∀I':Nat→Prop,(∀b,I b→I' b)→(∀p∈upd,∀b,qR P w β hp p.1 b→I' b)→
   ∀(cells:Array Value) (es:List V),es.length=len→vn P w I' e cells es→∃od,Instr.fill (fun i=>some (i*P.cellsOf e,P.cellsOf e)) cells (l.map fun p=>(p.1,a.eval p.2))=some od∧vn P w I' e od (xP es ps)∧(xP es ps).length=len
 | [],ps,upd,rd,h,_=>by
  cases h
  exact ⟨by simp,fun I' _ _ cells es hl he=>⟨cells,by simp[Instr.fill],he,hl⟩⟩
 | (i,x)::l,ps,upd,rd,h,ar=>by
  simp only[dB,xQ] at h
  obtain ⟨⟨ys,u1⟩,l1,l2,h1,h⟩:=jQ h
  obtain ⟨hc,h⟩:=aK h
  obtain ⟨⟨ps',u2⟩,l3,l4,U,h⟩:=jQ h
  have:=aP h
  cases this
  simp only[aM,iY] at hc
  obtain ⟨hi,eX⟩:=hc
  obtain ⟨tl,tg⟩:=sE eX
  have vd:=hs.ev hg e x
  obtain ⟨v1,v2⟩:=U5 cx vd h1 eX
  obtain ⟨k1,k2,k3⟩:=F1 cx h1 (vs:=(a.eval x).cells.toList) (by simpa using v1) v2
  obtain ⟨m1,m2⟩:=LX cx hs hg U ar
  refine ⟨fun p hp=> ?_,fun I' i1 i2 cells es hl he=> ?_⟩
  ·rcases eB.1 hp with h|h
   ·exact k2 p h
   ·exact m1 p h
  ·have cU:=k3 I' i1 (fun p hp=>i2 p (eB.2 (.inl hp)))
   have aW:=(jo ar).1
   have sH:ys.length=P.cellsOf e:=by rw[←tl,aW]
   have Lx:(a.eval x).cells.size=P.cellsOf e:=by rw[v1,←k1,sH]
   have sL:=he.set (i:=i) (ys:=ys) (by omega) Lx sH (fun j t' u y ht hu hy=>by
    exact (cU j u y (by simpa using hu) hy).pure (tg j t' y (by rw[←qS];exact ht) hy))
   obtain ⟨od,f1,f2,f3⟩:=m2 I' i1 (fun p hp=>i2 p (eB.2 (.inr hp))) _ (es.set i (cf P e ys)) (by simpa using hl) sL
   refine ⟨od,?_,f2,f3⟩
   have hb:i*P.cellsOf e+P.cellsOf e≤cells.size:=by
    rw[he.1,hl]
    have:(i+1)*P.cellsOf e≤len*P.cellsOf e:=dx _ hi
    rw[dz] at this
    omega
   simp only[dB,Instr.fill]
   rw[ai (by simp;omega)]
   exact f1
theorem LY {z:Array Value} {n k:Nat} (hk:k<n) (hz:0<z.size):((Array.range n).map (z[· %z.size]!))[k]? =z[k %z.size]? :=by
 have hm:k %z.size<z.size:=uG _ hz
 simp[hk,hm]
theorem CK {e:TypeId} (h:kS P e=true) {i:TypeInfo} {z:Value} (hi:P.info? e=some i) (hz:i.zero=some z) (n m:Nat) (kf:n≤m):
  ∀(k j:Nat) (x:V) (t':TypeId),(List.replicate n (cf P e (dX P e)))[k]? =some x→(aV P e)[j]? =some t'→j<P.cellsOf e→
   ∃v,((Array.range (m*P.cellsOf e)).map (z.cells[· %z.cells.size]!))[k*P.cellsOf e+j]? =some v∧Pure P w I t' v (bH P e x j):=by
 intro k j x t' hx ht hj
 obtain ⟨i2,z2,h1,U,h3,h4,h5⟩:=yG (w:=w) (I:=I) h
 rw[hi] at h1;cases h1
 rw[hz] at U;cases U
 rw[BC] at hx
 split at hx
 ·rename_i hk
  cases hx
  obtain ⟨v,hv,hp⟩:=h5 j t' ht hj
  refine ⟨v,?_,hp⟩
  have hb:k*P.cellsOf e+j<m*P.cellsOf e:=by
   have:(k+1)*P.cellsOf e≤m*P.cellsOf e:=dx _ (by omega)
   rw[dz] at this
   omega
  rw[LY hb (by omega),h4,show (k*P.cellsOf e+j) %P.cellsOf e=j by rw[ka,Nat.mul_add_mod];exact Nat.mod_eq_of_lt hj]
  exact hv
 ·cases hx
theorem Va {P:Program} (w:World) (t e:TypeId) (len:Nat) (parts:Array (Nat × Value)) (cells:Array Value) (ie:TypeInfo) (z:Value)
  (hu:P.underlying t=some (.slice e)) (iL:P.info? e=some ie) (hz:ie.zero=some z) (Vb: ¬len*ie.size>2^24)
  (h:Instr.fill (fun i=>some (i*ie.size,ie.size)) ((Array.range (len*ie.size)).map (z.cells[· %z.cells.size]!)) parts.toList=some cells):
  (Instr.buildSlice t len parts).run P w= .ok (.slice (some ⟨w.heap.size,0,none⟩) len len) (w.alloc (.cells cells e)):=by
 by_cases kf:len*ie.size=0
 ·have h0: ∀g:Nat→Value,(Array.range (len*ie.size)).map g= #[]:=by intro g;exact Array.eq_empty_of_size_eq_zero (by simp[kf])
  have hp: ∀(u:Array Value),(Pure.pure u:Sem (Array Value)).run P w= .ok u w:=fun _=>rfl
  rw[h0] at h
  simp only[Instr.buildSlice,Sem.run_bind,run_underlying hu,Result.andThen_ok,sizeOf,typeInfo,iL]
  have h1:(Array.range (len*ie.size)).map (fun _:Nat=>(default:Value))= #[]:=h0 _
  have hs: ¬16777216<len*ie.size:=by omega
  simp[iL,hs,kf]
  simp only[kf] at h1
  simp[h1,h,newRow]
 ·exact run_buildSlice w t e len parts cells ie z hu iL hz Vb kf h
theorem Vc (S:aH P w I β hp B M w0) {a:Act} {sl:Nat→V} (hs:jP P w I β hp a sl) {G:Nat→V} (hg:fO P G w I) {t e:TypeId} {len nb:Nat} {ps:Array (Nat × Operand)} {r:R} {rd:List Nat} (hu:P.underlying t=some (.slice e))
  (h:(Rd.aE (kS P e&&Nat.ble (len*P.cellsOf e) (2^24)) ((xQ P e len (ps.toList.map fun p=>(p.1,aQ P G e sl p.2))).bind fun r=>
    ig nb (.arr e (xP (List.replicate len (cf P e (dX P e))) r.1) false) (.whole e nb) r.2)).run C hp=some (r,rd)):
  cN P ((Instr.buildSlice t len (ps.map fun (i,x)=>(i,a.eval x))).run P w) w I β hp B M w0 r:=by
 obtain ⟨hc,h⟩:=aK h
 simp only[aM,eR] at hc
 obtain ⟨cF,Ci⟩:=hc
 have ar:cE P e=true:=by
  unfold kS at cF;simp only[aM] at cF;exact cF.1
 obtain ⟨⟨pv,upd⟩,l1,l2,h1,h⟩:=jQ h
 obtain ⟨hn,rfl⟩:=mc h
 obtain ⟨m1,m2⟩:=LX S.h.rel hs hg h1 ar
 obtain ⟨pJ,S1⟩:=yo S m1
 obtain ⟨i,z,hi,hz,h3,h4,_⟩:=yG (w:=w) (I:=I) cF
 have iI:=(jo ar).2
 have h0:vn P w (gQ P w I β hp upd) e ((Array.range (len*P.cellsOf e)).map (z.cells[· %z.cells.size]!)) (List.replicate len (cf P e (dX P e))):=
  ⟨by simp,CK cF hi hz len len (bQ _)⟩
 obtain ⟨cells,f1,f2,f3⟩:=m2 (gQ P w I β hp upd) (fun _ h=> .inl h) (fun p hp b h=> .inr ⟨p,hp,h⟩) _ _ (by simp) h0
 have jt:bE hp upd nb=none:=by
  rcases sw (hp:=hp) (l:=upd) (id:=nb) with h|⟨b',hm,_⟩
  ·exact h.trans hn
  ·obtain ⟨e1,cb,_,h5⟩:=m1 _ hm
   simp only[hn] at h5
   rcases h5 with ⟨_,h5⟩|⟨_,h5⟩<;>cases h5
 have l7:len≤maxLen:=by
  have:len*1≤len*P.cellsOf e:=rX _ iI
  simp only[maxLen]
  omega
 obtain ⟨n1,n2,n3⟩:=vo S1 (cap:=len) ar jt (by rw[f2.1,f3]) (by rw[f3];exact bQ _) l7 f2.2
 have cJ:=Va w t e len (ps.map fun (i,x)=>(i,a.eval x)) cells i z hu hi hz (by rw[h3];omega) (by rw[h3];simpa using f1)
 refine ⟨_,_,_,_,cJ,pJ.trans n1,n2,?_⟩
 rw[f3] at n3
 exact n3
theorem LZ (S:aH P w I β hp B M w0) {t e:TypeId} {nb:Nat} {kl kc:IntKind} {n m:Int} {r:R} {rd:List Nat} (hu:P.underlying t=some (.slice e))
  (h:(Rd.aE (kS P e&&(decide (0≤n)&&(decide (n≤m)&&Nat.ble (m.toNat*P.bytesOf e) dN)))
    (ig nb (.arr e (List.replicate n.toNat (cf P e (dX P e))) false) (.whole e nb) [])).run C hp=some (r,rd)):
  cN P ((Instr.makeSlice t (.int kl n) (.int kc m)).run P w) w I β hp B M w0 r:=by
 obtain ⟨hc,h⟩:=aK h
 simp only[aM,eR,dw] at hc
 obtain ⟨cF,h0,kf,dU⟩:=hc
 have ar:cE P e=true:=by
  unfold kS at cF;simp only[aM] at cF;exact cF.1
 obtain ⟨hn,rfl⟩:=mc h
 obtain ⟨i,z,hi,hz,h3,h4,_⟩:=yG (w:=w) (I:=I) cF
 have jT:P.bytesOf e=i.bytes:=by simp[Program.bytesOf,hi]
 have Gu:m≤9223372036854775807:=by
  have h1:m.toNat*1≤m.toNat*P.bytesOf e:=rX _ (u5 ar)
  simp only[dN] at dU
  omega
 have cJ:=run_make (P:=P) w t e i z hu hi hz kl kc n m h0 kf (by
  rw[jT] at dU
  simp only[dN] at dU
  have:(i.bytes:Int)*m=((m.toNat*i.bytes:Nat):Int):=by
   rw[Int.natCast_mul,Int.toNat_of_nonneg (by omega),Int.mul_comm]
  rw[this]
  omega) Gu
 have hlen:(List.replicate n.toNat (cf P e (dX P e))).length=n.toNat:=by simp
 obtain ⟨n1,n2,n3⟩:=vo S (cap:=m.toNat) (es:=List.replicate n.toNat (cf P e (dX P e))) (C0:=madeCells z.cells (m.toNat*i.size)) ar hn (by rw[size_madeCells,h3]) (by rw[hlen];omega) (by simp only[maxLen];omega)
  (by rw[h3];exact CK cF hi hz n.toNat m.toNat (by omega))
 refine ⟨_,_,_,_,cJ,n1,n2,?_⟩
 rw[hlen] at n3
 exact n3
theorem Gv: ∀{l:List V} {j:Nat} {e1:TypeId} {k:List V},xZ l=true→V.nth l j= .list e1 k→k=[]
 | [],j,e1,k,_,h=>by cases j<;>cases h
 | x::l,0,e1,k,hn,h=>by
  simp only[V.nth] at h
  subst h
  cases k with
  | nil=>rfl
  | cons _ _=>cases hn
 | x::l,j+1,e1,k,hn,h=>by
  refine Gv (l:=l) (j:=j) ?_ h
  cases x with
  | list e2 k2=>
   cases k2 with
   | nil=>exact hn
   | cons _ _=>cases hn
  | _=>exact hn
theorem Vd {e:TypeId} {n:Nat} (ar:cE P e=true) (h:xZ (dX P e)=true):
  ∀(i j:Nat) x t' e1 l,(List.replicate n (cf P e (dX P e)))[i]? =some x→(aV P e)[j]? =some t'→bH P e x j= .list e1 l→l=[]:=by
 intro i j x t' e1 l hx ht hl
 have:=List.eq_of_mem_replicate (iD hx)
 subst this
 unfold bH cf at hl
 cases ha:bC P e with
 | true=>rw[ha] at hl;exact Gv h hl
 | false=>rw[ha] at hl;exact Gv h hl
theorem Ve (S:aH P w I β hp B M w0) {t e:TypeId} {nb:Nat} {kl kc:IntKind} {n m:Int} {r:R} {rd:List Nat} (hu:P.underlying t=some (.slice e))
  (h:(Rd.aE (kS P e&&(decide (0≤n)&&(decide (n≤m)&&Nat.ble (m.toNat*P.bytesOf e) dN)))
    (Rd.aE (xZ (dX P e)) (ig nb (.nest e (List.replicate n.toNat (cf P e (dX P e))) [0,0,0]) (.whole e nb) []))).run C hp=some (r,rd)):
  cN P ((Instr.makeSlice t (.int kl n) (.int kc m)).run P w) w I β hp B M w0 r:=by
 obtain ⟨hc,h⟩:=aK h
 simp only[aM,eR,dw] at hc
 obtain ⟨cF,h0,kf,dU⟩:=hc
 have ar:cE P e=true:=by
  unfold kS at cF;simp only[aM] at cF;exact cF.1
 obtain ⟨Vf,h⟩:=aK h
 obtain ⟨hn,rfl⟩:=mc h
 obtain ⟨i,z,hi,hz,h3,h4,_⟩:=yG (w:=w) (I:=I) cF
 have jT:P.bytesOf e=i.bytes:=by simp[Program.bytesOf,hi]
 have Gu:m≤9223372036854775807:=by
  have h1:m.toNat*1≤m.toNat*P.bytesOf e:=rX _ (u5 ar)
  simp only[dN] at dU
  omega
 have cJ:=run_make (P:=P) w t e i z hu hi hz kl kc n m h0 kf (by
  rw[jT] at dU
  simp only[dN] at dU
  have:(i.bytes:Int)*m=((m.toNat*i.bytes:Nat):Int):=by
   rw[Int.natCast_mul,Int.toNat_of_nonneg (by omega),Int.mul_comm]
  rw[this]
  omega) Gu
 have hlen:(List.replicate n.toNat (cf P e (dX P e))).length=n.toNat:=by simp
 obtain ⟨n1,n2,n3⟩:=U9 S (cap:=m.toNat) (es:=List.replicate n.toNat (cf P e (dX P e))) (C0:=madeCells z.cells (m.toNat*i.size)) ar hn (by rw[size_madeCells,h3]) (by rw[hlen];omega) (by simp only[maxLen];omega)
  (by rw[h3];exact CK cF hi hz n.toNat m.toNat (by omega))
  (Vd ar Vf)
 refine ⟨_,_,_,_,cJ,n1,n2,?_⟩
 rw[hlen] at n3
 exact n3
theorem Pure.one {t:TypeId} {v:Value} {x:V} (h:Pure P w I t v x):v.oneCell'=true:=by cases h<;>rfl
structure Row (P:Program) (w:World) (I:Nat→Prop) (e:TypeId) (v:Value) (xs:List V) (a:Addr) (c:Nat) (news:List Value):Prop where
 val:v= .slice (some a) xs.length c
 len:news.length=xs.length*P.cellsOf e
 cell: ∀(j:Nat) u,news[j]? =some u→w.cell? (a.add j)=some u
 el: ∀(i j:Nat) (x:V) (t':TypeId),xs[i]? =some x→(aV P e)[j]? =some t'→j<P.cellsOf e→∃u,news[i*P.cellsOf e+j]? =some u∧Pure P w I t' u (bH P e x j)
theorem Row.one {e:TypeId} {v:Value} {xs:List V} {a:Addr} {c:Nat} {news:List Value} (h:Row P w I e v xs a c news) (ar:cE P e=true): ∀u∈news,u.oneCell'=true:=by
 intro u hu
 obtain ⟨k,hk⟩:=qx hu
 have ky:=(bj.1 hk).1
 have iI:=(jo ar).2
 rw[h.len] at ky
 have hi:k/P.cellsOf e<xs.length:=Nat.div_lt_of_lt_mul (by rw[ka];exact ky)
 have hj:k %P.cellsOf e<P.cellsOf e:=uG _ iI
 have fm:k %P.cellsOf e<(aV P e).length:=by rw[eW ar];exact hj
 obtain ⟨u',eM,hp⟩:=h.el (k/P.cellsOf e) (k %P.cellsOf e) _ _ (bO hi) (bO fm) hj
 rw[Nat.div_add_mod'] at eM
 rw[hk] at eM
 cases eM
 exact hp.one
theorem L0 {e:TypeId} {es:List V} {b:Nat} {Ca:Array Value} {off len cap o:Nat} (hh:w.heap[b]? =some (.cells Ca e (0,0))) (hs:es.length*P.cellsOf e≤Ca.size)
  (hx: ∀(i j:Nat) (x:V) (t':TypeId),es[i]? =some x→(aV P e)[j]? =some t'→j<P.cellsOf e→∃v,Ca[i*P.cellsOf e+j]? =some v∧Pure P w I t' v (bH P e x j))
  (jO:off+len≤es.length) (ho:0<len→o=off*P.cellsOf e):
  Row P w I e (.slice (some ⟨b,o,none⟩) len cap) ((es.drop off).take len) ⟨b,o,none⟩ cap ((Ca.toList.drop (off*P.cellsOf e)).take (len*P.cellsOf e)):=by
 have hlen:((es.drop off).take len).length=len:=by simp;omega
 have hb:(off+len)*P.cellsOf e≤Ca.size:=kR (dx _ jO) hs
 rw[dz] at hb
 refine ⟨by rw[hlen],by rw[hlen];simp;omega,fun j u hj=> ?_,fun i j x t' fP ht hj=> ?_⟩
 ·have b8:=(bj.1 hj).1
  have Gw:j<len*P.cellsOf e:=by
   rw[fb] at b8;omega
  have kX:0<len:=by
   rcases Nat.eq_zero_or_pos len with h|h
   ·rw[h] at Gw;simp at Gw
   ·exact h
  rw[ez Gw,gp] at hj
  rw[l9,cell?_cells hh,ho kX]
  simpa using hj
 ·have hi:i<len:=by rw[←hlen];exact (bj.1 fP).1
  rw[ez hi,gp] at fP
  obtain ⟨u,hu,hp⟩:=hx (off+i) j x t' fP ht hj
  refine ⟨u,?_,hp⟩
  have:i*P.cellsOf e+j<len*P.cellsOf e:=by
   have:(i+1)*P.cellsOf e≤len*P.cellsOf e:=dx _ hi
   rw[dz] at this
   omega
  rw[ez this,gp]
  rw[dz] at hu
  rw[←mQ]
  simpa using hu
theorem CL (cx: ∀id blk,hp id=some blk→dC P w I β hp (β id) blk) {e:TypeId} {v:Value} {x:V} {k:List V→Rd R} {r:R} {rd:List Nat} (ar:cE P e=true) (hv:ao P w I β hp v x)
  (h:(qI e x k).run C hp=some (r,rd)): ∃xs,(((∃a,v= .slice a 0 0)∧xs=[])∨∃a c news,Row P w I e v xs a c news)∧∃l,(k xs).run C hp=some (r,l):=by
 cases hv with
 | list hp'=>
  obtain ⟨hc,U⟩:=aK h
  clear h
  rw[aT] at hc
  subst hc
  cases hp' with
  | nil=>exact ⟨[],.inl ⟨⟨_,rfl⟩,rfl⟩,rd,U⟩
  | @emp a cap=>exact ⟨[],.inr ⟨a,cap,[],⟨rfl,by simp,fun j u hj=>by simp at hj,fun i j x t' hx _ _=>by simp at hx⟩⟩,rd,U⟩
  | @list b o len cap es g hl b6 hI fC hx=>
   refine ⟨_,.inr ⟨⟨b,o,none⟩,cap,(List.range (len*P.cellsOf e)).map fun k=>g (k/P.cellsOf e) (k %P.cellsOf e),⟨by rw[hl],by rw[hl];simp,fun j u hj=> ?_,fun i j x t' fP ht hj=> ?_⟩⟩,rd,U⟩
   ·obtain ⟨b8,gC⟩:=bj.1 hj
    simp at b8 gC
    have iI:=(jo ar).2
    have hi:j/P.cellsOf e<len:=Nat.div_lt_of_lt_mul (by rw[ka];exact b8)
    have gD:j %P.cellsOf e<P.cellsOf e:=uG _ iI
    rw[l9,←gC]
    have:=fC (j/P.cellsOf e) (j %P.cellsOf e) hi gD
    rwa [Nat.div_add_mod'] at this
   ·have hi:i<len:=by rw[←hl];exact (bj.1 fP).1
    have hb:i*P.cellsOf e+j<len*P.cellsOf e:=by
     have:(i+1)*P.cellsOf e≤len*P.cellsOf e:=dx _ hi
     rw[dz] at this
     omega
    refine ⟨g i j,?_,hx i j x t' fP ht⟩
    have e1:(i*P.cellsOf e+j)/P.cellsOf e=i:=by
     rw[ka,Nat.mul_add_div (jo ar).2,Nat.div_eq_of_lt hj,Nat.add_zero]
    have e2:(i*P.cellsOf e+j) %P.cellsOf e=j:=by
     rw[ka,Nat.mul_add_mod];exact Nat.mod_eq_of_lt hj
    simp[hb,e1,e2]
 | nilS=>
  obtain ⟨hc,h⟩:=aK h
  exact ⟨[],.inl ⟨⟨_,rfl⟩,rfl⟩,rd,h⟩
 | dk ab hb=>
  obtain ⟨l,h⟩:=run_get h
  simp only[ab] at h
  obtain ⟨hc,h⟩:=aK h
  exact ⟨[],.inl ⟨⟨_,rfl⟩,rfl⟩,l,h⟩
 | @whole e' id es fz b cap ab hb aW b6 hm=>
  obtain ⟨l,h⟩:=run_get h
  simp only[ab] at h
  obtain ⟨hc,U⟩:=aK h
  clear h
  simp only[aM,aT] at hc
  obtain ⟨rfl,_⟩:=hc
  have hr:=cx _ _ ab
  cases hr with
  | dm aC=>rw[aC] at hb;cases hb
  | arr F8 aC hh hs hf dJ hx=>
   rw[hb] at aC;cases aC
   have:=L0 (cap:=cap) (off:=0) (len:=es.length) (o:=0) hh hs hx (by omega) (fun _=>by simp)
   exact ⟨es,.inr ⟨_,_,_,by simpa using this⟩,l,U⟩
 | fk ab hb=>
  obtain ⟨l,h⟩:=run_get h
  simp only[ab] at h
  obtain ⟨hc,h⟩:=aK h
  exact ⟨[],.inl ⟨⟨_,rfl⟩,rfl⟩,l,by simpa using h⟩
 | @sub e' id off len es fz b o cap ab hb jO b6 ho=>
  obtain ⟨l,h⟩:=run_get h
  simp only[ab] at h
  obtain ⟨hc,U⟩:=aK h
  clear h
  simp only[aM,aT] at hc
  obtain ⟨rfl,_⟩:=hc
  have hr:=cx _ _ ab
  cases hr with
  | dm aC=>rw[aC] at hb;cases hb
  | arr F8 aC hh hs hf dJ hx=>
   rw[hb] at aC;cases aC
   exact ⟨_,.inr ⟨_,_,_,L0 (cap:=cap) hh hs hx jO ho⟩,l,U⟩
 | dI ab=>
  obtain ⟨l,h⟩:=run_get h
  simp only[ab] at h
  cases h
 | fB ab=>
  obtain ⟨l,h⟩:=run_get h
  simp only[ab] at h
  cases h
 | undef=>cases h
 | int=>cases h
 | bool=>cases h
 | str=>cases h
 | agg=>cases h
 | bh=>cases h
 | c8=>cases h
 | fn=>cases h
 | pref=>cases h
 | jl=>cases h
 | ptr=>cases h
 | iF=>cases h
 | iG=>cases h
 | row=>cases h
 | cu=>cases h
 | db=>cases h
 | gB=>cases h
 | cv=>cases h
 | dQ ab=>
  obtain ⟨l,h⟩:=run_get h
  simp only[ab] at h
  cases h
theorem L1 {t ty e:TypeId} {i:TypeInfo} (ht:P.underlying t=some (.slice e)) (hi:P.info? e=some i) (a:Option Addr) (n cap:Nat) (x:Value) (hx: ∃a c,x= .slice a 0 c) (hn:n≤cap):
  (Builtin.append_ #[t,t] ty #[.slice a n cap,x]).run P w= .ok (.slice a n cap) w:=by
 obtain ⟨a',c,rfl⟩:=hx
 cases a' with
 | none=>cases a<;>simp[Builtin.append_,run_underlying ht,sizeOf,typeInfo,hi,Builtin.lenOf,Builtin.firstCells,hn,storeCells]
 | some a'=>cases a<;>simp[Builtin.append_,run_underlying ht,sizeOf,typeInfo,hi,Builtin.lenOf,Builtin.firstCells,hn,storeCells,loadCells,loadCellsFrom]
theorem CM {e:TypeId} {es xs:List V} {n:Nat} {c:List Value} {news:List Value} (hn:es.length=n)
  (h1: ∀(i j:Nat) (x:V) (t':TypeId),es[i]? =some x→(aV P e)[j]? =some t'→j<P.cellsOf e→∃v,c[i*P.cellsOf e+j]? =some v∧Pure P w I t' v (bH P e x j))
  (U: ∀(i j:Nat) (x:V) (t':TypeId),xs[i]? =some x→(aV P e)[j]? =some t'→j<P.cellsOf e→∃v,news[i*P.cellsOf e+j]? =some v∧Pure P w I t' v (bH P e x j))
  (hb:n*P.cellsOf e≤c.length) (rest:List Value):
  ∀(i j:Nat) (x:V) (t':TypeId),(es++xs)[i]? =some x→(aV P e)[j]? =some t'→j<P.cellsOf e→∃v,(c.take (n*P.cellsOf e)++news++rest)[i*P.cellsOf e+j]? =some v∧Pure P w I t' v (bH P e x j):=by
 intro i j x t' hx ht hj
 have hl:(c.take (n*P.cellsOf e)).length=n*P.cellsOf e:=by simp;omega
 by_cases hi:i<n
 ·rw[iZ (by omega)] at hx
  obtain ⟨v,hv,hp⟩:=h1 i j x t' hx ht hj
  have:i*P.cellsOf e+j<n*P.cellsOf e:=by
   have:(i+1)*P.cellsOf e≤n*P.cellsOf e:=dx _ hi
   rw[dz] at this
   omega
  exact ⟨v,by rw[da,iZ (by omega),ez this];exact hv,hp⟩
 ·rw[ja (by omega),hn] at hx
  obtain ⟨v,hv,hp⟩:=U (i-n) j x t' hx ht hj
  have gg:i-n<xs.length:=(bj.1 hx).1
  have e1:i*P.cellsOf e+j-n*P.cellsOf e=(i-n)*P.cellsOf e+j:=by
   rw[Nat.sub_mul]
   have:n*P.cellsOf e≤i*P.cellsOf e:=dx _ (by omega)
   omega
  have h3:(i-n)*P.cellsOf e+j<news.length:=(bj.1 hv).1
  refine ⟨v,?_,hp⟩
  have h4:n*P.cellsOf e≤i*P.cellsOf e+j:=by
   have:n*P.cellsOf e≤i*P.cellsOf e:=dx _ (by omega)
   omega
  rw[da,ja (by omega),hl,e1,iZ h3]
  exact hv
theorem Pure.drew {t:TypeId} {v:Value} {x:V} (h:Pure P w I t v x):Pure P w.drew I t v x:=Pure.mono (w:=w) (w':=w.drew) (fun _ h=>h) (fun _ _=>rfl) h
theorem Vg (w:World) (t ty e:TypeId) (i:TypeInfo) (z:Value) (ht:P.underlying t=some (.slice e)) (hi:P.info? e=some i) (hz:i.zero=some z)
  (a0:Option Addr) (a:Addr) (n c:Nat) (news:List Value) (hl:news.length=n*i.size) (CN: ∀j v,news[j]? =some v→w.cell? (a.add j)=some v)
  (h0:0<n) (CO:(n:Int)≤9223372036854775807) (CP:n*i.bytes≤281474976710656):
  (Builtin.append_ #[t,t] ty #[.slice a0 0 0,.slice (some a) n c]).run P w=
   .ok (.slice (some ⟨w.heap.size,0,none⟩) n (grownCap w n 0 e)) (w.drew.alloc (.cells (news.toArray++Builtin.zeroCells z.cells (grownCap w n 0 e-n)) e)):=by
 cases a0 with
 | none=>exact run_append_nil w t ty e i z ht hi hz a n c news hl CN h0 CO CP
 | some b=>
  have:=run_append_grow (P:=P) w t ty e i z ht hi hz b 0 0 [] (by simp) (by simp) a n c news hl CN (by omega) (by omega) (by rw[ia,nextslicecap_zero h0];omega)
  simpa using this
theorem Gx (S:aH P w I β hp B M w0) {t ty e:TypeId} {nb:Nat} {x:Value} {xs:List V} (hu:P.underlying t=some (.slice e)) (ar:cE P e=true) (hn:hp nb=none)
  (dU:xs.length*P.bytesOf e≤dN) {a0:Option Addr} (hx:((∃a,x= .slice a 0 0)∧xs=[])∨∃a c news,Row P w I e x xs a c news):
  ∃v w' β',(Builtin.append_ #[t,t] ty #[.slice a0 0 0,x]).run P w= .ok v w'∧Le P w I β hp w' I β' (aL hp nb (some (.arr e xs false)))∧aH P w' I β' (aL hp nb (some (.arr e xs false))) B M w0∧
   ao P w' I β' (aL hp nb (some (.arr e xs false))) v (.whole e nb):=by
 obtain ⟨i,z,hi,hz,h3,h4,_⟩:=js ar
 have sM:=u5 ar
 have jT:P.bytesOf e=i.bytes:=by simp[Program.bytesOf,hi]
 have hlen:xs.length≤2^45:=by
  have:xs.length*1≤xs.length*P.bytesOf e:=rX _ sM
  simp only[dN] at dU
  omega
 have empty:xs=[]→(∃a c,x= .slice a 0 c)→∃v w' β',(Builtin.append_ #[t,t] ty #[.slice a0 0 0,x]).run P w= .ok v w'∧Le P w I β hp w' I β' (aL hp nb (some (.arr e xs false)))∧aH P w' I β' (aL hp nb (some (.arr e xs false))) B M w0∧
   ao P w' I β' (aL hp nb (some (.arr e xs false))) v (.whole e nb):=by
  intro fR Gy
  subst fR
  obtain ⟨a1,a2⟩:=Co S e hn
  exact ⟨_,_,_,L1 hu hi a0 0 0 x Gy (bQ _),a1,a2,.dk (cI _ _ _) (cI _ _ _)⟩
 rcases hx with ⟨⟨_,rfl⟩,rfl⟩|⟨a,c,news,hr⟩
 ·exact empty rfl ⟨_,_,rfl⟩
 ·by_cases h0:xs.length=0
  ·have fR:xs=[]:=j8 h0
   refine empty fR ⟨some a,c,?_⟩
   rw[hr.val,h0]
  ·have cJ:=Vg (P:=P) w t ty e i z hu hi hz a0 a xs.length c news (by rw[hr.len,h3]) hr.cell (by omega) (by omega) (by rw[←jT];simp only[dN] at dU;omega)
   have oc:=grownCap_ge w xs.length 0 e
   have sN:grownCap w xs.length 0 e≤maxLen:=grownCap_le_maxLen w xs.length 0 e (by simp only[maxLen];omega)
   obtain ⟨n1,n2,n3⟩:=vo S.drew (nb:=nb) (cap:=grownCap w xs.length 0 e) (es:=xs) (C0:=news.toArray++Builtin.zeroCells z.cells (grownCap w xs.length 0 e-xs.length)) ar hn
    (by simp only[BD,o6,size_zeroCells,h4,hr.len,←dz];congr 1;omega) oc sN
    (fun i' j y t' hy ht hj=>by
     obtain ⟨u,eM,hp⟩:=hr.el i' j y t' hy ht hj
     have aR:=(bj.1 eM).1
     refine ⟨u,?_,Pure.drew hp⟩
     rw[Array.getElem?_append_left (by simpa using aR)]
     simpa using eM)
   rw[hr.val]
   exact ⟨_,_,_,cJ,(Le.drew w I β hp).trans n1,n2,n3⟩
theorem Vh (S:aH P w I β hp B M w0) {t ty e:TypeId} {nb:Nat} {s x:Value} {sv xv:V} {r:R} {rd:List Nat} (hu:P.underlying t=some (.slice e)) (hs:ao P w I β hp s sv) (hx:ao P w I β hp x xv)
  (h:(uS P nb e sv xv).run C hp=some (r,rd)):cN P ((Builtin.append_ #[t,t] ty #[s,x]).run P w) w I β hp B M w0 r:=by
 unfold uS at h
 obtain ⟨ar,h⟩:=aK h
 obtain ⟨xs,kz,l0,h⟩:=CL S.h.rel ar hx h
 cases sv with
 | nilS e'=>
  obtain ⟨hc,h⟩:=aK h
  simp only[aM,aT,eR] at hc
  obtain ⟨hn,rfl⟩:=mc h
  obtain ⟨a0,rfl⟩: ∃a0,s= .slice a0 0 0:=by cases hs;exact ⟨_,rfl⟩
  obtain ⟨v,w',β',a1,a2,a3,a4⟩:=Gx (ty:=ty) S hu ar hn hc.2 kz
  exact ⟨v,w',I,β',a1,a2,a3,a4⟩
 | whole e' id=>
  obtain ⟨l,h⟩:=run_get h
  cases ab:hp id with
  | none=>rw[ab] at h;cases h
  | some blk=>
   rw[ab] at h
   cases blk with
   | dead=>cases h
   | var _=>cases h
   | nest _ _ _=>cases h
   | map _ _=>cases h
   | arr di es fz=>
    cases fz with
    | true=>cases h
    | false=>
     obtain ⟨hc,h⟩:=aK h
     obtain ⟨hn,rfl⟩:=mc h
     simp only[aM,aT,eR] at hc
     obtain ⟨Gz,GA,dU⟩:=hc
     subst Gz
     subst GA
     have bA:nb≠id:=fun e=>by rw[e,ab] at hn;cases hn
     obtain ⟨k1,k2⟩:=Cp S ab
     have jt:aL hp id (some ak.dead) nb=none:=by rw[dK _ _ bA];exact hn
     cases hs with
     | dI hd=>rw[ab] at hd;cases hd
     | dQ hd=>rw[ab] at hd;cases hd
     | dk hd hb=>
      rw[ab] at hd
      cases hd
      simp only[List.length_nil,ia] at dU
      have Vi:((∃a,x= .slice a 0 0)∧xs=[])∨∃a c news,Row P w I e x xs a c news:=kz
      obtain ⟨v,w',β',a1,a2,a3,a4⟩:=Gx (ty:=ty) k2 hu ar jt dU Vi
      exact ⟨v,w',I,β',a1,k1.trans a2,a3,a4⟩
     | @whole _ _ aO lU b cap hd hb aW b6 hm=>
      rw[ab] at hd
      cases hd
      have hr:=S.h.rel id _ ab
      cases hr with
      | dm aC=>rw[aC] at hb;cases hb
      | @arr _ _ _ b' Ca _ aC hh oe hf dJ lf=>
       rw[hb] at aC
       cases aC
       obtain ⟨i,z,hi,hz,h3,h4,_⟩:=js ar
       have sM:=u5 ar
       have jT:P.bytesOf e=i.bytes:=by simp[Program.bytesOf,hi]
       have hlen:es.length+xs.length≤2^45:=by
        have:(es.length+xs.length)*1≤(es.length+xs.length)*P.bytesOf e:=rX _ sM
        simp only[dN] at dU
        omega
       rw[lX hh] at aW
       have pC: ∀aF blk',aL hp id (some ak.dead) aF=some blk'→¬br P w (β aF) blk' b:=by
        intro aF blk' h1 U
        by_cases gU:aF=id
        ·subst gU;rw[cI] at h1;cases h1;exact U.alive rfl
        ·rw[dK _ _ gU] at h1
         exact gU (S.h.inj aF id blk' _ b h1 ab U (.root (by simp) hb))
       have GB:=S.h.qP id _ b ab (by simp) hb
       have room: ∀(C':Array Value) (w':World) (ys:List V),w'.heap[b]? =some (.cells C' e (0,0))→C'.size=Ca.size→(∀b',b'≠b→w'.heap[b']? =w.heap[b']?)→w.heap.size≤w'.heap.size→(w'.os=w.os∧w'.output=w.output)→ys.length≤cap→
         (∀(i j:Nat) (y:V) (t':TypeId),ys[i]? =some y→(aV P e)[j]? =some t'→j<P.cellsOf e→∃v,C'[i*P.cellsOf e+j]? =some v∧Pure P w I t' v (bH P e y j))→
         Le P w I β hp w' I (aL β nb (some b)) (aL (aL hp id (some .dead)) nb (some (.arr e ys false)))∧aH P w' I (aL β nb (some b)) (aL (aL hp id (some .dead)) nb (some (.arr e ys false))) B M w0∧
         ao P w' I (aL β nb (some b)) (aL (aL hp id (some .dead)) nb (some (.arr e ys false))) (.slice (some ⟨b,0,none⟩) ys.length cap) (.whole e nb):=by
        intro C' w' ys hC nc Vj Vk Vl sH hy
        obtain ⟨a1,a2⟩:=yp k2 (blk:= .arr e ys false) (w':=w') jt pC (dJ rfl) (fun b' h _=>Vj b' h) Vk Vl GB
         (fun b' h=>(cC (h.flat (by simp))).symm) (fun hle=> .arr ar rfl hC (by rw[nc,←aW];exact dx _ sH) (fun h=>by cases h) (fun _=>dJ rfl) fun i j y t' a b c=>by
          obtain ⟨v,hv,hp⟩:=hy i j y t' a b c
          exact ⟨v,hv,hp.mono hle.cW hle.b7⟩)
        refine ⟨k1.trans a1,a2,.whole (cI _ _ _) (cI _ _ _) ?_ sH hm⟩
        rw[lX hC,nc,aW]
       have same:xs=[]→(∃a c,x= .slice a 0 c)→cN P ((Builtin.append_ #[t,t] ty #[.slice (some ⟨b,0,none⟩) es.length cap,x]).run P w) w I β hp B M w0 ⟨.whole e nb,[(nb,.arr e (es++xs) false),(id,.dead)]⟩:=by
        intro fR Gy
        subst fR
        rw[eI]
        obtain ⟨a1,a2,a3⟩:=room Ca w es hh rfl (fun _ _=>rfl) (bQ _) ⟨rfl,rfl⟩ b6 lf
        exact ⟨_,_,_,_,L1 hu hi _ _ _ x Gy b6,a1,a2,a3⟩
       rcases kz with ⟨⟨_,rfl⟩,rfl⟩|⟨a,c,news,cy⟩
       ·exact same rfl ⟨_,_,rfl⟩
       ·have h1:=cy.one ar
        have ku:es.length*P.cellsOf e≤Ca.toList.length:=by simpa using oe
        by_cases qZ:es.length+xs.length≤cap
        ·have yH:es.length*P.cellsOf e+news.length≤Ca.size:=by rw[cy.len,←dz,←aW];exact dx _ qZ
         have cJ:=run_append_room (P:=P) w t ty e i hu hi b es.length cap Ca hh a xs.length c news (by rw[cy.len,h3]) cy.cell h1 qZ (by rw[h3];exact yH)
         rw[h3] at cJ
         have cF:=CM (P:=P) (w:=w) (I:=I) (n:=es.length) (c:=Ca.toList) rfl (fun i j y t' a b c=>by
          obtain ⟨v,hv,hp⟩:=lf i j y t' a b c
          exact ⟨v,by simpa using hv,hp⟩) cy.el ku (Ca.toList.drop (es.length*P.cellsOf e+news.length))
         obtain ⟨a1,a2,a3⟩:=room (Ca.toList.take (es.length*P.cellsOf e)++news++Ca.toList.drop (es.length*P.cellsOf e+news.length)).toArray (w.setRow b _) (es++xs)
          (setRow_heap w b Ca _ e _ hh) (by simp;omega) (fun b' aC=>setRow_other w b b' _ aC) (by simp) ⟨rfl,rfl⟩ (by simpa using qZ)
          (fun i j y t' a b c=>by
           obtain ⟨v,hv,hp⟩:=cF i j y t' a b c
           exact ⟨v,by simpa using hv,hp⟩)
         rw[cy.val]
         rw[dM] at a3
         exact ⟨_,_,_,_,cJ,a1,a2,a3⟩
        ·have hold: ∀(j:Nat) v,(Ca.toList.take (es.length*P.cellsOf e))[j]? =some v→w.cell? ((⟨b,0,none⟩:Addr).add j)=some v:=by
          intro j v hj
          have b8:=(bj.1 hj).1
          have gD:j<es.length*P.cellsOf e:=by rw[fb] at b8;omega
          rw[ez gD] at hj
          rw[l9,cell?_cells hh,ia]
          simpa using hj
         have cJ:=run_append_grow (P:=P) w t ty e i z hu hi hz ⟨b,0,none⟩ es.length cap (Ca.toList.take (es.length*P.cellsOf e)) (by rw[h3];simp;omega) hold a xs.length c news (by rw[cy.len,h3]) cy.cell (by omega) (by omega)
          (growslice_fits (by omega) (by rw[←jT];simp only[dN] at dU;omega))
         have oc:=grownCap_ge w (es.length+xs.length) cap e
         have sN:grownCap w (es.length+xs.length) cap e≤maxLen:=grownCap_le_maxLen w _ cap e (by simp only[maxLen];omega)
         have cF:=CM (P:=P) (w:=w) (I:=I) (n:=es.length) (c:=Ca.toList) rfl (fun i j y t' a b c=>by
          obtain ⟨v,hv,hp⟩:=lf i j y t' a b c
          exact ⟨v,by simpa using hv,hp⟩) cy.el ku (Builtin.zeroCells z.cells (grownCap w (es.length+xs.length) cap e-(es.length+xs.length))).toList
         obtain ⟨n1,n2,n3⟩:=vo k2.drew (nb:=nb) (cap:=grownCap w (es.length+xs.length) cap e) (es:=es++xs)
          (C0:=(Ca.toList.take (es.length*P.cellsOf e)).toArray++news.toArray++Builtin.zeroCells z.cells (grownCap w (es.length+xs.length) cap e-(es.length+xs.length))) ar jt
          (by
           have e1:(Ca.toList.take (es.length*P.cellsOf e)).length=es.length*P.cellsOf e:=by simp;omega
           simp only[BD,o6,size_zeroCells,h4,cy.len,e1,←dz];congr 1;omega) (by simpa using oc) sN
          (fun i j y t' a b c=>by
           obtain ⟨v,hv,hp⟩:=cF i j y t' a b c
           refine ⟨v,?_,Pure.drew hp⟩
           rw[←qz]
           simpa using hv)
         rw[cy.val]
         rw[dM] at n3
         exact ⟨_,_,_,_,cJ,(k1.trans (Le.drew w I β _)).trans n1,n2,n3⟩
 | _=>cases h
end
section
variable {P:Program} {w w':World} {I I':Nat→Prop} {β β':Nat→Option Nat} {hp hp':Nat→Option ak} {C:af} {B:Nat} {M:Nat→Prop} {w0:Start}
theorem run_copy_none (w:World) {dT sT ty elem:TypeId} {i:TypeInfo} (a0:Option Addr) (L3 Vm:Nat) (a1:Option Addr) (L4 Vn:Nat) (hu:P.underlying dT=some (.slice elem)) (hi:P.info? elem=some i) (h0:Nat.min L4 L3=0):
  (Builtin.copy_ #[dT,sT] ty #[.slice a0 L3 Vm,.slice a1 L4 Vn]).run P w= .ok (goInt 0) w:=by
 cases a0<;>cases a1<;>simp[Builtin.copy_,run_underlying hu,Builtin.lenOf,Builtin.firstCells,sizeOf,typeInfo,hi,h0,storeCells,loadCells,loadCellsFrom]
theorem Vo (S:aH P w I β hp B M w0) {t u ty e:TypeId} {s x:Value} {sv xv:V} {r:R} {rd:List Nat} (hu:P.underlying t=some (.slice e)) (hs:ao P w I β hp s sv) (hx:ao P w I β hp x xv)
  (h:(FD P e sv xv).run C hp=some (r,rd)):cN P ((Builtin.copy_ #[t,u] ty #[s,x]).run P w) w I β hp B M w0 r:=by
 unfold FD at h
 obtain ⟨ar,h'⟩:=aK h
 clear h
 simp only[aM,aT] at ar
 obtain ⟨ar,h1⟩:=ar
 obtain ⟨xs,kz,l0,h⟩:=CL S.h.rel ar hx h'
 obtain ⟨i,z,hi,hz,aW,_⟩:=js ar
 cases sv<;>simp only at h<;>first|(cases h;done)|skip
 rename_i e' id
 obtain ⟨l,U⟩:=run_get h
 clear h
 cases ab:hp id with
 | none=>rw[ab] at U;cases U
 | some blk=>
  rw[ab] at U
  cases blk<;>simp only at U<;>first|(cases U;done)|skip
  rename_i e2 es fz
  cases fz with
  | true=>cases U
  | false=>
  obtain ⟨hc,h3⟩:=aK U
  simp only[aM,aT] at hc
  obtain ⟨rfl,rfl⟩:=hc
  obtain rfl:=aP h3
  have me:min xs.length es.length=0→(Builtin.copy_ #[t,u] ty #[s,x]).run P w= .ok (goInt 0) w→cN P ((Builtin.copy_ #[t,u] ty #[s,x]).run P w) w I β hp B M w0 ⟨.int .i64 (min xs.length es.length:Nat),[(id,.arr e (xs.take es.length++es.drop xs.length) false)]⟩:=by
   intro h0 hr
   have he:xs.take es.length++es.drop xs.length=es:=by
    rcases Nat.le_total xs.length es.length with hl|hl
    ·have:xs=[]:=j8 (by omega)
     simp[this]
    ·have:es=[]:=j8 (by omega)
     simp[this]
   have fD:bE hp [(id,.arr e (xs.take es.length++es.drop xs.length) false)]=hp:=by
    rw[he];exact FN hp id _ ab
   refine ⟨goInt 0,w,I,β,hr,?_⟩
   simp only[fD,h0]
   exact ⟨Le.refl w I β hp,S,.int⟩
  cases hs with
  | dI hd=>rw[ab] at hd;cases hd
  | dQ hd=>rw[ab] at hd;cases hd
  | @dk _ _ fz a hd hb=>
   rw[ab] at hd
   cases hd
   refine me (by simp) ?_
   rcases kz with ⟨⟨a',rfl⟩,rfl⟩|⟨a',c,news,cy⟩
   ·exact run_copy_none w _ _ _ _ _ _ hu hi (by simp)
   ·rw[cy.val];exact run_copy_none w _ _ _ _ _ _ hu hi (by simp)
  | @whole _ _ aO lU b cap hd hb yI b6 hm=>
   have dZ:=hd
   rw[ab] at hd
   cases hd
   rcases kz with ⟨⟨a',rfl⟩,rfl⟩|⟨a',c,news,cy⟩
   ·exact me (by simp) (run_copy_none w _ _ _ _ _ _ hu hi (by simp))
   have hr:=S.h.rel id _ ab
   cases hr with
   | dm aC=>rw[aC] at hb;cases hb
   | @arr _ _ _ b' Ca _ aC hh oe hf dJ lf=>
    rw[hb] at aC
    cases aC
    have la:news.length=xs.length:=by rw[cy.len,h1,lQ]
    rw[h1,lQ] at oe
    have kA:(news.take es.length).length=Nat.min xs.length es.length:=by
     rw[fb,la,Nat.min_comm]
    have CQ:Nat.min xs.length es.length=min xs.length es.length:=rfl
    have cJ:=run_copy_row (P:=P) w t u ty e b 0 es.length cap a' xs.length c Ca e (news.take es.length) hu (by rw[hi];simp[aW,h1]) hh kA
     (fun j v hj=>cy.cell j v (by
      have:=(bj.1 hj).1
      rw[fb] at this
      rwa [ez (by omega)] at hj)) (by rw[kA,CQ];omega) (fun v hv=>cy.one ar v (List.mem_of_mem_take hv))
    rw[cy.val]
    have hq:(goInt (news.take es.length).length)= .int .i64 ((min xs.length es.length:Nat):Int):=by rw[kA];rfl
    have im:(xs.take es.length++es.drop xs.length).length=es.length:=by simp;omega
    have nc:(Ca.toList.take 0++news.take es.length++Ca.toList.drop (0+(news.take es.length).length)).toArray.size=Ca.size:=by
     simp only[o6,dM,rY,fb,kA,CQ]
     simp
     omega
    obtain ⟨a1,a2⟩:=Cz S (blk':= .arr e (xs.take es.length++es.drop xs.length) false) (Cb:=(Ca.toList.take 0++news.take es.length++Ca.toList.drop (0+(news.take es.length).length)).toArray) ab (by simp) ⟨rfl,im.symm⟩ hb (dJ rfl) (by simp) hh nc
     (fun hle eo=> .arr ar rfl eo (by rw[nc,im,h1,lQ];exact oe) (fun h=>by cases h) (fun _=>dJ rfl) fun i j y t' hy ht hj=>by
      rw[h1] at hj⊢
      obtain rfl:j=0:=by omega
      rw[lQ,Nat.add_zero]
      have pN:=(bj.1 hy).1
      rw[im] at pN
      by_cases dg:i<xs.length
      ·rw[iZ (by rw[fb];omega),ez pN] at hy
       obtain ⟨u',k1,k2⟩:=cy.el i 0 y t' hy ht (by omega)
       rw[h1,lQ,Nat.add_zero] at k1
       refine ⟨u',?_,k2.mono hle.cW hle.b7⟩
       simp only[List.take_zero,List.nil_append,lO]
       rw[iZ (by rw[fb];omega),ez pN]
       exact k1
      ·have e1:(xs.take es.length).length=xs.length:=by rw[fb];omega
       rw[ja (by omega),e1,gp,show xs.length+(i-xs.length)=i by omega] at hy
       obtain ⟨u',k1,k2⟩:=lf i 0 y t' hy ht (by omega)
       rw[h1,lQ,Nat.add_zero] at k1
       refine ⟨u',?_,k2.mono hle.cW hle.b7⟩
       simp only[List.take_zero,List.nil_append,lO,ia]
       have e2:(news.take es.length).length=xs.length:=by rw[fb];omega
       rw[ja (by omega),e2,gp,show xs.length+(i-xs.length)=i by omega]
       simpa using k1)
    exact ⟨_,_,_,_,cJ,a1,a2,by rw[hq];exact .int⟩
theorem Vp (S:aH P w I β hp B M w0) {t ty e:TypeId} {x:Value} {xv:V} {r:R} {rd:List Nat} (hu:P.underlying t=some (.slice e)) (hx:ao P w I β hp x xv)
  (h:(FC P e xv).run C hp=some (r,rd)):cN P ((Builtin.clear_ #[t] ty #[x]).run P w) w I β hp B M w0 r:=by
 unfold FC at h
 obtain ⟨cF,h'⟩:=aK h
 clear h
 have ar:cE P e=true:=by
  unfold kS at cF;simp only[aM] at cF;exact cF.1
 obtain ⟨i,z,hi,hz,aW,yJ,Vq⟩:=yG (w:=w) (I:=I) cF
 have iI:=(jo ar).2
 cases xv<;>simp only at h'<;>first|(cases h';done)|skip
 rename_i e' id off len
 obtain ⟨l,U⟩:=run_get h'
 clear h'
 cases ab:hp id with
 | none=>rw[ab] at U;cases U
 | some blk=>
  rw[ab] at U
  cases blk<;>simp only at U<;>first|(cases U;done)|skip
  rename_i e2 es fz
  cases fz with
  | true=>cases U
  | false=>
  obtain ⟨hc,h3⟩:=aK U
  simp only[aM,aT] at hc
  obtain ⟨rfl,rfl⟩:=hc
  obtain rfl:=aP h3
  have me:len=0→(Builtin.clear_ #[t] ty #[x]).run P w= .ok (.tuple #[]) w→cN P ((Builtin.clear_ #[t] ty #[x]).run P w) w I β hp B M w0 ⟨.bh [],[(id,.arr e (es.take off++(List.replicate len (cf P e (dX P e))++es.drop (off+len))) false)]⟩:=by
   intro h0 hr
   subst h0
   have fD:bE hp [(id,.arr e (es.take off++(List.replicate 0 (cf P e (dX P e))++es.drop (off+0))) false)]=hp:=by
    simp only[List.replicate_zero,List.nil_append,Nat.add_zero,List.take_append_drop]
    exact FN hp id _ ab
   refine ⟨.tuple #[],w,I,β,hr,?_⟩
   simp only[fD]
   exact ⟨Le.refl w I β hp,S,.bh rfl fun j v x hj hx=>by simp at hx⟩
  cases hx with
  | fB hd=>rw[ab] at hd;cases hd
  | @fk _ _ _ a0 hd hb=>exact me rfl (by cases a0<;>simp[Builtin.clear_,run_underlying hu])
  | @sub _ _ _ _ aO lU b o cap hd hb jO b6 ho=>
   by_cases hlen:len=0
   ·refine me hlen ?_
    subst hlen
    simp[Builtin.clear_,run_underlying hu]
   have Vr:0<len:=by omega
   have dZ:=hd
   rw[ab] at hd
   cases hd
   have hr:=S.h.rel id _ ab
   cases hr with
   | dm aC=>rw[aC] at hb;cases hb
   | @arr _ _ _ b' Ca _ aC hh oe hf dJ lf=>
    rw[hb] at aC
    cases aC
    have ho:=ho Vr
    subst ho
    have sK:(Builtin.zeroCells z.cells len).toList.length=len*P.cellsOf e:=by rw[Array.length_toList,size_zeroCells,yJ]
    have hmul:off*P.cellsOf e+len*P.cellsOf e≤es.length*P.cellsOf e:=by rw[←dz];exact dx _ jO
    have pK: ∀v∈(Builtin.zeroCells z.cells len).toList,v.oneCell'=true:=by
     intro v hv
     obtain ⟨k,hk⟩:=qx hv
     have ky:=(bj.1 hk).1
     rw[sK] at ky
     have Vs:(Builtin.zeroCells z.cells len)[k]? =z.cells[k %z.cells.size]? :=LY (z:=z.cells) (n:=len*z.cells.size) (by rw[yJ];exact ky) (by rw[yJ];exact iI)
     rw[qz,Vs] at hk
     have hm:k %z.cells.size<P.cellsOf e:=by rw[yJ];exact uG _ iI
     have Vt:k %z.cells.size<(aV P e).length:=by rw[eW ar];exact hm
     obtain ⟨v',vc,hp'⟩:=Vq (k %z.cells.size) _ (bO Vt) hm
     rw[hk] at vc
     cases vc
     generalize bH P e (cf P e (dX P e)) (k %z.cells.size)=y at hp'
     cases hp'<;>rfl
    have bL:=run_storeCells_at P b (off*P.cellsOf e) e (Builtin.zeroCells z.cells len).toList 0 Ca w hh (by rw[sK];omega) pK
    simp only[Nat.add_zero] at bL
    have cJ:(Builtin.clear_ #[t] ty #[.slice (some ⟨b,off*P.cellsOf e,none⟩) len cap]).run P w= .ok (.tuple #[]) (w.setRow b (Ca.toList.take (off*P.cellsOf e)++(Builtin.zeroCells z.cells len).toList++Ca.toList.drop (off*P.cellsOf e+(Builtin.zeroCells z.cells len).toList.length)).toArray):=by
     obtain ⟨n,rfl⟩: ∃n,len=n+1:=⟨len-1,by omega⟩
     simp[Builtin.clear_,run_underlying hu,zeroValue,typeInfo,hi,hz,bL]
    have im:(es.take off++(List.replicate len (cf P e (dX P e))++es.drop (off+len))).length=es.length:=by simp;omega
    have nc:(Ca.toList.take (off*P.cellsOf e)++(Builtin.zeroCells z.cells len).toList++Ca.toList.drop (off*P.cellsOf e+(Builtin.zeroCells z.cells len).toList.length)).toArray.size=Ca.size:=by
     simp only[o6,dM,rY,fb,sK,Array.length_toList]
     omega
    obtain ⟨a1,a2⟩:=Cz S (blk':= .arr e (es.take off++(List.replicate len (cf P e (dX P e))++es.drop (off+len))) false) ab (by simp) ⟨rfl,im.symm⟩ hb (dJ rfl) (by simp) hh nc
     (fun hle eo=> .arr ar rfl eo (by rw[nc,im];exact oe) (fun h=>by cases h) (fun _=>dJ rfl) fun i' j y t' hy ht hj=>by
      have jU:=ma es (List.replicate len (cf P e (dX P e))) off i' (by simp;omega)
      rw[uH] at jU
      rw[jU] at hy
      have hC:(Ca.toList.take (off*P.cellsOf e)++(Builtin.zeroCells z.cells len).toList++Ca.toList.drop (off*P.cellsOf e+(Builtin.zeroCells z.cells len).toList.length)).toArray[i'*P.cellsOf e+j]? =
        if i'*P.cellsOf e+j<off*P.cellsOf e then Ca.toList[i'*P.cellsOf e+j]? else if i'*P.cellsOf e+j<off*P.cellsOf e+len*P.cellsOf e then (Builtin.zeroCells z.cells len).toList[i'*P.cellsOf e+j-off*P.cellsOf e]? else Ca.toList[i'*P.cellsOf e+j]? :=by
       have:=ma Ca.toList (Builtin.zeroCells z.cells len).toList (off*P.cellsOf e) (i'*P.cellsOf e+j) (by rw[sK,Array.length_toList];omega)
       rw[lO,da,this,sK]
      by_cases GC:i'<off
      ·rw[ag GC] at hy
       have:(i'+1)*P.cellsOf e≤off*P.cellsOf e:=dx _ GC
       rw[dz] at this
       rw[ag (by omega)] at hC
       obtain ⟨u,k1,k2⟩:=lf i' j y t' hy ht hj
       exact ⟨u,hC.trans (by simpa using k1),k2.mono hle.cW hle.b7⟩
      ·rw[ai GC] at hy
       have h1:off*P.cellsOf e≤i'*P.cellsOf e:=dx _ (by omega)
       rw[ai (by omega)] at hC
       by_cases gg:i'<off+len
       ·rw[ag gg] at hy
        have:(i'+1)*P.cellsOf e≤(off+len)*P.cellsOf e:=dx _ gg
        rw[dz,dz] at this
        rw[ag (by omega)] at hC
        obtain ⟨v,k1,k2⟩:=CK (w:=w) (I:=I) cF hi hz len len (bQ _) (i'-off) j y t' hy ht hj
        refine ⟨v,hC.trans ?_,k2.mono hle.cW hle.b7⟩
        rw[show i'*P.cellsOf e+j-off*P.cellsOf e=(i'-off)*P.cellsOf e+j by rw[Nat.sub_mul];omega,qz]
        unfold Builtin.zeroCells
        rw[yJ] at k1⊢
        exact k1
       ·rw[ai gg] at hy
        have:(off+len)*P.cellsOf e≤i'*P.cellsOf e:=dx _ (by omega)
        rw[dz] at this
        rw[ai (by omega)] at hC
        obtain ⟨u,k1,k2⟩:=lf i' j y t' hy ht hj
        exact ⟨u,hC.trans (by simpa using k1),k2.mono hle.cW hle.b7⟩)
    exact ⟨_,_,_,_,cJ,a1,a2,.bh rfl fun j v x hj hx=>by simp at hx⟩
end
section
variable {P:Program} {w w':World} {I I':Nat→Prop} {β β':Nat→Option Nat} {hp hp':Nat→Option ak} {C:af} {B:Nat} {M:Nat→Prop} {w0:Start}
theorem Vu (S:aH P w I β hp B M w0) {s:TypeId} {f:Nat} {v:Value} {x:V} {r:R} {rd:List Nat} (hv:ao P w I β hp v x)
  (h:(FG P s f x).run C hp=some (r,rd)):cN P ((Instr.field s v f).run P w) w I β hp B M w0 r:=by
 unfold FG BV at h
 split at h
 ·rename_i fs hu
  cases hf:fs[f]? with
  | none=>rw[hf] at h;cases h
  | some fd=>
   rw[hf] at h
   simp only[uT] at h
   obtain ⟨ht,h⟩:=aK h
   obtain ⟨d,sO⟩:=yv ht
   obtain ⟨i,hi⟩:=va sO
   have aW:i.size=P.cellsOf fd.type:=by simp[Program.cellsOf,hi]
   cases x with
   | agg xs=>
    obtain ⟨cs,rfl,h1,U⟩:=hv.jR
    dsimp only at h
    cases ha:bC P fd.type with
    | true=>
     rw[ha] at h
     simp only[cond_true] at h
     obtain ⟨hc,h⟩:=aK h
     obtain rfl:=aP h
     rw[eR] at hc
     refine .same S (v:= .agg (cs.extract fd.offset (fd.offset+P.cellsOf fd.type))) ?_ (.agg (by simp;omega) fun j u y eM hy=> ?_)
     ·simp[Instr.field,run_underlying hu,hf,part,F6 sO,ha,asAgg,sizeOf,typeInfo,hi,aW]
     ·have hj:j<P.cellsOf fd.type:=by
       have:=(gq.1 eM).1
       simp at this;omega
      rw[ez hj,gp] at hy
      refine U (fd.offset+j) u y ?_ hy
      rw[Array.getElem?_extract] at eM
      split at eM
      ·exact eM
      ·cases eM
    | false=>
     rw[ha] at h
     simp only[cond_false] at h
     obtain ⟨y,hy,h⟩:=km h
     obtain rfl:=aP h
     have aR:fd.offset<cs.size:=by rw[h1];exact (bj.1 hy).1
     refine .same S (v:=cs[fd.offset]) ?_ (U _ _ _ (jJ aR) hy)
     simp[Instr.field,run_underlying hu,hf,part,F6 sO,ha,asAgg,aR]
   | _=>cases h
 ·cases h
theorem Vv (S:aH P w I β hp B M w0) {i:Nat} {v:Value} {xs:List V} {r:R} {rd:List Nat} (hv:ao P w I β hp v (.bh xs))
  (h:(Rd.opt xs[i]? fun v=> .ret ⟨v,[]⟩).run C hp=some (r,rd)):cN P ((Instr.extract v i).run P w) w I β hp B M w0 r:=by
 obtain ⟨cs,rfl,h1,U⟩:=hv.sA
 obtain ⟨y,hy,h⟩:=km h
 obtain rfl:=aP h
 have aR:i<cs.size:=by rw[h1];exact (bj.1 hy).1
 exact .same S (v:=cs[i]) (by simp[Instr.extract,aR]) (U _ _ _ (jJ aR) hy)
theorem Vw (S:aH P w I β hp B M w0) {t:TypeId} {s:ByteArray} {l:List UInt8} {k:IntKind} {i:Int} {r:R} {rd:List Nat} (hu:P.underlying t=some .string) (hs:s.data.toList=l)
  (h:(Rd.opt (bif decide (0≤i) then (l[i.toNat]?).map fun b=>V.int .u8 b.toNat else none) fun v=> .ret ⟨.int .u8 v.toInt,[]⟩).run C hp=some (r,rd)):
  cN P ((Instr.index t (.string s) (.int k i)).run P w) w I β hp B M w0 r:=by
 obtain ⟨v,hv,h⟩:=km h
 obtain rfl:=aP h
 cases hc:decide (0≤i) with
 | false=>rw[hc] at hv;cases hv
 | true=>
  rw[hc] at hv
  simp only[cond_true] at hv
  have h0:0≤i:=by simpa using hc
  cases hb:l[i.toNat]? with
  | none=>rw[hb] at hv;cases hv
  | some b=>
   rw[hb] at hv
   simp only[Option.map_some,dA] at hv
   subst hv
   have Vx:s[i.toNat]? =some b:=by
    subst hs
    obtain ⟨aR,he⟩:=bj.1 hb
    have GD:i.toNat<s.size:=by simpa using aR
    rw[getElem?_pos s i.toNat GD]
    congr 1
   refine .same S (v:= .int .u8 b.toNat) ?_ .int
   simp[Instr.index,asIntOf,run_underlying hu,h0,Vx]
theorem GF (S:aH P w I β hp B M w0) (mx:Bool): ∀{vs:List Value} {xs:List V} {v:Value} {x:V} {r:R} {rd:List Nat},ao P w I β hp v x→vs.length=xs.length→
  (∀(j:Nat) u y,vs[j]? =some u→xs[j]? =some y→ao P w I β hp u y)→(uU mx x xs).run C hp=some (r,rd)→
  cN P ((vs.foldlM (if mx then Builtin.max2 else Builtin.min2) v).run P w) w I β hp B M w0 r
 | [],[],v,x,r,rd,hv,_,_,h=>by
  have:r=⟨x,[]⟩:=by
   cases x<;>(simp only[uU] at h;exact (aP h).symm)
  subst this
  exact .same S (by simp) hv
 | [],_::_,v,x,r,rd,hv,hl,_,h=>by simp at hl
 | _::_,[],v,x,r,rd,hv,hl,_,h=>by simp at hl
 | u::vs,y::xs,v,x,r,rd,hv,hl,hx,h=>by
  cases x<;>cases y<;>simp only[uU] at h<;>first|(cases h;done)|skip
  rename_i k a k' b
  obtain ⟨hc,h4⟩:=aK h
  clear h
  obtain rfl:k=k':=by simpa using hc
  have hu:=hx 0 u _ rfl rfl
  rw[hv.dL,hu.dL]
  have ih:=GF S mx (vs:=vs) (xs:=xs) (v:= .int k (bif mx then (if b>a then b else a) else (if b<a then b else a))) .int (by simpa using hl)
   (fun j u y h1 U=>hx (j+1) u y (by simpa using h1) (by simpa using U)) h4
  cases mx with
  | true=>simpa[List.foldlM_cons,Builtin.max2] using ih
  | false=>simpa[List.foldlM_cons,Builtin.min2] using ih
theorem pO {n cap:Nat} {isS:Bool} {lo hi:Option V} {lov hiv:Option Value} {k:Nat→Nat→Rd R} {r:R} {rd:List Nat} (hn:n≤cap)
  (gV: ∀x,lo=some x→∃v,lov=some v∧ao P w I β hp v x) (gh: ∀x,hi=some x→∃v,hiv=some v∧ao P w I β hp v x) (mf:lo=none→lov=none) (nd:hi=none→hiv=none)
  (h:(qJ n lo hi k).run C hp=some (r,rd)): ∃l u,l≤u∧u≤n∧(Instr.sliceBounds isS n cap lov hiv none).run P w= .ok (l,u,cap) w∧(k l u).run C hp=some (r,rd):=by
 have ok: ∀(kk:IntKind) (i:Int) (y:Nat) (c:BoundsCode),0≤i→i≤y→(Instr.sliceBound (.int kk i) y c).run P w= .ok i.toNat w:=by
  intro kk i y c h1 U
  simp[Instr.sliceBound,asIntOf,h1,U]
 unfold qJ at h
 cases lo with
 | none=>
  rw[mf rfl]
  cases hi with
  | none=>
   rw[nd rfl]
   exact ⟨0,n,jI _,bQ _,by simp[Instr.sliceBounds],h⟩
  | some x=>
   obtain ⟨v,rfl,hv⟩:=gh x rfl
   cases x<;>simp only at h<;>first|(cases h;done)|skip
   rename_i kk u
   obtain ⟨hc,h⟩:=aK h
   simp only[aM,dw] at hc
   rw[hv.dL]
   have:=ok kk u cap (if isS then .sliceAcap else .sliceAlen) hc.1 (by omega)
   exact ⟨0,u.toNat,jI _,by omega,by simp[Instr.sliceBounds,this],h⟩
 | some x=>
  obtain ⟨v,rfl,hv⟩:=gV x rfl
  cases hi with
  | none=>
   rw[nd rfl]
   cases x<;>simp only at h<;>first|(cases h;done)|skip
   rename_i kk l
   obtain ⟨hc,h⟩:=aK h
   simp only[aM,dw] at hc
   rw[hv.dL]
   have:=ok kk l n .sliceB hc.1 (by omega)
   exact ⟨l.toNat,n,by omega,bQ _,by simp[Instr.sliceBounds,this],h⟩
  | some y=>
   obtain ⟨v2,rfl,pz⟩:=gh y rfl
   cases x<;>cases y<;>simp only at h<;>first|(cases h;done)|skip
   rename_i kk l Vy u
   obtain ⟨hc,h⟩:=aK h
   simp only[aM,dw] at hc
   rw[hv.dL,pz.dL]
   have h1:=ok Vy u cap (if isS then .sliceAcap else .sliceAlen) (by omega) (by omega)
   have U:=ok kk l u.toNat .sliceB hc.1 (by omega)
   exact ⟨l.toNat,u.toNat,by omega,by omega,by simp[Instr.sliceBounds,h1,U],h⟩
theorem CR {a:Option Addr} {t e:TypeId} {i:TypeInfo} (hu:P.underlying t=some (.slice e)) (hi:P.info? e=some i) {lov hiv:Option Value}
  (hb:(Instr.sliceBounds true 0 0 lov hiv none).run P w= .ok (0,0,0) w):(Instr.sliceAt t (.slice a 0 0) lov hiv none).run P w= .ok (.slice a 0 0) w:=by
 cases a<;>simp[Instr.sliceAt,Instr.slice,run_underlying hu,hb,sizeOf,typeInfo,hi]
theorem GG {t e:TypeId} {i:TypeInfo} {b o len cap l u:Nat} (hu:P.underlying t=some (.slice e)) (hi:P.info? e=some i) {lov hiv:Option Value} (huc:u≤cap)
  (hb:(Instr.sliceBounds true len cap lov hiv none).run P w= .ok (l,u,cap) w): ∃o',(0<u-l→o'=o+l*i.size)∧(Instr.sliceAt t (.slice (some ⟨b,o,none⟩) len cap) lov hiv none).run P w= .ok (.slice (some ⟨b,o',none⟩) (u-l) (cap-l)) w:=by
 by_cases hc:cap=l
 ·subst hc
  refine ⟨o,fun h=>by omega,?_⟩
  ·simp[Instr.sliceAt,Instr.slice,run_underlying hu,hb,sizeOf,typeInfo,hi]
 ·refine ⟨o+l*i.size,fun _=>rfl,?_⟩
  simp[Instr.sliceAt,Instr.slice,run_underlying hu,hb,sizeOf,typeInfo,hi,hc,l9]
theorem Vz (s:ByteArray) (l:List UInt8) (h:s.data.toList=l) (a b:Nat):(s.extract a b).data.toList=(l.drop a).take (b-a):=by
 subst h
 simp[ByteArray.data_extract]
theorem VA (S:aH P w I β hp B M w0) {t:TypeId} {v:Value} {x:V} {lo hi:Option V} {lov hiv:Option Value} {r:R} {rd:List Nat} (hv:ao P w I β hp v x)
  (gV: ∀x,lo=some x→∃v,lov=some v∧ao P w I β hp v x) (gh: ∀x,hi=some x→∃v,hiv=some v∧ao P w I β hp v x) (mf:lo=none→lov=none) (nd:hi=none→hiv=none)
  (h:(B1 P t x lo hi).run C hp=some (r,rd)):cN P ((Instr.sliceAt t v lov hiv none).run P w) w I β hp B M w0 r:=by
 unfold B1 at h
 cases hu:P.underlying t with
 | none=>rw[hu] at h;cases h
 | some d=>
  rw[hu] at h
  cases d<;>simp only at h<;>first|(cases h;done)|skip
  case string=>
   cases x<;>simp only at h<;>first|(cases h;done)|skip
   rename_i l
   obtain ⟨s,rfl,hs⟩:=hv.kZ
   have aW:l.length=s.size:=by rw[←hs];simp
   obtain ⟨a,u,h1,U,h3,h4⟩:=pO (isS:=false) (cap:=s.size) (by omega) gV gh mf nd h
   obtain rfl:=aP h4
   rw[aW] at h3
   refine .same S (v:= .string (s.extract a u)) ?_ (.str (Vz s l hs a u))
   simp[Instr.sliceAt,Instr.slice,run_underlying hu,h3]
  case slice e=>
   cases x<;>simp only at h<;>first|(cases h;done)|skip
   case list e' es=>
    obtain ⟨hc,h⟩:=aK h
    simp only[aM,aT] at hc
    obtain ⟨dp,ar⟩:=hc
    obtain ⟨i,z,dD,_,aW,_⟩:=js ar
    cases hv with
    | list hp'=>
     cases hp' with
     | nil=>
      obtain ⟨a,u,h1,U,h3,h4⟩:=pO (n:=0) (isS:=true) (cap:=0) (bQ _) gV gh mf nd h
      obtain rfl:=aP h4
      obtain rfl:u=0:=by omega
      obtain rfl:a=0:=by omega
      exact .same S (CR hu dD h3) (by simpa using ao.list gN.nil)
     | @emp ad cap=>
      obtain ⟨a,u,h1,U,h3,h4⟩:=pO (n:=0) (isS:=true) (cap:=cap) (jI _) gV gh mf nd h
      obtain rfl:=aP h4
      obtain rfl:u=0:=by omega
      obtain rfl:a=0:=by omega
      refine .same S (v:= .slice (some ad) 0 cap) ?_ (by simpa using ao.list gN.emp)
      by_cases hc:cap=0
      ·subst hc
       simp[Instr.sliceAt,Instr.slice,run_underlying hu,h3,sizeOf,typeInfo,dD]
      ·simp[Instr.sliceAt,Instr.slice,run_underlying hu,h3,sizeOf,typeInfo,dD,hc,Addr.add]
     | @list b o len cap _ g hl b6 hI fC hx=>
      obtain ⟨a,u,h1,U,h3,h4⟩:=pO (isS:=true) (cap:=cap) (by omega) gV gh mf nd h
      obtain rfl:=aP h4
      rw[hl] at U h3
      obtain ⟨o',kY,cJ⟩:=GG (b:=b) (o:=o) hu dD (by omega) h3
      have fS:e=e':=dp
      refine .same S cJ (.list ?_)
      rw[←fS]
      rw[←fS] at fC hx hI
      have hlen:((es.drop a).take (u-a)).length=u-a:=by simp;omega
      refine .list (fun i j=>g (a+i) j) hlen (by omega) (fun h=>hI (mO h (dx _ (by omega)))) (fun i j hi hj=> ?_) (fun i j y t' hy ht=> ?_)
      ·have:=fC (a+i) j (by omega) hj
       rw[dz,mQ,←mQ o] at this
       rw[kY (by omega),aW]
       exact this
      ·have hi:i<u-a:=by rw[←hlen];exact (bj.1 hy).1
       rw[ez hi,gp] at hy
       exact hx (a+i) j y t' hy ht
   case whole e' id=>
    obtain ⟨l,h⟩:=run_get h
    cases ab:hp id with
    | none=>rw[ab] at h;cases h
    | some blk=>
     rw[ab] at h
     cases blk<;>simp only at h<;>first|(cases h;done)|skip
     rename_i di es fz
     obtain ⟨hc,h9⟩:=aK h
     clear h
     simp only[aM,aT] at hc
     obtain ⟨dp,gO,ar⟩:=hc
     obtain ⟨i,z,dD,_,aW,_⟩:=js ar
     cases hv with
     | dI hd=>rw[ab] at hd;cases hd
     | dQ hd=>rw[ab] at hd;cases hd
     | dk hd hb=>
      rw[ab] at hd
      cases hd
      obtain ⟨a,u,h1,U,h3,h4⟩:=pO (n:=0) (isS:=true) (cap:=0) (bQ _) gV gh mf nd h9
      obtain rfl:=aP h4
      obtain rfl:u=0:=by omega
      obtain rfl:a=0:=by omega
      exact .same S (CR hu dD h3) (.fk ab hb)
     | @whole _ _ aO lU b cap hd hb yI b6 hm=>
      have dZ:=hd
      rw[ab] at hd
      cases hd
      obtain ⟨a,u,h1,U,h3,h4⟩:=pO (isS:=true) (cap:=cap) b6 gV gh mf nd h9
      obtain rfl:=aP h4
      obtain ⟨o',kY,cJ⟩:=GG (b:=b) (o:=0) hu dD (by omega) h3
      have fS:e=e':=dp
      exact .same S cJ (.sub dZ hb (by omega) (by omega) (fun h=>by rw[kY h,aW,fS,ia]))
   case sub e' id off len=>
    obtain ⟨l,h⟩:=run_get h
    cases ab:hp id with
    | none=>rw[ab] at h;cases h
    | some blk=>
     rw[ab] at h
     cases blk<;>simp only at h<;>first|(cases h;done)|skip
     rename_i di es fz
     obtain ⟨hc,h⟩:=aK h
     simp only[aM,aT] at hc
     obtain ⟨dp,gO,ar⟩:=hc
     obtain ⟨i,z,dD,_,aW,_⟩:=js ar
     cases hv with
     | fB hd=>rw[ab] at hd;cases hd
     | fk hd hb=>
      have dZ:=hd
      obtain ⟨a,u,h1,U,h3,h4⟩:=pO (isS:=true) (cap:=0) (bQ _) gV gh mf nd h
      obtain rfl:=aP h4
      obtain rfl:u=0:=by omega
      obtain rfl:a=0:=by omega
      exact .same S (CR hu dD h3) (.fk dZ hb)
     | @sub _ _ _ _ aO lU b o cap hd hb jO b6 ho=>
      have dZ:=hd
      obtain ⟨a,u,h1,U,h3,h4⟩:=pO (isS:=true) (cap:=cap) b6 gV gh mf nd h
      obtain rfl:=aP h4
      obtain ⟨o',kY,cJ⟩:=GG (b:=b) (o:=o) hu dD (by omega) h3
      have fS:e=e':=dp
      exact .same S cJ (.sub dZ hb (by omega) (by omega) (fun h=>by rw[kY h,aW,ho (by omega),fS,dz]))
theorem VB (S:aH P w I β hp B M w0) {t:TypeId} {v:Value} {x:V} {lo hi mx:Option V} {lov hiv L5:Option Value} {r:R} {rd:List Nat} (hv:ao P w I β hp v x)
  (gV:lo=none→lov=none) (gh: ∀y,hi=some y→∃u,hiv=some u∧ao P w I β hp u y) (l7: ∀y,mx=some y→∃u,L5=some u∧ao P w I β hp u y)
  (h:(FE P t x lo hi mx).run C hp=some (r,rd)):cN P ((Instr.sliceAt t v lov hiv L5).run P w) w I β hp B M w0 r:=by
 unfold FE at h
 cases hu:P.underlying t with
 | none=>rw[hu] at h;cases h
 | some d=>
  rw[hu] at h
  cases d<;>(try (cases h;done))
  rename_i e
  cases lo<;>(try (cases h;done))
  cases hi<;>(try (cases h;done))
  rename_i vp
  cases vp<;>(try (cases h;done))
  cases mx<;>(try (cases h;done))
  rename_i VC
  cases VC<;>(try (cases h;done))
  obtain ⟨hc,h9⟩:=aK h
  clear h
  have h:=h9
  clear h9
  simp only[aM,dw] at hc
  obtain ⟨rfl,rfl,ar⟩:=hc
  obtain ⟨i,z,dD,_,_,_⟩:=js ar
  obtain ⟨u1,rfl,k1⟩:=gh _ rfl
  obtain ⟨u2,rfl,k2⟩:=l7 _ rfl
  rw[k1.dL,k2.dL,gV rfl]
  have run: ∀{k k2:IntKind} (a:Option Addr) (len cap:Nat),(Instr.sliceAt t (.slice a len cap) none (some (.int k 0)) (some (.int k2 0))).run P w= .ok (.slice a 0 0) w:=by
   intro k k2 a len cap
   cases a<;>simp[Instr.sliceAt,Instr.slice,Instr.sliceBounds,Instr.sliceBound,asIntOf,run_underlying hu,sizeOf,typeInfo,dD]
  cases x<;>(try (cases h;done))
  ·simp only at h
   obtain rfl:=aP h
   cases hv with
   | list hp'=>cases hp'<;>exact .same S (run _ _ _) .nilS
  ·simp only at h
   obtain rfl:=aP h
   cases hv
   exact .same S (run _ _ _) .nilS
  ·rename_i e' id
   simp only at h
   obtain ⟨l,h⟩:=run_get h
   cases ab:hp id with
   | none=>rw[ab] at h;cases h
   | some blk=>
    rw[ab] at h
    cases blk<;>simp only at h<;>first|(cases h;done)|skip
    all_goals
     obtain rfl:=aP h
     cases hv with
     | dI hd=>rw[ab] at hd;cases hd
     | dQ hd=>exact .same S (run _ _ _) .nilS
     | dk hd hb=>exact .same S (run _ _ _) .nilS
     | whole hd=>exact .same S (run _ _ _) .nilS
theorem VD (S:aH P w I β hp B M w0) {t:TypeId} {v ix:Value} {x y:V} {r:R} {rd:List Nat} (hv:ao P w I β hp v x) (hy:ao P w I β hp ix y)
  (h:(FH P t x y).run C hp=some (r,rd)):cN P ((Instr.indexAt t v ix).run P w) w I β hp B M w0 r:=by
 unfold FH at h
 cases hu:P.underlying t with
 | none=>rw[hu] at h;cases h
 | some d=>
  rw[hu] at h
  cases y<;>(try (cases d<;>cases h;done))
  rename_i k i
  rw[hy.dL]
  cases d<;>simp only at h<;>first|(cases h;done)|skip
  case slice e=>
   have run: ∀(b o len cap:Nat) (ie:TypeInfo),P.info? e=some ie→0≤i→i<(len:Int)→(Instr.indexAt t (.slice (some ⟨b,o,none⟩) len cap) (.int k i)).run P w= .ok (.pointer (some ⟨b,o+i.toNat*ie.size,none⟩)) w:=by
    intro b o len cap ie iL h0 h1
    simp[Instr.indexAt,asIntOf,run_underlying hu,h0,h1,sizeOf,typeInfo,iL,l9]
   cases x<;>simp only at h<;>first|(cases h;done)|skip
   case list e' es=>
    obtain ⟨hc,h⟩:=aK h
    simp only[aM,aT] at hc
    obtain ⟨dp,ar⟩:=hc
    have fS:e=e':=dp
    obtain ⟨ie,z,dD,_,aW,_⟩:=js ar
    obtain ⟨el,cF,h⟩:=km h
    obtain rfl:=aP h
    unfold idx at cF
    cases h0:decide (0≤i) with
    | false=>rw[h0] at cF;cases cF
    | true=>
     rw[h0] at cF
     simp only[cond_true] at cF
     have VE:0≤i:=by simpa using h0
     have aR:i.toNat<es.length:=(bj.1 cF).1
     cases hv with
     | list hp'=>
      cases hp' with
      | nil=>simp at aR
      | emp=>simp at aR
      | @list b o len cap _ g hl b6 hI fC hx=>
       rw[←fS] at fC hx hI
       refine .same S (run b o len cap ie dD VE (by omega)) ?_
       have cU:=vb (P:=P) e el
       have GH:=eW ar
       have L6:(bif bC P e then flat P e else [e])=aV P e:=rfl
       rw[L6]
       refine .pref (by rw[cU]) (fun _=>hI ?_) (fun j t' y' ht yq=> ?_)
       ·have:=uD (show 0<len by omega) (jo ar).2
        exact this
       ·obtain ⟨t2,a1,a2⟩:=F7 yq
        rw[ht] at a1;cases a1
        have hj:j<P.cellsOf e:=by rw[←GH];exact (bj.1 ht).1
        have gb:=hx i.toNat j el t' cF ht
        refine ⟨g i.toNat j,?_,?_⟩
        ·rw[aW,mQ];exact fC i.toNat j (by omega) hj
        ·rw[a2,gb.qU];exact gb
   case whole e' id=>
    obtain ⟨l,h⟩:=run_get h
    cases ab:hp id with
    | none=>rw[ab] at h;cases h
    | some blk=>
     rw[ab] at h
     cases blk<;>simp only at h<;>first|(cases h;done)|skip
     rename_i di es fz
     obtain ⟨hc,h⟩:=aK h
     simp only[aM,aT] at hc
     obtain ⟨dp,gO⟩:=hc
     obtain ⟨eb,h⟩:=aK h
     simp only[aM,dw] at eb
     obtain rfl:=aP h
     cases hv with
     | dI hd=>rw[ab] at hd;cases hd
     | dQ hd=>rw[ab] at hd;cases hd
     | dk hd hb=>rw[ab] at hd;cases hd;simp at eb;omega
     | @whole _ _ aO lU b cap hd hb yI b6 hm=>
      have dZ:=hd
      rw[ab] at hd
      cases hd
      have hr:=S.h.rel id _ ab
      cases hr with
      | dm aC=>rw[aC] at hb;cases hb
      | arr ar aC hh hs hf dJ hx=>
       have fS:e=e':=dp
       obtain ⟨ie,z,dD,_,aW,_⟩:=js ar
       rw[←fS] at dD aW
       refine .same S (run b 0 _ cap ie dD eb.1 eb.2) ?_
       have:=ao.ptr (P:=P) (w:=w) (I:=I) (i:=i.toNat) (c:=0) dZ (by simp) hb
       simp only[ak.sz] at this
       rw[ia,aW,fS]
       simpa using this
     rename_i di es aq
     obtain ⟨hc,h⟩:=aK h
     simp only[aM,aT] at hc
     obtain ⟨dp,gO⟩:=hc
     obtain ⟨eb,h⟩:=aK h
     simp only[aM,dw] at eb
     obtain rfl:=aP h
     cases hv with
     | dI hd=>rw[ab] at hd;cases hd
     | dk hd hb=>rw[ab] at hd;cases hd
     | whole hd=>rw[ab] at hd;cases hd
     | @dQ _ _ aO vers' b cap hd hb yI b6 hm=>
      have dZ:=hd
      rw[ab] at hd
      cases hd
      have ar:=(S.rows dZ hb .here).ok
      have fS:e=e':=dp
      obtain ⟨ie,z,dD,_,aW,_⟩:=js ar
      rw[←fS] at dD aW
      refine .same S (run b 0 _ cap ie dD eb.1 eb.2) ?_
      have:=ao.ptr (P:=P) (w:=w) (I:=I) (i:=i.toNat) (c:=0) dZ (by simp) hb
      simp only[ak.sz] at this
      rw[ia,aW,fS]
      simpa using this
   case row e' id ver path=>
    obtain ⟨e0,es,aq,l,ab,h1,U,h3,h⟩:=m7 h
    obtain ⟨e2,v',k1,k2,h⟩:=u6 h
    obtain ⟨hc,h⟩:=aK h
    simp only[aM,aT] at hc
    obtain ⟨dp,gO⟩:=hc
    obtain ⟨eb,h⟩:=aK h
    simp only[aM,dw] at eb
    obtain rfl:=aP h
    cases hv with
    | iF hd hp'=>rw[ab] at hd;cases hd;exact absurd hp' (u7 h1 U h3)
    | @row v _ e0 t1 _ ver b i1 c1 q es l1 aq hd hb hq Gm ht fC=>
     have VF:=fC
     obtain ⟨b',e3,aO,Ca,T,f,x,m1,m2,m3,m4,m5,m6⟩:=fC
     have gR:=hd
     rw[ab] at gR
     cases gR
     obtain ⟨n1,n2⟩:=Cl m1 m3 m4 ht m5
     rw[n2] at k2
     cases k2
     simp only[V.toList] at eb
     have hR:=S.rows hd hb m1
     obtain ⟨C1,c2,c3,c4⟩:=hR.cells
     rw[m2] at c2
     cases c2
     have hj:c1<P.cellsOf e3:=by
      rw[←eW hR.ok];exact (bj.1 m4).1
     obtain ⟨v2,d1,d2⟩:=c4 _ _ _ _ m3 m4 hj
     rw[m6] at d1
     cases d1
     rw[m5] at d2
     cases d2 with
     | fj a _=>unfold fe at a;rw[ht] at a;cases a
     | emp _ _=>simp at eb;omega
     | @row _ _ b1 cap _ hl _ _ _=>
      have ar:=(S.rows hd hb (m1.snoc m2 m3 m4 ht m5 hl m6)).ok
      have fS:e=e':=dp
      obtain ⟨ie,z,dD,_,aW,_⟩:=js ar
      rw[←fS] at dD aW
      refine .same S (run b1 0 _ cap ie dD eb.1 eb.2) ?_
      have:=ao.cu (P:=P) (I:=I) (i:=i.toNat) (c:=0) hd hb hq Gm ht hl VF
      rw[ia,aW,fS]
      simpa using this
   case sub e' id off len=>
    obtain ⟨l,h⟩:=run_get h
    cases ab:hp id with
    | none=>rw[ab] at h;cases h
    | some blk=>
     rw[ab] at h
     cases blk<;>simp only at h<;>first|(cases h;done)|skip
     rename_i di es fz
     obtain ⟨hc,h⟩:=aK h
     simp only[aM,aT] at hc
     obtain ⟨dp,gO⟩:=hc
     obtain ⟨eb,h⟩:=aK h
     simp only[aM,dw] at eb
     obtain rfl:=aP h
     cases hv with
     | fB hd=>rw[ab] at hd;cases hd
     | fk hd hb=>simp at eb;omega
     | @sub _ _ _ _ aO lU b o cap hd hb jO b6 ho=>
      have dZ:=hd
      rw[ab] at hd
      cases hd
      have hr:=S.h.rel id _ ab
      cases hr with
      | dm aC=>rw[aC] at hb;cases hb
      | arr ar aC hh hs hf dJ hx=>
       have fS:e=e':=dp
       obtain ⟨ie,z,dD,_,aW,_⟩:=js ar
       rw[←fS] at dD aW
       refine .same S (run b o _ cap ie dD eb.1 eb.2) ?_
       have:=ao.ptr (P:=P) (w:=w) (I:=I) (i:=off+i.toNat) (c:=0) dZ (by simp) hb
       simp only[ak.sz] at this
       rw[ho (by omega),aW,fS,←dz]
       simpa using this
  case array n e=>
   have run: ∀(b o:Nat) (ie:TypeInfo),P.info? e=some ie→0≤i→i<(n:Int)→(Instr.indexAt t (.pointer (some ⟨b,o,none⟩)) (.int k i)).run P w= .ok (.pointer (some ⟨b,o+i.toNat*ie.size,none⟩)) w:=by
    intro b o ie iL h0 h1
    simp[Instr.indexAt,asIntOf,run_underlying hu,h0,h1,sizeOf,typeInfo,iL,l9,Instr.sureAddr]
   cases x<;>simp only at h<;>first|(cases h;done)|skip
   case ptr id j c=>
    obtain ⟨⟨blk,ab,hd⟩,l,h⟩:=u9 h
    obtain ⟨eb,h⟩:=aK h
    simp only[aM,dw] at eb
    obtain rfl:=aP h
    obtain ⟨b,hb,rfl⟩:=hv.gf ab hd
    obtain ⟨d,sO⟩:=yv eb.1
    obtain ⟨ie,iL⟩:=va sO
    have aW:ie.size=P.cellsOf e:=by simp[Program.cellsOf,iL]
    refine .same S (run b _ ie iL eb.2.1 eb.2.2) ?_
    rw[aW,mQ]
    exact .ptr ab hd hb
   case pref ts cs=>
    obtain ⟨eb,h⟩:=aK h
    simp only[aM,dw] at eb
    obtain rfl:=aP h
    obtain ⟨b,o,rfl,h1,U,h3⟩:=hv.Ct
    obtain ⟨d,sO⟩:=yv eb.1
    obtain ⟨ie,iL⟩:=va sO
    have aW:ie.size=P.cellsOf e:=by simp[Program.cellsOf,iL]
    refine .same S (run b _ ie iL eb.2.1 eb.2.2) ?_
    rw[aW]
    exact ao.Ll h1 U h3
end
end Go.AM
namespace Go.AM
open Go.Maps
section
variable {P:Program} {w w':World} {I I':Nat→Prop} {β β':Nat→Option Nat} {hp hp':Nat→Option ak} {C:af} {B:Nat} {M:Nat→Prop} {w0:Start}
theorem VG (S:aH P w I β hp B M w0) {nb:Nat} {t:TypeId} {v:Value} {x:V} {lo hi:Option V} {lov hiv:Option Value} {r:R} {rd:List Nat} (hv:ao P w I β hp v x)
  (gh: ∀x,hi=some x→∃v,hiv=some v∧ao P w I β hp v x) (mf:lo=none→lov=none)
  (h:(B4 P nb t x lo hi).run C hp=some (r,rd)):cN P ((Instr.sliceAt t v lov hiv none).run P w) w I β hp B M w0 r:=by
 unfold B4 at h
 split at h
 case h_2=>cases h
 rename_i e e' id k hh hu
 obtain ⟨l,h1⟩:=run_get h
 cases ab:hp id with
 | none=>rw[ab] at h1;cases h1
 | some blk=>
  rw[ab] at h1
  cases blk<;>simp only at h1<;>first|(cases h1;done)|skip
  rename_i e2 es fz
  cases fz with
  | true=>cases h1
  | false=>
  obtain ⟨hc,U⟩:=aK h1
  simp only[aM,aT,dw] at hc
  obtain ⟨rfl,rfl,ar,L7,L8⟩:=hc
  obtain ⟨hn,rfl⟩:=mc U
  have gV:=mf rfl
  subst gV
  obtain ⟨GI,rfl,VH⟩:=gh _ rfl
  obtain rfl:=VH.dL
  obtain ⟨i,z,dD,_,aW,_⟩:=js ar
  have bA:nb≠id:=fun e=>by rw[e,ab] at hn;cases hn
  obtain ⟨k1,k2⟩:=Cp S ab
  have jt:aL hp id (some ak.dead) nb=none:=by rw[dK _ _ bA];exact hn
  have L9: ∀cap,es.length≤cap→(Instr.sliceBounds true es.length cap none (some (.int k hh)) none).run P w= .ok (0,hh.toNat,cap) w:=by
   intro cap b6
   have hb:(qJ es.length none (some (.int k hh)) fun l u=> .aE (decide (l=0∧u=hh.toNat)) (.ret (⟨.undef,[]⟩:R))).run C hp=some (⟨.undef,[]⟩,[]):=by
    simp[qJ,Rd.run,L7,L8]
   obtain ⟨l,u,b1,b2,b3,b4⟩:=pO (P:=P) (w:=w) (I:=I) (β:=β) (hp:=hp) (n:=es.length) (isS:=true) (cap:=cap) (lov:=none) (hiv:=some (.int k hh)) b6 (by simp) (fun x hx=>by cases hx;exact ⟨_,rfl,.int⟩) (fun _=>rfl) (by simp) hb
   obtain ⟨b5,_⟩:=aK b4
   simp only[dw] at b5
   obtain ⟨rfl,rfl⟩:=b5
   exact b3
  cases hv with
  | dI hd=>rw[ab] at hd;cases hd
  | dQ hd=>rw[ab] at hd;cases hd
  | @dk _ _ _ a0 hd hb=>
   rw[ab] at hd
   cases hd
   have Ge:hh=0:=by simpa using Int.le_antisymm L8 L7
   subst Ge
   have aC:=L9 0 (bQ _)
   obtain ⟨a1,a2⟩:=Co k2 e jt
   refine ⟨_,w,I,_,CR hu dD aC,k1.trans a1,a2,.dk (cI _ _ _) (cI _ _ _)⟩
  | @whole _ _ aO lU b cap hd hb yI b6 hm=>
   have dZ:=hd
   rw[ab] at hd
   cases hd
   have hr:=S.h.rel id _ ab
   cases hr with
   | dm aC=>rw[aC] at hb;cases hb
   | @arr _ _ _ b' Ca _ aC CS oe hf dJ lf=>
    rw[hb] at aC
    cases aC
    have im:(es.take hh.toNat).length=hh.toNat:=by rw[fb];omega
    have cJ:(Instr.sliceAt t (.slice (some ⟨b,0,none⟩) es.length cap) none (some (.int k hh)) none).run P w= .ok (.slice (some ⟨b,0,none⟩) hh.toNat cap) w:=by
     have aC:=L9 cap b6
     by_cases CT:cap=0
     ·subst CT
      simp[Instr.sliceAt,Instr.slice,run_underlying hu,aC,sizeOf,typeInfo,dD]
     ·simp[Instr.sliceAt,Instr.slice,run_underlying hu,aC,sizeOf,typeInfo,dD,CT,l9]
    have pC: ∀aF blk',aL hp id (some ak.dead) aF=some blk'→¬br P w (β aF) blk' b:=by
     intro aF blk' h1 U
     by_cases gU:aF=id
     ·subst gU;rw[cI] at h1;cases h1;exact U.alive rfl
     ·rw[dK _ _ gU] at h1
      exact gU (S.h.inj aF id blk' _ b h1 ab U (.root (by simp) hb))
    obtain ⟨a1,a2⟩:=yp k2 (blk:= .arr e (es.take hh.toNat) false) (w':=w) jt pC (dJ rfl) (fun _ _ _=>rfl) (bQ _) ⟨rfl,rfl⟩ (S.h.qP id _ b ab (by simp) hb)
     (fun b' h=>(cC (h.flat (by simp))).symm) (fun hle=> .arr ar rfl CS (by rw[im];exact kR (dx _ (by omega)) oe) (fun h=>by cases h) (fun _=>dJ rfl) fun i j y t' hy ht hj=>by
      have pN:=(bj.1 hy).1
      rw[im] at pN
      rw[ez pN] at hy
      obtain ⟨v,hv,hp⟩:=lf i j y t' hy ht hj
      exact ⟨v,hv,hp.mono hle.cW hle.b7⟩)
    refine ⟨_,w,I,_,cJ,k1.trans a1,a2,?_⟩
    have:=ao.whole (P:=P) (w:=w) (I:=I) (β:=aL β nb (some b)) (hp:=aL (aL hp id (some .dead)) nb (some (.arr e (es.take hh.toNat) false))) (cap:=cap) (cI _ _ _) (cI _ _ _) yI (by rw[im];omega) hm
    rw[im] at this
    exact this
theorem pP {t:TypeId} {x:V} (h:nR P t x=true):
  (∃q n,P.underlying t=some (.int q)∧x= .int q n∧Fz q n=true)∨(∃b,P.underlying t=some .bool∧x= .bool b)∨(∃s,P.underlying t=some .string∧x= .str s∧s.length≤maxLen):=by
 unfold nR at h
 split at h
 ·rename_i q q' n hu
  simp only[aM,dw] at h
  obtain ⟨rfl,h⟩:=h
  exact .inl ⟨_,_,hu,rfl,h⟩
 ·rename_i b hu
  exact .inr (.inl ⟨_,hu,rfl⟩)
 ·rename_i s hu
  exact .inr (.inr ⟨_,hu,rfl,by simpa using h⟩)
 ·cases h
theorem size_data (s:ByteArray):s.data.toList.length=s.size:=by simp
theorem VI {q:IntKind} {n:Int} (h:Fz q n=true):(Lit.int q n).wf=true:=h
theorem Ma {t:TypeId} {x:V} {v:Value} (h:nR P t x=true) (hv:il v x): ∃l,mapKey P t v=some l∧∀d,P.keyLits (d+1) t [v]=some [l]:=by
 rcases pP h with ⟨q,n,hu,rfl,hn⟩|⟨b,hu,rfl⟩|⟨s,hu,rfl,hs⟩
 ·obtain rfl:v= .int q n:=hv
  have hw:=VI hn
  exact ⟨.int q n,by simp[mapKey,hu,hw],fun d=>by simp[Program.keyLits,hu,hw]⟩
 ·obtain rfl:v= .bool b:=hv
  exact ⟨.bool b,by simp[mapKey,hu],fun d=>by simp[Program.keyLits,hu]⟩
 ·obtain ⟨s',rfl,GJ⟩:=hv
  have:s'.size≤maxLen:=by rw[←size_data,GJ];exact hs
  exact ⟨.string s'.data.toList,by simp[mapKey,hu,this],fun d=>by simp[Program.keyLits,hu,this]⟩
theorem GK {t:TypeId}: ∀{xs:List V} {j:Nat} {x:V},ph P t xs=true→xs[j]? =some x→nR P t x=true
 | [],j,x,_,h=>by simp at h
 | y::ys,0,x,h,hx=>by
  simp only[ph,aM] at h
  simp at hx;subst hx;exact h.1
 | y::ys,j+1,x,h,hx=>by
  simp only[ph,aM] at h
  exact GK (j:=j) h.2 (by simpa using hx)
theorem mapM_some {α β:Type} {f:α→Option β}: ∀{l:List α},(∀a∈l,∃b,f a=some b)→∃bs,l.mapM f=some bs
 | [],_=>⟨[],rfl⟩
 | a::l,h=>by
  obtain ⟨b,hb⟩:=h a (qA ..)
  obtain ⟨bs,gd⟩:=mapM_some (l:=l) fun x hx=>h x (j9 _ hx)
  exact ⟨b::bs,by simp[List.mapM_cons,hb,gd]⟩
inductive GL (P:Program) (t:TypeId) (x:V):Prop
 | one:nR P t x=true→x.cells=[x]→GL P t x
 | arr {n:Nat} {e:TypeId} {xs:List V}:x= .agg xs→WideMaps.ArrKey P t e n→xs.length=n→0<P.types.size→ph P e xs=true→GL P t x
theorem vq {t:TypeId} {x:V} (h:lS P t x=true):GL P t x:=by
 unfold lS at h
 split at h
 ·rename_i n e xs hu
  simp only[aM,aT] at h
  rw[iY] at h
  exact .arr rfl ⟨hu,h.2.2.2.1,h.2.1,h.2.2.1⟩ h.1 h.2.2.2.2.1 h.2.2.2.2.2
 ·refine .one h ?_
  rcases pP h with ⟨q,n,hu,rfl,hn⟩|⟨b,hu,rfl⟩|⟨s,hu,rfl,hs⟩<;>rfl
theorem pr.one {x:V} {v:Value} (h:pr v x) (hx:x.cells=[x]):il v x:=by
 cases x<;>first|exact h|skip
 simp only[V.cells] at hx
 rename_i cs
 have:=congrArg List.length hx
 cases cs with
 | nil=>simp at hx
 | cons c cs=>
  simp only[List.cons.injEq] at hx
  have:=congrArg SizeOf.sizeOf hx.1
  simp at this
  omega
theorem CU {t:TypeId} {x:V} {v:Value} (h:lS P t x=true) (hv:pr v x): ∃l,Go.keyOf P t v=some l:=by
 cases vq h with
 | one h1 hx=>
  obtain ⟨l,hl,_⟩:=Ma h1 (hv.one hx)
  refine ⟨l,?_⟩
  rcases pP h1 with ⟨q,n,hu,_⟩|⟨b,hu,_⟩|⟨s,hu,_⟩<;>simp only[Go.keyOf,hu,hl]
 | @arr n e xs hx A hl hp0 hf=>
  subst hx
  obtain ⟨cs,rfl,hs,hc⟩:=hv
  obtain ⟨m,hm⟩: ∃m,P.types.size=m+1:=⟨P.types.size-1,by omega⟩
  have VJ:=A.keyType ⟨m,hm⟩
  have hlen:cs.toList.length=P.cellsOf t:=by rw[A.size];simp[hs,hl]
  have VK:(Value.agg cs).formed P t=true:=by simp[Value.formed,A.hu,A.size,hs,hl]
  have hex: ∀i∈List.range n,∃y,P.keyLits (m+1) e (((Value.agg cs).cells.toList.drop (i*P.cellsOf e)).take (P.cellsOf e))=some y:=by
   intro i hi
   have hi:=xz.1 hi
   rw[A.one]
   have fE:i<cs.size:=by omega
   have dg:i<xs.length:=by omega
   obtain ⟨l,_,U⟩:=Ma (GK hf (bO dg)) (hc i cs[i] xs[i] (jJ fE) (bO dg))
   have e1:((Value.agg cs).cells.toList.drop (i*1)).take 1=[cs[i]]:=by
    show (cs.toList.drop (i*1)).take 1=_
    rw[lQ,List.drop_eq_getElem_cons (by simpa using fE)]
    simp
   rw[e1]
   exact ⟨_,U m⟩
  obtain ⟨bs,gd⟩:=mapM_some hex
  refine ⟨.string (keyBytes bs.flatten),?_⟩
  have VL:(Value.agg cs).cells.toList.length=P.cellsOf t:=hlen
  unfold Go.keyOf
  rw[A.hu]
  simp only[VJ,VK,Bool.and_self,cP]
  unfold Program.keyLits
  rw[A.hu,hm]
  simp only[VL,cP,gd,Option.map_some]
theorem GM {t:TypeId} {x:V} (h:lS P t x=true):Keyed P t:=by
 cases vq h with
 | one h1 hx=>
  rcases pP h1 with ⟨q,n,hu,_⟩|⟨b,hu,_⟩|⟨s,hu,_⟩
  ·exact int_keyed hu
  ·exact bool_keyed hu
  ·exact string_keyed hu
 | arr hx A hl _ hf=>exact Keyed.of_law A.law
theorem Mb {t:TypeId} {x y:V} {v u:Value} (h1:nR P t x=true) (U:nR P t y=true) (hv:il v x) (hu:il u y):xO x y=true↔v=u:=by
 rcases pP h1 with ⟨q,n,lg,rfl,_⟩|⟨b,lg,rfl⟩|⟨s,lg,rfl,_⟩<;>
 rcases pP U with ⟨q',n',lh,rfl,_⟩|⟨b',lh,rfl⟩|⟨s',lh,rfl,_⟩<;>
  (rw[lg] at lh;cases lh)
 ·obtain rfl:v= .int q n:=hv
  obtain rfl:u= .int q n':=hu
  simp[xO]
 ·obtain rfl:v= .bool b:=hv
  obtain rfl:u= .bool b':=hu
  simp[xO]
 ·obtain ⟨s1,rfl,e1⟩:=hv
  obtain ⟨s2,rfl,e2⟩:=hu
  simp only[xO,beq_iff_eq,Value.string.injEq,←e1,←e2]
  constructor
  ·intro h
   have:=Array.toList_inj.1 h
   cases s1;cases s2;simp_all
  ·rintro rfl;rfl
theorem Mc {t:TypeId}: ∀{xs ys:List V} {vs us:List Value},ph P t xs=true→ph P t ys=true→xs.length=ys.length→vs.length=xs.length→us.length=ys.length→
  (∀(j:Nat) v x,vs[j]? =some v→xs[j]? =some x→il v x)→(∀(j:Nat) v x,us[j]? =some v→ys[j]? =some x→il v x)→(uR xs ys=true↔vs=us)
 | [],[],vs,us,_,_,_,h1,U,_,_=>by
  have e1:=j8 (l:=vs) (by simpa using h1)
  have e2:=j8 (l:=us) (by simpa using U)
  simp[uR,e1,e2]
 | [],_::_,_,_,_,_,h,_,_,_,_=>by simp at h
 | _::_,[],_,_,_,_,h,_,_,_,_=>by simp at h
 | x::xs,y::ys,[],us,_,_,_,h,_,_,_=>by simp at h
 | x::xs,y::ys,v::vs,[],_,_,_,_,h,_,_=>by simp at h
 | x::xs,y::ys,v::vs,u::us,f1,f2,h,h1,U,r1,r2=>by
  simp only[ph,aM] at f1 f2
  have a:=Mb f1.1 f2.1 (r1 0 v x rfl rfl) (r2 0 u y rfl rfl)
  have b:=Mc (vs:=vs) (us:=us) f1.2 f2.2 (by simpa using h) (by simpa using h1) (by simpa using U) (fun j v x hj hx=>r1 (j+1) v x (by simpa using hj) (by simpa using hx)) (fun j v x hj hx=>r2 (j+1) v x (by simpa using hj) (by simpa using hx))
  simp only[uR,aM,a,b,List.cons.injEq]
theorem GN {t:TypeId} {x y:V} {v u:Value} (h1:lS P t x=true) (U:lS P t y=true) (hv:pr v x) (hu:pr u y):nQ x y=true↔v=u:=by
 unfold nQ
 cases vq h1 with
 | one f1 c1=>
  cases vq U with
  | one f2 c2=>
   rw[c1,c2]
   simp only[uR,Bool.and_true]
   exact Mb f1 f2 (hv.one c1) (hu.one c2)
  | arr hy A hl _ hf=>
   rcases pP f1 with ⟨q,n,lg,_⟩|⟨b,lg,_⟩|⟨s,lg,_⟩<;>(rw[A.hu] at lg;cases lg)
 | arr hx A hl _ hf=>
  cases vq U with
  | one f2 c2=>
   rcases pP f2 with ⟨q,n,lg,_⟩|⟨b,lg,_⟩|⟨s,lg,_⟩<;>(rw[A.hu] at lg;cases lg)
  | arr hy A2 uM _ GO=>
   have fS:=A.hu.symm.trans A2.hu
   cases fS
   subst hx
   subst hy
   obtain ⟨cs,rfl,s1,r1⟩:=hv
   obtain ⟨ds,rfl,s2,r2⟩:=hu
   have:=Mc (vs:=cs.toList) (us:=ds.toList) hf GO (by omega) (by simpa using s1) (by simpa using s2) (fun j v x hj hx=>r1 j v x (by simpa using hj) hx) (fun j v x hj hx=>r2 j v x (by simpa using hj) hx)
   simp only[V.cells,this,Value.agg.injEq]
   exact Array.toList_inj
theorem Md {k:V}: ∀{es:List V},(∀x∈es,nQ k (x.comp 0)=false)→pf k es=false∧(∀z,pg k es z=z)∧∀v,kT k v es=es++[.bh [k,v]]
 | [],_=>⟨rfl,fun _=>rfl,fun _=>rfl⟩
 | e::es,h=>by
  have h0:=h e (qA ..)
  obtain ⟨a,b,c⟩:=Md (k:=k) (es:=es) fun x hx=>h x (j9 _ hx)
  exact ⟨by simp[pf,h0,a],fun z=>by simp[pg,h0,b],fun v=>by simp[kT,h0,c]⟩
theorem Me {k:V}: ∀{es:List V} {j:Nat} {k' y:V},es[j]? =some (.bh [k',y])→nQ k k'=true→(∀i x,i<j→es[i]? =some x→nQ k (x.comp 0)=false)→
  pf k es=true∧(∀z,pg k es z=y)∧∀v,kT k v es=es.set j (.bh [k',v])
 | [],j,k',y,h,_,_=>by simp at h
 | e::es,0,k',y,h,he,_=>by
  simp at h
  subst h
  exact ⟨by simp[pf,V.comp,V.nth,he],fun z=>by simp[pg,V.comp,V.nth,he],fun v=>by simp[kT,V.comp,V.nth,he]⟩
 | e::es,j+1,k',y,h,he,aR=>by
  have h0:=aR 0 e (by omega) rfl
  obtain ⟨a,b,c⟩:=Me (k:=k) (es:=es) (j:=j) (by simpa using h) he fun i x hi hx=>aR (i+1) x (by omega) (by simpa using hx)
  exact ⟨by simp[pf,h0,a],fun z=>by simp[pg,h0,b],fun v=>by simp[kT,h0,c]⟩
theorem Mf {kt vt:TypeId} {E:Array MapEntry} {es:List V} {k:V} {kv:Value} (hs:E.size=es.length) (hx: ∀(j:Nat) (e:MapEntry) (x:V),E[j]? =some e→es[j]? =some x→Cf P kt vt e x)
  (hn:E.toList.Pairwise (fun a b=>a.key≠b.key)) (hk:lS P kt k=true) (CV:pr kv k) (w:World):
  ((Instr.findKey kt kv E.toList).run P w= .ok none w∧(∀e∈E.toList,e.key≠kv)∧pf k es=false∧(∀z,pg k es z=z)∧∀v,kT k v es=es++[.bh [k,v]])∨
  ∃j e k' y,(Instr.findKey kt kv E.toList).run P w= .ok (some (j,e.val)) w∧E[j]? =some e∧e.key=kv∧es[j]? =some (.bh [k',y])∧lS P kt k'=true∧pr kv k'∧dS P vt y=true∧il e.val y∧
   pf k es=true∧(∀z,pg k es z=y)∧∀v,kT k v es=es.set j (.bh [k',v]):=by
 have K:=GM hk
 obtain ⟨l,hl⟩:=CU hk CV
 have Mg: ∀(j:Nat) x,es[j]? =some x→∃e,E[j]? =some e∧Cf P kt vt e x:=by
  intro j x hj
  have aR:j<E.size:=by rw[hs];exact (bj.1 hj).1
  exact ⟨E[j],jJ aR,hx j _ x (jJ aR) hj⟩
 have keys: ∀e∈E.toList,∃l,Go.keyOf P kt e.key=some l:=by
  intro e he
  obtain ⟨j,hj⟩:=qx he
  have fm:E[j]? =some e:=by simpa using hj
  have aR:j<es.length:=by rw[←hs];exact (gq.1 fm).1
  obtain ⟨k',y,_,h1,U,_⟩:=hx j e es[j] fm (bO aR)
  exact CU h1 U
 rcases K.find w hl E.toList keys with ⟨h1,U⟩|⟨j,e,h1,U,h3⟩
 ·left
  refine ⟨h1,U,Md fun x VM=> ?_⟩
  obtain ⟨j,hj⟩:=qx VM
  obtain ⟨e,he,k',y,rfl,f1,f2,_⟩:=Mg j x hj
  cases hq:nQ k (V.comp (.bh [k',y]) 0) with
  | false=>rfl
  | true=>
   have:=(GN hk f1 CV f2).1 hq
   exact absurd this.symm (U e (iD (by simpa using he)))
 ·right
  have hE:E[j]? =some e:=by simpa using U
  have aR:j<es.length:=by rw[←hs];exact (gq.1 hE).1
  obtain ⟨k',y,hy,f1,f2,f3,f4⟩:=hx j e es[j] hE (bO aR)
  have hj:=bO aR
  rw[hy] at hj
  rw[h3] at f2
  refine ⟨j,e,k',y,h1,hE,h3,hj,f1,f2,f3,f4,Me hj ((GN hk f1 CV f2).2 rfl) fun i x hi fP=> ?_⟩
  obtain ⟨e',sL,k2,y2,rfl,g1,g2,_⟩:=Mg i x fP
  cases hq:nQ k (V.comp (.bh [k2,y2]) 0) with
  | false=>rfl
  | true=>
   have:=(GN hk g1 CV g2).1 hq
   have i1:i<E.toList.length:=by have:=(bj.1 fP).1;simp;omega
   have i2:j<E.toList.length:=by simp;omega
   have:=BE.1 hn i j i1 i2 hi
   have a1:E.toList[i]=e':=by
    have:E.toList[i]? =some e':=by simpa using sL
    rw[bO i1] at this;exact cC this
   have a2:E.toList[j]=e:=by
    have:=U
    rw[bO i2] at this;exact cC this
   rw[a1,a2,h3] at this
   exact absurd (by rw[← ‹kv=e'.key›]) this
theorem ao.Mh {v:Value} {x:V} (h:ao P w I β hp v x) {t:TypeId} (hx:nR P t x=true):il v x:=by
 rcases pP hx with ⟨q,n,_,rfl,_⟩|⟨b,_,rfl⟩|⟨s,_,rfl,_⟩
 ·exact h.dL
 ·exact h.jq
 ·exact h.kZ
theorem ao.Mi {v:Value} {x:V} (h:ao P w I β hp v x) {t:TypeId} (hx:lS P t x=true):pr v x:=by
 cases vq hx with
 | one f c=>
  have:=h.Mh f
  cases x<;>first|exact this|cases this
 | arr hx A hl _ hf=>
  subst hx
  obtain ⟨cs,rfl,h1,U⟩:=h.jR
  exact ⟨cs,rfl,h1,fun j u y hu hy=>(U j u y hu hy).Mh (GK hf hy)⟩
theorem Mj {vt:TypeId} {y:V} (h:mapVal P vt=true) (ht:dS P vt y=true):(∃q n,P.underlying vt=some (.int q)∧y= .int q n)∨∃b,P.underlying vt=some .bool∧y= .bool b:=by
 unfold mapVal at h
 unfold dS at ht
 split at h
 ·rename_i q hu
  rw[hu] at ht
  cases y<;>first|(simp at ht;done)|skip
  simp only[dw] at ht
  subst ht
  exact .inl ⟨_,_,hu,rfl⟩
 ·rename_i hu
  rw[hu] at ht
  cases y<;>first|(simp at ht;done)|skip
  exact .inr ⟨_,hu,rfl⟩
 ·cases h
theorem il.GP {vt:TypeId} {v:Value} {y:V} (h:mapVal P vt=true) (ht:dS P vt y=true) (hv:il v y):ao P w I β hp v y:=by
 rcases Mj h ht with ⟨q,n,_,rfl⟩|⟨b,_,rfl⟩
 ·obtain rfl:v= .int q n:=hv;exact .int
 ·obtain rfl:v= .bool b:=hv;exact .bool
theorem ao.VN {vt:TypeId} {v:Value} {y:V} (h:mapVal P vt=true) (ht:dS P vt y=true) (hv:ao P w I β hp v y):il v y:=by
 rcases Mj h ht with ⟨q,n,_,rfl⟩|⟨b,_,rfl⟩
 ·exact hv.dL
 ·exact hv.jq
theorem VO {vt:TypeId} {z:V} (h:BX P vt=some z) (w:World): ∃v,(zeroValue vt).run P w= .ok v w∧il v z:=by
 unfold BX at h
 cases hi:P.info? vt with
 | none=>rw[hi] at h;cases h
 | some i=>
  rw[hi] at h
  simp only[Option.bind_some] at h
  cases hz:i.zero with
  | none=>rw[hz] at h;cases h
  | some v=>
   rw[hz] at h
   refine ⟨v,by simp[zeroValue,typeInfo,hi,hz],?_⟩
   cases v<;>simp only at h<;>first|(cases h;done)|skip
   ·cases h;rfl
   ·cases h;rfl
theorem GQ {t kt vt:TypeId} (h:ki P t=some (kt,vt)):P.underlying t=some (.map kt vt):=by
 unfold ki at h
 split at h
 ·rename_i k e hu;cases h;exact hu
 ·cases h
theorem GR (S:aH P w I β hp B M w0) {ok:Bool} {v:Value} {x:V} {b:Bool} {r:R} {rd:List Nat} {res:Result Value} (hv:ao P w I β hp v x)
  (hr:res= .ok (if ok then .tuple #[v,.bool b] else v) w) (h:(BY ok x b).run C hp=some (r,rd)):cN P res w I β hp B M w0 r:=by
 unfold BY at h
 obtain rfl:=aP h
 cases ok with
 | false=>exact .same S hr hv
 | true=>
  refine .same S hr (.bh rfl fun j u y hu hy=> ?_)
  match j,hu,hy with
  | 0,hu,hy=>simp at hu hy;subst hu;subst hy;exact hv
  | 1,hu,hy=>simp at hu hy;subst hu;subst hy;exact .bool
  | j+2,hu,hy=>simp at hy
theorem VP (S:aH P w I β hp B M w0) {t kt vt:TypeId} (ht:ki P t=some (kt,vt)) {m k:Value} {mx kx:V} {ok:Bool} {r:R} {rd:List Nat} (hm:ao P w I β hp m mx) (hk:ao P w I β hp k kx)
  (h:(FA P t mx kx ok).run C hp=some (r,rd)):cN P ((Instr.lookup t m k ok).run P w) w I β hp B M w0 r:=by
 unfold FA at h
 rw[ht] at h
 simp only at h
 cases hz:BX P vt with
 | none=>rw[hz] at h;cases h
 | some z=>
  rw[hz] at h
  obtain ⟨hc,h'⟩:=aK h
  clear h
  have h:=h'
  clear h'
  simp only[aM] at hc
  obtain ⟨og,yK,CW⟩:=hc
  have hu:=GQ ht
  have oh:=hk.Mi og
  have K:=GM og
  obtain ⟨l,hl⟩:=CU og oh
  obtain ⟨zv,Mk,Ml⟩:=VO hz w
  cases mx<;>simp only at h<;>first|(cases h;done)|skip
  ·rename_i t' id
   obtain ⟨kq,h'⟩:=aK h
   clear h
   have h:=h'
   clear h'
   rw[aT] at kq
   subst kq
   obtain ⟨l2,h'⟩:=run_get h
   clear h
   have h:=h'
   clear h'
   cases ab:hp id with
   | none=>rw[ab] at h;cases h
   | some blk=>
    rw[ab] at h
    cases blk<;>simp only at h<;>first|(cases h;done)|skip
    rename_i t2 es
    obtain ⟨kq,h'⟩:=aK h
    clear h
    have h:=h'
    clear h'
    rw[aT] at kq
    subst kq
    cases hm with
    | gB hd=>rw[ab] at hd;cases hd
    | @cv _ _ b aO hd hb=>
     rw[ab] at hd
     cases hd
     have hr:=S.h.rel id _ ab
     cases hr with
     | @map _ Mm Mn _ b' clock E eM aC hh hs hI hx hn=>
      rw[hb] at aC;cases aC
      rw[hu] at eM;cases eM
      rcases Mf hs hx hn og oh w with ⟨h1,_,h3,h4,_⟩|⟨j,e,k',y,h1,_,_,_,_,_,h6,h7,h3,h4,_⟩
      ·rw[h3,h4,yu CW] at h
       refine GR S (il.GP yK CW Ml) ?_ h
       unfold Instr.lookup
       simp only[Sem.run_bind,run_underlying hu,Result.andThen_ok,Go.MapKept.run_getObj_map hh,Sem.run_pure,K.check w E.isEmpty hl,h1,Mk]
      ·rw[h3,h4,yu h6] at h
       refine GR S (il.GP yK h6 h7) ?_ h
       unfold Instr.lookup
       simp only[Sem.run_bind,run_underlying hu,Result.andThen_ok,Go.MapKept.run_getObj_map hh,Sem.run_pure,K.check w E.isEmpty hl,h1]
  ·rename_i t'
   obtain ⟨kq,h⟩:=aK h
   cases hm
   rw[yu CW] at h
   refine GR S (il.GP yK CW Ml) ?_ h
   have hf:(Instr.findKey kt k []).run P w= .ok none w:=by
    rcases K.find w hl [] (by simp) with ⟨h1,_⟩|⟨j,e,_,U,_⟩
    ·exact h1
    ·simp at U
   unfold Instr.lookup
   simp[run_underlying hu,K.check w true hl,hf,Mk]
theorem VQ (S:aH P w I β hp B M w0) {t:TypeId} {nb:Nat} {r:R} {rd:List Nat} (h:(Rd.aE (ki P t).isSome (ig nb (.map t []) (.cv t nb) [])).run C hp=some (r,rd)):
  cN P ((Instr.makeMap t none).run P w) w I β hp B M w0 r:=by
 obtain ⟨ht,h⟩:=aK h
 obtain ⟨hn,rfl⟩:=mc h
 obtain ⟨⟨kt,vt⟩,ht⟩:=xA.1 ht
 have hu:=GQ ht
 have cD: ¬I w.heap.size:=fun h=>Nat.lt_irrefl _ (S.h.iH _ h)
 have eo:(w.alloc (.map #[] 0)).heap[w.heap.size]? =some (.map #[] 0):=heap_alloc_new w _
 obtain ⟨a1,a2⟩:=yp S (w':=w.alloc (.map #[] 0)) (blk:= .map t []) (b:=w.heap.size) hn (fun aF blk' h ho=>Nat.lt_irrefl _ (S.h.lt h ho)) cD
  (fun b' _ aR=>heap_alloc_old w _ b' aR) (by simp) ⟨rfl,rfl⟩ (.inr S.size) (fun b' h=>(cC (h.flat (by simp))).symm)
  (fun _=> .map hu rfl eo rfl cD (fun j e x he _=>by simp at he) (by simp))
 exact ⟨_,_,_,_,Go.RowKit.run_makeMap t w,a1,a2,.cv (cI _ _ _) (cI _ _ _)⟩
theorem Mo (S:aH P w I β hp B M w0) {t kt vt:TypeId} (ht:ki P t=some (kt,vt)) {m k v:Value} {mx kx vx:V} {r:R} {rd:List Nat} (hm:ao P w I β hp m mx) (hk:ao P w I β hp k kx) (hv:ao P w I β hp v vx)
  (h:(BZ P t mx kx vx).run C hp=some (r,rd)):nZ P ((Instr.mapUpdate t m k v).run P w) w I β hp B M w0 r:=by
 unfold BZ at h
 rw[ht] at h
 obtain ⟨hc,h'⟩:=aK h
 clear h
 have h:=h'
 clear h'
 simp only[aM] at hc
 obtain ⟨og,yK,sP⟩:=hc
 have hu:=GQ ht
 have oh:=hk.Mi og
 have vd:=ao.VN yK sP hv
 have K:=GM og
 obtain ⟨l,hl⟩:=CU og oh
 cases mx<;>simp only at h<;>first|(cases h;done)|skip
 rename_i t' id
 obtain ⟨kq,h'⟩:=aK h
 clear h
 have h:=h'
 clear h'
 rw[aT] at kq
 subst kq
 obtain ⟨l2,h'⟩:=run_get h
 clear h
 have h:=h'
 clear h'
 cases ab:hp id with
 | none=>rw[ab] at h;cases h
 | some blk=>
  rw[ab] at h
  cases blk<;>simp only at h<;>first|(cases h;done)|skip
  rename_i t2 es
  obtain ⟨kq,h'⟩:=aK h
  clear h
  have h:=h'
  clear h'
  rw[aT] at kq
  subst kq
  obtain rfl:=aP h
  cases hm with
  | gB hd=>rw[ab] at hd;cases hd
  | @cv _ _ b aO hd hb=>
   rw[ab] at hd
   cases hd
   have hr:=S.h.rel id _ ab
   cases hr with
   | @map _ Mm Mn _ b' clock E eM aC hh hs hI hx hn=>
    rw[hb] at aC;cases aC
    rw[hu] at eM;cases eM
    have aR:b<w.heap.size:=(gq.1 hh).1
    have fin: ∀(E':Array MapEntry) (yL:Nat),(Instr.mapUpdate t (.map (some b)) k v).run P w= .ok () {w with heap:=w.heap.setIfInBounds b (.map E' yL)}→E'.size=(kT kx vx es).length→
      (∀(j:Nat) (e:MapEntry) (x:V),E'[j]? =some e→(kT kx vx es)[j]? =some x→Cf P kt vt e x)→E'.toList.Pairwise (fun a b=>a.key≠b.key)→
      nZ P ((Instr.mapUpdate t (.map (some b)) k v).run P w) w I β hp B M w0 ⟨.undef,[(id,.map t (kT kx vx es))]⟩:=by
     intro E' yL cJ GJ cj GS
     have eo:({w with heap:=w.heap.setIfInBounds b (.map E' yL)}:World).heap[b]? =some (.map E' yL):=by simp[aR]
     obtain ⟨a1,a2⟩:=Cq S (w':={w with heap:=w.heap.setIfInBounds b (.map E' yL)}) (blk':= .map t (kT kx vx es)) ab (by simp) rfl hb hI (by simp)
      (fun b' aC=>by simp[Array.getElem?_setIfInBounds,Ne.symm aC]) (by simp only[bsize,eo,hh]) (by simp) ⟨rfl,rfl⟩ (fun _=> .map hu rfl eo GJ hI cj GS)
     exact ⟨_,I,β,cJ,a1,a2,rfl⟩
    rcases Mf hs hx hn og oh w with ⟨h1,U,_,_,h5⟩|⟨j,e,k',y,h1,hE,Mp,Mq,VR,VT,_,_,_,_,h5⟩
    ·have e5:=h5 vx
     refine fin (E.push {key:=k,val:=v,born:=clock}) (clock+1) ?_ (by rw[e5];simp[hs]) (fun j e x he pE=> ?_) ?_
     ·unfold Instr.mapUpdate
      simp only[Sem.run_bind,run_underlying hu,Result.andThen_ok,Go.MapKept.run_getObj_map hh,K.check w false hl,h1,Go.MapKept.run_setObj_map _ hh]
     ·rw[e5] at pE
      rw[Array.getElem?_push] at he
      split at he
      ·rename_i hj
       rw[ja (by omega),hj,hs,Nat.sub_self] at pE
       simp at he pE
       subst he;subst pE
       exact ⟨kx,vx,rfl,og,oh,sP,vd⟩
      ·have hj:j<E.size:=(gq.1 he).1
       rw[iZ (by omega)] at pE
       exact hx j e x he pE
     ·rw[Array.toList_push,List.pairwise_append]
      refine ⟨hn,by simp,fun a ha b' aC=> ?_⟩
      simp only[fM] at aC
      subst aC
      exact U a ha
    ·have e5:=h5 vx
     have hj:j<E.size:=(gq.1 hE).1
     refine fin (E.modify j fun e=>{e with key:=k,val:=v}) clock ?_ (by rw[e5];simp[hs]) (fun i e' x he fP=> ?_) ?_
     ·have bL:=K.stays w hl
      unfold Instr.mapUpdate
      simp only[Sem.run_bind,run_underlying hu,Result.andThen_ok,Go.MapKept.run_getObj_map hh,K.check w false hl,h1]
      simp only[hE,Option.map_some,Option.getD_some,Mp,bL,Result.andThen_ok,Go.MapKept.run_setObj_map _ hh]
     ·rw[e5] at fP
      rw[xB] at he
      rw[xy] at fP
      split at he
      ·rename_i sQ
       subst sQ
       rw[ag rfl,ag (by omega)] at fP
       rw[hE] at he
       simp at he fP
       subst he;subst fP
       exact ⟨k',vx,rfl,VR,VT,sP,vd⟩
      ·rename_i sQ
       rw[ai sQ] at fP
       exact hx i e' x he fP
     ·have Mr: ∀i (h1:i<(E.modify j fun e=>{e with key:=k,val:=v}).toList.length) (U:i<E.toList.length),((E.modify j fun e=>{e with key:=k,val:=v}).toList[i]).key=(E.toList[i]).key:=by
       intro i h1 U
       simp only[Array.getElem_toList,Array.getElem_modify]
       split
       ·rename_i sQ
        subst sQ
        have:=(gq.1 hE).2
        rw[this,Mp]
       ·rfl
      rw[BE] at hn⊢
      intro i i' h1 U gU
      have g1:i<E.toList.length:=by simpa using h1
      have g2:i'<E.toList.length:=by simpa using U
      rw[Mr i h1 g1,Mr i' U g2]
      exact hn i i' g1 g2 gU
theorem VU (S:aH P w I β hp B M w0) {t ty kt vt:TypeId} {v:Value} {x:V} {r:R} {rd:List Nat} (hu:P.underlying t=some (.map kt vt)) (hv:ao P w I β hp v x)
  (h:(B0 x).run C hp=some (r,rd)):cN P ((Builtin.len_ #[t] ty #[v]).run P w) w I β hp B M w0 r:=by
 unfold B0 at h
 cases x<;>simp only at h<;>first|(cases h;done)|skip
 ·rename_i t' id
  obtain ⟨l2,h'⟩:=run_get h
  clear h
  have h:=h'
  clear h'
  cases ab:hp id with
  | none=>rw[ab] at h;cases h
  | some blk=>
   rw[ab] at h
   cases blk<;>simp only at h<;>first|(cases h;done)|skip
   rename_i t2 es
   obtain rfl:=aP h
   cases hv with
   | gB hd=>rw[ab] at hd;cases hd
   | @cv _ _ b aO hd hb=>
    rw[ab] at hd
    cases hd
    have hr:=S.h.rel id _ ab
    cases hr with
    | @map _ Mm Mn _ b' clock E eM aC hh hs hI hx hn=>
     rw[hb] at aC;cases aC
     refine .same S (v:= .int .i64 E.size) (by simp[Builtin.len_,run_underlying hu,Go.MapKept.run_getObj_map hh,goInt]) ?_
     rw[hs]
     exact .int
 ·obtain rfl:=aP h
  cases hv
  exact .same S (v:= .int .i64 0) (by simp[Builtin.len_,run_underlying hu,goInt]) .int
theorem ao.GU {v:Value} {t:TypeId} (h:ao P w I β hp v (.db t)):v= .map none:=by cases h;rfl
theorem ao.VV {v:Value} {t t':TypeId} {id:Nat} {es:List V} (h:ao P w I β hp v (.cv t id)) (ab:hp id=some (.map t' es)): ∃b,v= .map (some b):=by
 cases h with
 | gB h=>rw[ab] at h;cases h
 | cv h hb=>exact ⟨_,rfl⟩
theorem Ms (S:aH P w I β hp B M w0) {op:BinOp} {t:TypeId} {a:Option Nat} {r:R} {rd:List Nat} (x y:Operand)
  (h:(BU P op t a.isNone).run C hp=some (r,rd)):cN P ((do eqGuard op t x y (.map a) (.map none);binOp op t (.map a) (.map none)).run P w) w I β hp B M w0 r:=by
 unfold BU at h
 split at h
 case h_2=>cases h
 rename_i kt vt hu
 have he:(Op.equal t (.map a) (.map none)).run P w= .ok a.isNone w:=by
  show (Op.equalIn (9999+1) t (.map a) (.map none)).run P w=_
  rw[Op.equalIn]
  cases a<;>simp[Sem.run_bind,run_underlying hu,Result.andThen_ok,Sem.run_pure]
 cases op<;>simp only at h<;>first|(cases h;done)|skip
 ·obtain rfl:=aP h
  exact .same S (by simp[eqGuard,binOp,he]) .bool
 ·obtain rfl:=aP h
  exact .same S (by simp[eqGuard,binOp,he]) .bool
end
end Go.AM
namespace Go.AM
section
variable {P:Program} {w w':World} {I I':Nat→Prop} {β β':Nat→Option Nat} {hp hp':Nat→Option ak} {C:af} {B:Nat} {M:Nat→Prop} {w0:Start}
theorem VW {e:TypeId} (he:P.underlying e=some (.int .u8)) (hc:P.cellsOf e=1) (s:ByteArray): ∀(i j:Nat) (x:V) (t':TypeId),(s.data.toList.map ya)[i]? =some x→(aV P e)[j]? =some t'→j<P.cellsOf e→
  ∃u,(Lib.strCells s)[i*P.cellsOf e+j]? =some u∧Pure P w I t' u (bH P e x j):=by
 intro i j x t' hx ht hj
 have mg:bC P e=false:=by simp[bC,he]
 obtain rfl:j=0:=by omega
 simp only[aV,mg,cond_false,List.getElem?_cons_zero,dA] at ht
 subst ht
 rw[fX] at hx
 cases hb:s.data.toList[i]? with
 | none=>rw[hb] at hx;cases hx
 | some b=>
  rw[hb] at hx
  cases hx
  refine ⟨.int .u8 b.toNat,?_,?_⟩
  ·rw[hc,lQ,Nat.add_zero]
   simp only[Lib.strCells,fX,hb,Option.map_some]
  ·simp only[bH,mg,cond_false]
   exact .int he
theorem VX (w:World) (t u ty e:TypeId) (i:TypeInfo) (z:Value) (ht:P.underlying t=some (.slice e)) (hu:P.underlying u=some .string) (hi:P.info? e=some i) (hz:i.zero=some z)
  (s:ByteArray) (h0:0<s.size) (CO:(s.size:Int)≤9223372036854775807) (CP:s.size*i.bytes≤281474976710656) (a0:Option Addr):
  (Builtin.append_ #[t,u] ty #[.slice a0 0 0,.string s]).run P w=
   .ok (.slice (some ⟨w.heap.size,0,none⟩) s.size (grownCap w s.size 0 e))
    (w.drew.alloc (.cells (s.data.map (fun b=>Value.int .u8 b.toNat)++Builtin.zeroCells z.cells (grownCap w s.size 0 e-s.size)) e)):=by
 cases a0 with
 | none=>exact run_append_nil_string w t u ty e i z ht hu hi hz s h0 CO CP
 | some b=>
  rw[←run_append_nil_string w t u ty e i z ht hu hi hz s h0 CO CP]
  have hn:s.size≠0:=by omega
  have VY: ¬(9223372036854775807<(s.size:Int)):=by omega
  have VZ: ¬(281474976710656<Builtin.nextslicecap s.size 0*i.bytes):=by rw[nextslicecap_zero h0];omega
  simp[Builtin.append_,run_underlying ht,run_underlying hu,sizeOf,typeInfo,zeroValue,hi,hz,Builtin.lenOf,Builtin.firstCells,hn,VY,VZ,Question.forced,newRow,grownCap,loadCells,loadCellsFrom]
theorem Mt (S:aH P w I β hp B M w0) {t u ty e:TypeId} {nb:Nat} {x:ByteArray} {xs:List V} {i:TypeInfo} {z:Value} (hu:P.underlying t=some (.slice e)) (nf:P.underlying u=some .string) (ar:cE P e=true) (hn:hp nb=none)
 (hi:P.info? e=some i) (hz:i.zero=some z) (h3:i.size=P.cellsOf e) (h4:z.cells.size=P.cellsOf e) (vr:i.size=1) (jT:P.bytesOf e=i.bytes) (dU:xs.length*P.bytesOf e≤dN) (lj:xs.length=x.size) (la:(Lib.strCells x).length=x.size)
 (cF: ∀(i j:Nat) (y:V) (t':TypeId),xs[i]? =some y→(aV P e)[j]? =some t'→j<P.cellsOf e→∃u,(Lib.strCells x)[i*P.cellsOf e+j]? =some u∧Pure P w I t' u (bH P e y j)):
 ∀a0,∃v w' β',(Builtin.append_ #[t,u] ty #[.slice a0 0 0,.string x]).run P w= .ok v w'∧Le P w I β hp w' I β' (aL hp nb (some (.arr e xs false)))∧aH P w' I β' (aL hp nb (some (.arr e xs false))) B M w0∧
  ao P w' I β' (aL hp nb (some (.arr e xs false))) v (.whole e nb):=by
 intro a0
 have sM:=u5 ar
 have hlen:xs.length≤2^45:=by
  have:xs.length*1≤xs.length*P.bytesOf e:=rX _ sM
  simp only[dN] at dU
  omega
 by_cases h0:x.size=0
 ·have fR:xs=[]:=j8 (by omega)
  subst fR
  obtain ⟨a1,a2⟩:=Co S e hn
  have hf:=Lib.run_firstCells_string (P:=P) w 1 x
  rw[h0] at hf
  have pI:Lib.strCells x=[]:=j8 (by omega)
  exact ⟨.slice a0 0 0,_,_,by cases a0<;>simp[storeCells,pI,Builtin.append_,run_underlying hu,run_underlying nf,sizeOf,typeInfo,hi,vr,Builtin.lenOf,h0,hf],a1,a2,.dk (cI _ _ _) (cI _ _ _)⟩
 ·have cJ:=VX (P:=P) w t u ty e i z hu nf hi hz x (by omega) (by omega) (by rw[←jT,←lj];simp only[dN] at dU;omega) a0
  have e1:(x.data.map fun b=>Value.int .u8 b.toNat)=(Lib.strCells x).toArray:=by
   apply Array.ext'
   simp[Lib.strCells]
  rw[e1,←lj] at cJ
  have oc:=grownCap_ge w xs.length 0 e
  have sN:grownCap w xs.length 0 e≤maxLen:=grownCap_le_maxLen w xs.length 0 e (by simp only[maxLen];omega)
  obtain ⟨n1,n2,n3⟩:=vo S.drew (nb:=nb) (cap:=grownCap w xs.length 0 e) (es:=xs) (C0:=(Lib.strCells x).toArray++Builtin.zeroCells z.cells (grownCap w xs.length 0 e-xs.length)) ar hn
   (by
    have:(Lib.strCells x).length=xs.length*P.cellsOf e:=by rw[la,lj,←h3,vr,lQ]
    simp only[BD,o6,size_zeroCells,h4,this,←dz];congr 1;omega) oc sN
   (fun i' j y t' hy ht hj=>by
    obtain ⟨u,eM,hp⟩:=cF i' j y t' hy ht hj
    have aR:=(bj.1 eM).1
    refine ⟨u,?_,Pure.drew hp⟩
    rw[Array.getElem?_append_left (by simpa using aR)]
    simpa using eM)
  exact ⟨_,_,_,cJ,(Le.drew w I β hp).trans n1,n2,n3⟩
theorem V0 (S:aH P w I β hp B M w0) {t u ty e:TypeId} {nb:Nat} {s:Value} {sv:V} {x:ByteArray} {r:R} {rd:List Nat} (hu:P.underlying t=some (.slice e)) (nf:P.underlying u=some .string) (he:P.underlying e=some (.int .u8)) (hs:ao P w I β hp s sv)
  (h:(uS P nb e sv (.list e (x.data.toList.map ya))).run C hp=some (r,rd)):cN P ((Builtin.append_ #[t,u] ty #[s,.string x]).run P w) w I β hp B M w0 r:=by
 unfold uS at h
 obtain ⟨ar,h⟩:=aK h
 simp only[qI] at h
 obtain ⟨_,h⟩:=aK h
 have mg:bC P e=false:=by simp[bC,he]
 have dp:P.cellsOf e=1:=by rw[←(jo ar).1,yl mg];rfl
 obtain ⟨i,z,hi,hz,h3,h4,_⟩:=js ar
 have vr:i.size=1:=by rw[h3,dp]
 have sM:=u5 ar
 have jT:P.bytesOf e=i.bytes:=by simp[Program.bytesOf,hi]
 have CX:=VW (P:=P) (w:=w) (I:=I) he dp x
 have lj:(x.data.toList.map ya).length=x.size:=by simp
 have la:(Lib.strCells x).length=x.size:=Lib.strCells_length x
 have h1:=Lib.strCells_oneCell x
 generalize fR:x.data.toList.map ya=xs at*
 cases sv with
 | nilS e'=>
  obtain ⟨hc,h⟩:=aK h
  simp only[aM,aT,eR] at hc
  obtain ⟨hn,rfl⟩:=mc h
  obtain ⟨a0,rfl⟩: ∃a0,s= .slice a0 0 0:=by cases hs;exact ⟨_,rfl⟩
  obtain ⟨v,w',β',a1,a2,a3,a4⟩:=Mt S hu nf ar hn hi hz h3 h4 vr jT hc.2 lj la CX _
  exact ⟨v,w',I,β',a1,a2,a3,a4⟩
 | whole e' id=>
  obtain ⟨l,h⟩:=run_get h
  cases ab:hp id with
  | none=>rw[ab] at h;cases h
  | some blk=>
   rw[ab] at h
   cases blk with
   | dead=>cases h
   | var _=>cases h
   | nest _ _ _=>cases h
   | map _ _=>cases h
   | arr di es fz=>
    cases fz with
    | true=>cases h
    | false=>
     obtain ⟨hc,h⟩:=aK h
     obtain ⟨hn,rfl⟩:=mc h
     simp only[aM,aT,eR] at hc
     obtain ⟨Gz,GA,dU⟩:=hc
     subst Gz
     subst GA
     have bA:nb≠id:=fun e=>by rw[e,ab] at hn;cases hn
     obtain ⟨k1,k2⟩:=Cp S ab
     have jt:aL hp id (some ak.dead) nb=none:=by rw[dK _ _ bA];exact hn
     cases hs with
     | dI hd=>rw[ab] at hd;cases hd
     | dQ hd=>rw[ab] at hd;cases hd
     | dk hd hb=>
      rw[ab] at hd
      cases hd
      simp only[List.length_nil,ia] at dU
      obtain ⟨v,w',β',a1,a2,a3,a4⟩:=Mt k2 hu nf ar jt hi hz h3 h4 vr jT dU lj la CX _
      exact ⟨v,w',I,β',a1,k1.trans a2,a3,a4⟩
     | @whole _ _ aO lU b cap hd hb aW b6 hm=>
      rw[ab] at hd
      cases hd
      have hr:=S.h.rel id _ ab
      cases hr with
      | dm aC=>rw[aC] at hb;cases hb
      | @arr _ _ _ b' Ca _ aC hh oe hf dJ lf=>
       rw[hb] at aC
       cases aC
       have hlen:es.length+xs.length≤2^45:=by
        have:(es.length+xs.length)*1≤(es.length+xs.length)*P.bytesOf e:=rX _ sM
        simp only[dN] at dU
        omega
       rw[lX hh] at aW
       have pC: ∀aF blk',aL hp id (some ak.dead) aF=some blk'→¬br P w (β aF) blk' b:=by
        intro aF blk' h1 U
        by_cases gU:aF=id
        ·subst gU;rw[cI] at h1;cases h1;exact U.alive rfl
        ·rw[dK _ _ gU] at h1
         exact gU (S.h.inj aF id blk' _ b h1 ab U (.root (by simp) hb))
       have GB:=S.h.qP id _ b ab (by simp) hb
       have ku:es.length*P.cellsOf e≤Ca.toList.length:=by simpa using oe
       have Mu:(Lib.strCells x).length=xs.length*P.cellsOf e:=by rw[la,lj,dp,lQ]
       by_cases qZ:es.length+xs.length≤cap
       ·have yH:es.length*P.cellsOf e+(Lib.strCells x).length≤Ca.size:=by rw[Mu,←dz,←aW];exact dx _ qZ
        have cJ:=Lib.run_append_room_string (P:=P) w t u ty e i hu nf hi vr b es.length cap Ca hh x (by rw[←lj];exact qZ) (by rw[←la];rw[dp,lQ] at yH;exact yH)
        have cF:=CM (P:=P) (w:=w) (I:=I) (n:=es.length) (c:=Ca.toList) rfl (fun i j y t' a b c=>by
         obtain ⟨v,hv,hp⟩:=lf i j y t' a b c
         exact ⟨v,by simpa using hv,hp⟩) CX ku (Ca.toList.drop (es.length*P.cellsOf e+(Lib.strCells x).length))
        generalize vk:(Ca.toList.take es.length++Lib.strCells x++Ca.toList.drop (es.length+x.size)).toArray=C' at cJ
        have nc:C'.size=Ca.size:=by
         rw[dp,lQ] at yH
         rw[←vk];simp;omega
        have Mv:(w.setRow b C').heap[b]? =some (.cells C' e (0,0)):=setRow_heap w b Ca C' e _ hh
        obtain ⟨a1,a2⟩:=yp k2 (blk:= .arr e (es++xs) false) (w':=w.setRow b C') jt pC (dJ rfl) (fun b' h _=>setRow_other w b b' _ h) (by simp) ⟨rfl,rfl⟩ GB
         (fun b' h=>(cC (h.flat (by simp))).symm) (fun hle=> .arr ar rfl Mv (by rw[nc,←aW];exact dx _ (by simpa using qZ)) (fun h=>by cases h) (fun _=>dJ rfl) fun i j y t' a b c=>by
          obtain ⟨v,hv,hp⟩:=cF i j y t' a b c
          refine ⟨v,?_,hp.mono hle.cW hle.b7⟩
          rw[←vk,lO]
          rw[dp] at hv⊢
          simpa[la] using hv)
        refine ⟨_,_,_,_,cJ,k1.trans a1,a2,?_⟩
        have a3:=ao.whole (P:=P) (w:=w.setRow b C') (I:=I) (β:=aL β nb (some b)) (hp:=aL (aL hp id (some .dead)) nb (some (.arr e (es++xs) false))) (cap:=cap) (b:=b) (es:=es++xs) (fz:=false) (id:=nb) (e:=e) (cI _ _ _) (cI _ _ _) (by rw[lX Mv,nc,aW]) (by simpa using qZ) hm
        rw[dM,lj] at a3
        exact a3
       ·have hold: ∀(j:Nat) v,(Ca.toList.take (es.length*P.cellsOf e))[j]? =some v→w.cell? ((⟨b,0,none⟩:Addr).add j)=some v:=by
         intro j v hj
         have b8:=(bj.1 hj).1
         have gD:j<es.length*P.cellsOf e:=by rw[fb] at b8;omega
         rw[ez gD] at hj
         rw[l9,cell?_cells hh,ia]
         simpa using hj
        have cJ:=Lib.run_append_grow_string (P:=P) w t u ty e i z hu nf hi hz ⟨b,0,none⟩ es.length cap (Ca.toList.take (es.length*P.cellsOf e)) (by rw[h3];simp;omega) hold x (by omega) (by omega)
         (growslice_fits (by omega) (by rw[←jT,←lj];simp only[dN] at dU;omega))
        rw[←lj] at cJ
        have oc:=grownCap_ge w (es.length+xs.length) cap e
        have sN:grownCap w (es.length+xs.length) cap e≤maxLen:=grownCap_le_maxLen w _ cap e (by simp only[maxLen];omega)
        have cF:=CM (P:=P) (w:=w) (I:=I) (n:=es.length) (c:=Ca.toList) rfl (fun i j y t' a b c=>by
         obtain ⟨v,hv,hp⟩:=lf i j y t' a b c
         exact ⟨v,by simpa using hv,hp⟩) CX ku (Builtin.zeroCells z.cells (grownCap w (es.length+xs.length) cap e-(es.length+xs.length))).toList
        obtain ⟨n1,n2,n3⟩:=vo k2.drew (nb:=nb) (cap:=grownCap w (es.length+xs.length) cap e) (es:=es++xs)
         (C0:=(Ca.toList.take (es.length*P.cellsOf e)).toArray++(Lib.strCells x).toArray++Builtin.zeroCells z.cells (grownCap w (es.length+xs.length) cap e-(es.length+xs.length))) ar jt
         (by
          have e1:(Ca.toList.take (es.length*P.cellsOf e)).length=es.length*P.cellsOf e:=by simp;omega
          simp only[BD,o6,size_zeroCells,h4,Mu,e1,←dz];congr 1;omega) (by simpa using oc) sN
         (fun i j y t' a b c=>by
          obtain ⟨v,hv,hp⟩:=cF i j y t' a b c
          refine ⟨v,?_,Pure.drew hp⟩
          rw[←qz]
          simpa using hv)
        rw[dM] at n3
        exact ⟨_,_,_,_,cJ,(k1.trans (Le.drew w I β _)).trans n1,n2,n3⟩
 | _=>cases h
end
section
variable {P:Program} {w w':World} {I I':Nat→Prop} {β β':Nat→Option Nat} {hp hp':Nat→Option ak} {C:af} {B:Nat} {M:Nat→Prop} {w0:Start}
theorem Mw: ∀(ns:List Int) (s:ByteArray),(ns.foldl (fun r n=>r.push (UInt8.ofNat n.toNat)) s).data.toList=s.data.toList++ns.map fun n=>UInt8.ofNat n.toNat
 | [],s=>by simp
 | n::ns,s=>by
  simp only[List.foldl_cons,Mw ns,dB]
  simp[ByteArray.push]
theorem Mx {e:TypeId} {u:Value} {x:V} (he:P.underlying e=some (.int .u8)) (hp:Pure P w I e u x):u= .int .u8 x.toInt:=by
 cases hp with
 | int hp'=>rw[he] at hp';cases hp';rfl
 | bool hp'=>rw[he] at hp';cases hp'
 | str hp'=>rw[he] at hp';cases hp'
 | nil hp'=>rw[he] at hp';cases hp'
 | emp hp'=>rw[he] at hp';cases hp'
 | list _ hp'=>rw[he] at hp';cases hp'
theorem V1 (S:aH P w I β hp B M w0) {src dst e:TypeId} {v:Value} {x:V} {r:R} {rd:List Nat} (hs:P.underlying src=some (.slice e)) (he:P.underlying e=some (.int .u8)) (hd:P.underlying dst=some .string)
  (hv:ao P w I β hp v x) (h:(Rd.aE (cE P e) (qI e x fun es=> .ret ⟨.str (lT es),[]⟩)).run C hp=some (r,rd)):cN P ((convert src dst v).run P w) w I β hp B M w0 r:=by
 obtain ⟨ar,h⟩:=aK h
 obtain ⟨xs,hx,l,h⟩:=CL S.h.rel ar hv h
 obtain rfl:=aP h
 have mg:bC P e=false:=by simp[bC,he]
 have h1:P.cellsOf e=1:=by rw[←(jo ar).1,yl mg];rfl
 rcases hx with ⟨⟨a,rfl⟩,rfl⟩|⟨a,c,news,hr⟩
 ·refine .same S (v:= .string .empty) ?_ (.str (by simp[lT]))
  rw[run_convert_bytes_string w src dst e a 0 0 hs he hd]
  cases a<;>simp[Conv.bytesToString,loadCells,loadCellsFrom]
 ·have CN:news=(xs.map V.toInt).map (Value.int .u8):=by
   apply BF
   intro j
   by_cases hj:j<xs.length
   ·obtain ⟨u,hu,hp⟩:=hr.el j 0 xs[j] e (bO hj) (by simp[aV,mg]) (by omega)
    rw[h1] at hu
    simp only[bH,mg,cond_false] at hp
    have eM:news[j]? =some u:=by simpa using hu
    rw[eM]
    have:=Mx he hp
    simp[hj,←this]
   ·have hl:news.length=xs.length:=by rw[hr.len,h1];simp
    rw[qu (by omega),qu (by simp;omega)]
  have GV:=run_loadCells_list (P:=P) w a news hr.cell
  have hl:news.length=xs.length:=by rw[hr.len,h1];simp
  rw[hl] at GV
  rw[CN] at GV
  refine .same S (v:= .string ((xs.map V.toInt).foldl (fun r n=>r.push (UInt8.ofNat n.toNat)) ByteArray.empty)) ?_ (.str ?_)
  ·rw[hr.val,run_convert_bytes_string w src dst e _ _ _ hs he hd]
   exact run_bytesToString w a xs.length c (xs.map V.toInt) GV
  ·rw[Mw]
   simp[lT]
theorem ao.CY {v:Value} (h:ao P w I β hp v .c8):v= .pointer none:=by cases h;rfl
section
variable (w:World)
theorem V2 (t e:TypeId) (a:Addr) (h:P.underlying t=some (.pointer e)):(binOp .eql t (.pointer (some a)) (.pointer none)).run P w= .ok (.bool false) w:=by
 have h0: ∀d:Nat,(Op.equalIn (d+1) t (.pointer (some a)) (.pointer none)).run P w= .ok false w:=fun d=>by simp[Op.equalIn,run_underlying h]
 simp only[binOp]
 simp[Op.equal,Op.maxDepth,h0 9999]
theorem V3 (t e:TypeId) (a:Addr) (h:P.underlying t=some (.pointer e)):(binOp .neq t (.pointer (some a)) (.pointer none)).run P w= .ok (.bool (!false)) w:=by
 have h0: ∀d:Nat,(Op.equalIn (d+1) t (.pointer (some a)) (.pointer none)).run P w= .ok false w:=fun d=>by simp[Op.equalIn,run_underlying h]
 simp only[binOp]
 simp[Op.equal,Op.maxDepth,h0 9999]
theorem V4 (t e:TypeId) (a:Addr) (h:P.underlying t=some (.pointer e)):(binOp .eql t (.pointer none) (.pointer (some a))).run P w= .ok (.bool false) w:=by
 have h0: ∀d:Nat,(Op.equalIn (d+1) t (.pointer none) (.pointer (some a))).run P w= .ok false w:=fun d=>by simp[Op.equalIn,run_underlying h]
 simp only[binOp]
 simp[Op.equal,Op.maxDepth,h0 9999]
theorem V5 (t e:TypeId) (a:Addr) (h:P.underlying t=some (.pointer e)):(binOp .neq t (.pointer none) (.pointer (some a))).run P w= .ok (.bool (!false)) w:=by
 have h0: ∀d:Nat,(Op.equalIn (d+1) t (.pointer none) (.pointer (some a))).run P w= .ok false w:=fun d=>by simp[Op.equalIn,run_underlying h]
 simp only[binOp]
 simp[Op.equal,Op.maxDepth,h0 9999]
theorem V6 (t e:TypeId) (h:P.underlying t=some (.pointer e)):(binOp .eql t (.pointer none) (.pointer none)).run P w= .ok (.bool true) w:=by
 have h0: ∀d:Nat,(Op.equalIn (d+1) t (.pointer none) (.pointer none)).run P w= .ok true w:=fun d=>by simp[Op.equalIn,run_underlying h]
 simp only[binOp]
 simp[Op.equal,Op.maxDepth,h0 9999]
theorem V7 (t e:TypeId) (h:P.underlying t=some (.pointer e)):(binOp .neq t (.pointer none) (.pointer none)).run P w= .ok (.bool (!true)) w:=by
 have h0: ∀d:Nat,(Op.equalIn (d+1) t (.pointer none) (.pointer none)).run P w= .ok true w:=fun d=>by simp[Op.equalIn,run_underlying h]
 simp only[binOp]
 simp[Op.equal,Op.maxDepth,h0 9999]
end
theorem CZ (S:aH P w I β hp B M w0) {op:BinOp} {t:TypeId} {b:Bool} {x y:Operand} {v1 v2:Value} {r:R} {rd:List Nat} (h:(ptrEq P op t b).run C hp=some (r,rd)) (hg:(eqGuard op t x y v1 v2).run P w= .ok () w)
  (he: ∀e j,P.underlying t=some (.pointer e)→P.info? e=some j→(binOp .eql t v1 v2).run P w= .ok (.bool b) w∧(binOp .neq t v1 v2).run P w= .ok (.bool (!b)) w):
  cN P ((do eqGuard op t x y v1 v2;binOp op t v1 v2:Sem Value).run P w) w I β hp B M w0 r:=by
 unfold ptrEq at h
 cases hu:P.underlying t with
 | none=>rw[hu] at h;cases h
 | some d=>
  rw[hu] at h
  cases d<;>simp only at h<;>first|(cases h;done)|skip
  rename_i e
  obtain ⟨h1,U⟩:=aK h
  obtain ⟨j,hj⟩:=xA.1 h1
  obtain ⟨k1,k2⟩:=he e j hu hj
  cases op<;>simp only at U<;>first|(cases U;done)|skip
  ·obtain rfl:=aP U
   exact .same S (by simp only[Sem.run_bind,hg,Result.andThen_ok,k1]) .bool
  ·obtain rfl:=aP U
   exact .same S (by simp only[Sem.run_bind,hg,Result.andThen_ok,k2]) .bool
theorem V8 {b n:Nat}:(∀b',b'≠b→(w.freeze ⟨b,0,none⟩ n).heap[b']? =w.heap[b']?)∧bsize (w.freeze ⟨b,0,none⟩ n) b=bsize w b∧w.heap.size≤(w.freeze ⟨b,0,none⟩ n).heap.size∧(w.freeze ⟨b,0,none⟩ n).os=w.os∧(w.freeze ⟨b,0,none⟩ n).output=w.output:=by
 unfold World.freeze
 split
 ·exact ⟨fun _ _=>rfl,rfl,bQ _,rfl,rfl⟩
 ·refine ⟨fun b' hb=> ?_,?_,by simp,rfl,rfl⟩
  ·simp only[xB]
   rw[ai (fun e=>hb e.symm)]
  ·simp only[bsize,xB,cP]
   cases w.heap[b]? with
   | none=>rfl
   | some o=>cases o<;>rfl
theorem V9 {e:TypeId} (hb:isByte P e=true):P.underlying e=some (.int .u8):=by
 unfold isByte at hb
 split at hb
 ·assumption
 ·cases hb
theorem Wa (S:aH P w I β hp B M w0) {ts:Array TypeId} {ty e:TypeId} {v:Value} {id:Nat} {es:List V} {fz:Bool} (hv:ao P w I β hp v (.whole e id)) (ab:hp id=some (.arr e es fz)) (h0:0<es.length):
  cN P ((Builtin.unsafeSliceData_ ts ty #[v]).run P w) w I β hp B M w0 ⟨.ptr id 0 0,[]⟩:=by
 cases hv with
 | dI h=>rw[ab] at h;cases h
 | dk h _=>rw[ab] at h;cases h;simp at h0
 | dQ h _ _ _ _=>rw[ab] at h;cases h
 | @whole _ _ aO lU b cap h hb b6 hle hm=>
  rw[ab] at h;cases h
  refine .same S (Lib.run_unsafeSliceData_row w ts ty ⟨b,0,none⟩ es.length cap (by omega)) ?_
  have:=ao.ptr (P:=P) (w:=w) (I:=I) (β:=β) (i:=0) (c:=0) ab (by simp) hb
  simpa using this
theorem Wb (S:aH P w I β hp B M w0) {t u ty e:TypeId} {vx:Value} {id:Nat} {n:Int} {es:List V} (hu:P.underlying t=some (.pointer e)) (hb:isByte P e=true) (hv:ao P w I β hp vx (.ptr id 0 0))
  (ab:hp id=some (.arr e es false)) (h0:0<n) (hn:n≤es.length) (hm:n.toNat≤xN) (iq:(es.take n.toNat).all FJ=true):cN P ((Builtin.unsafeString_ #[t,u] ty #[vx,.int .i64 n]).run P w) w I β hp B M w0 ⟨.str (lT (es.take n.toNat)),[(id,.dead)]⟩:=by
 obtain ⟨b,GW,rfl⟩:=hv.gf ab (by simp)
 have he:P.underlying e=some (.int .u8):=by
  unfold isByte at hb
  split at hb
  ·assumption
  ·cases hb
 have mg:bC P e=false:=by simp[bC,he]
 have hr:=S.h.rel id _ ab
 rw[GW] at hr
 cases hr with
 | dm aC=>cases aC
 | @arr _ _ _ b1 Ca ar ku hh hs hI cD cF=>
  cases ku
  have h1:P.cellsOf e=1:=by rw[←(jo ar).1,yl mg];rfl
  have aR:=S.Uk ab (by simp) GW
  have hl:(lT (es.take n.toNat)).length=n.toNat:=by simp[lT];omega
  have GS:n=((lT (es.take n.toNat)).length:Nat):=by rw[hl];omega
  have cJ:=Lib.run_unsafeString_row (P:=P) w t u ty e hu h1 b Ca.size (by simp[World.shape?,hh]) (lT (es.take n.toNat)) (fun h=>by rw[h] at hl;simp at hl;omega) (by rw[hl];rw[h1] at hs;omega) (by rw[hl];unfold xN at hm;omega) (fun j x hx=>by
   have hj:j<n.toNat:=by
    have:=(bj.1 hx).1
    rw[hl] at this;exact this
   have gC:j<es.length:=by omega
   simp only[lT,fX,ez hj,bO gC,Option.map_some,dA] at hx
   obtain ⟨v,vp,bm⟩:=cF j 0 es[j] e (bO gC) (by simp[aV,mg]) (by omega)
   rw[h1] at vp
   simp only[bH,mg,cond_false] at bm
   have:=Mx he bm
   have hr:=eS.1 iq es[j] (iD (by rw[ez hj];exact bO gC))
   simp only[FJ,aM,dw] at hr
   have mb:(x.toNat:Int)=es[j].toInt:=by
    rw[←hx]
    have:es[j].toInt.toNat<256:=by omega
    simp only[UInt8.toNat_ofNat']
    omega
   rw[l9,cell?_cells hh,mb]
   rw[show 0+j=j*1+0 by omega,vp,this])
  obtain ⟨f1,f2,f3,f4,f5⟩:=V8 (w:=w) (b:=b) (n:=n.toNat)
  obtain ⟨k1,k2⟩:=Cq (w':=w.freeze ⟨b,0,none⟩ n.toNat) S ab (by simp) (blk':= .dead) (by trivial) GW (cD rfl) (by simp) f1 f2 f3 ⟨f4,f5⟩ (fun _=> .dead)
  rw[←GS,hl] at cJ
  refine ⟨.string ⟨(lT (es.take n.toNat)).toArray⟩,_,I,β,?_,k1,k2,.str ?_⟩
  ·simpa using cJ
  ·rfl
def GX:Op→Bool
 | .call {callee:= .value (.func _),..}=>true
 | .call {callee:= .value (.tmp _),..}=>true
 | .defer _=>true
 | _=>false
theorem nX.val {o:Oper} {a:Act} {s:Sem Value} {r:R} (he:execOp a.eval o=(do Pure.pure (Next.value (←s)))) (h:cN P (s.run P w) w I β hp B M w0 r):nX P ((execOp a.eval o).run P w) w I β hp B M w0 r:=by
 rw[he];exact h.op
theorem Wc {A:cl} (S:aH P w I β hp B M w0) (hg:fO P A.aG w I) {a:Act} {sl:Nat→V} (hs:jP P w I β hp a sl) {ix nb:Nat} {o:Oper} (GY:GX o.op=false) {r:R} {rd:List Nat}
  (h:(eU P A sl ix nb o).run C hp=some (r,rd)):nX P ((execOp a.eval o).run P w) w I β hp B M w0 r:=by
 obtain ⟨dst,op,ty,pos,after,guard⟩:=o
 cases op<;>simp only[eU] at h<;>first|(cases h;done)|skip
 case move x=>
  obtain rfl:=aP h
  exact ⟨_,w,I,β,.inl (by simp[execOp]),Le.refl w I β hp,S,hs.ev hg ty x⟩
 case assign x=>
  obtain rfl:=aP h
  exact ⟨_,w,I,β,.inl (by simp[execOp]),Le.refl w I β hp,S,hs.ev hg ty x⟩
 case pick c x y=>
  have hc:=hs.ev hg ty c
  cases sJ:aQ P A.aG ty sl c<;>rw[sJ] at h hc<;>simp only at h<;>first|(cases h;done)|skip
  rename_i t
  have Wd:=hc.jq
  have hx:=hs.ev hg ty x
  have hy:=hs.ev hg ty y
  have fin: ∀z:V,ao P w I β hp (if t then a.eval x else a.eval y) z→nX P ((execOp a.eval ⟨dst,.pick c x y,ty,pos,after,guard⟩).run P w) w I β hp B M w0 ⟨z,[]⟩:=by
   intro z hz
   exact ⟨_,w,I,β,.inl (by simp[execOp,Wd,asBool]),Le.refl w I β hp,S,hz⟩
  cases My:gone (aQ P A.aG ty sl x) with
  | true=>
   rw[My] at h
   obtain ⟨h1,h⟩:=aK h
   obtain rfl:=aP h
   have:t=false:=by simpa using h1
   subst this
   refine fin _ ?_
   simpa using hy
  | false=>
   rw[My] at h
   simp only[cond_false] at h
   cases Mz:gone (aQ P A.aG ty sl y) with
   | true=>
    rw[Mz] at h
    obtain ⟨h1,h⟩:=aK h
    obtain rfl:=aP h
    subst h1
    refine fin _ ?_
    simpa using hx
   | false=>
    rw[Mz] at h
    obtain rfl:=aP h
    exact fin _ (Lj hx hy)
 case makeFunc fn x y=>
  cases fn<;>simp only[eU] at h<;>first|(cases h;done)|skip
  rename_i f
  obtain rfl:=aP h
  refine ⟨.func (.func f) (x.map a.eval) (y.map a.eval),w,I,β,.inl (by simp[execOp,Instr.makeFunc]),Le.refl w I β hp,S,.fn (by simp) (fun j v z hj hz=> ?_) (by simp) (fun j v z hj hz=> ?_)⟩
  ·rw[Array.getElem?_map] at hj
   rw[fX,qz] at hz
   cases hx:x[j]? with
   | none=>rw[hx] at hj;cases hj
   | some o1=>
    rw[hx] at hj hz
    cases hj
    cases hz
    exact hs.ev hg ty o1
  ·rw[Array.getElem?_map] at hj
   rw[fX,qz] at hz
   cases hx:y[j]? with
   | none=>rw[hx] at hj;cases hj
   | some o1=>
    rw[hx] at hj hz
    cases hj
    cases hz
    exact hs.ev hg ty o1
 case defer c=>cases GY
 case makeMap t res=>
  cases res with
  | some x=>cases h
  | none=>exact .val rfl (VQ S h)
 case lookup t m k ok=>
  cases ht:ki P t with
  | none=>rw[ht] at h;cases h
  | some q=>
   obtain ⟨kt,vt⟩:=q
   rw[ht] at h
   exact .val (s:=Instr.lookup t (a.eval m) (a.eval k) ok) rfl (VP S ht (hs.ev hg t m) (hs.ev hg kt k) h)
 case mapUpdate t m k x=>
  cases ht:ki P t with
  | none=>rw[ht] at h;cases h
  | some q=>
   obtain ⟨kt,vt⟩:=q
   rw[ht] at h
   have:=Mo S ht (hs.ev hg t m) (hs.ev hg kt k) (hs.ev hg vt x) h
   exact this.op
 case insert t m k x=>
  cases ht:ki P t with
  | none=>rw[ht] at h;cases h
  | some q=>
   obtain ⟨kt,vt⟩:=q
   rw[ht] at h
   have:=Mo S ht (hs.ev hg t m) (hs.ev hg kt k) (hs.ev hg vt x) h
   exact this.op
 case alloc e=>
  exact .val rfl (U1 S h)
 case box e x=>
  exact .val rfl (U2 S (hs.ev hg e x) h)
 case build t ps=>exact .val rfl (U4 S hs hg h)
 case buildSlice t len ps=>
  cases hu:P.underlying t with
  | none=>rw[hu] at h;cases h
  | some d=>
   rw[hu] at h
   cases d<;>simp only at h<;>first|(cases h;done)|skip
   exact .val rfl (Vc S hs hg hu h)
 case load t x=>exact .val rfl (UA S (hs.ev hg ty x) h)
 case store t x y=>
  have:=UU S (hs.ev hg ty x) (hs.ev hg t y) h
  exact this.op
 case nilCheck x=>
  have hx:=hs.ev hg ty x
  cases eN:aQ P A.aG ty sl x<;>rw[eN] at h hx<;>simp only at h<;>first|(cases h;done)|skip
  ·obtain ⟨⟨blk,ab,hd⟩,l,h⟩:=u9 h
   obtain rfl:=aP h
   have cj:=hx
   obtain ⟨b,hb,he⟩:=hx.gf ab hd
   rw[he] at cj
   exact ⟨_,w,I,β,.inl (by simp only[execOp,he];rfl),Le.refl w I β hp,S,cj⟩
  ·obtain rfl:=aP h
   have cj:=hx
   obtain ⟨b,o,he,_⟩:=hx.Ct
   rw[he] at cj
   exact ⟨_,w,I,β,.inl (by simp only[execOp,he];rfl),Le.refl w I β hp,S,cj⟩
  ·obtain ⟨e0,es,aq,l,ab,h1,U,h3,h⟩:=m7 h
   obtain rfl:=aP h
   have cj:=hx
   obtain ⟨b,o,he,_⟩:=hx.Lh ab h1 U h3
   rw[he] at cj
   exact ⟨_,w,I,β,.inl (by simp only[execOp,he];rfl),Le.refl w I β hp,S,cj⟩
 case binOp op t x y yt=>
  have hx:=hs.ev hg t x
  have hy:=hs.ev hg t y
  refine .val (s:=do eqGuard op t x y (a.eval x) (a.eval y);binOp op t (a.eval x) (a.eval y)) rfl ?_
  cases eN:aQ P A.aG t sl x<;>cases ra:aQ P A.aG t sl y<;>rw[eN,ra] at h<;>rw[eN] at hx<;>rw[ra] at hy<;>first|(simp only[jf] at h;cases h;done)|skip
  ·rw[hx.dL,hy.dL]
   have:=Uq S h
   simpa[Un] using this
  ·rw[hx.jq,hy.jq]
   have:=Us S h
   simpa[Uo] using this
  ·obtain ⟨s1,e1,l1⟩:=hx.kZ
   obtain ⟨s2,e2,l2⟩:=hy.kZ
   rw[e1,e2]
   rw[←l1,←l2] at h
   have:=Ut (t:=t) S h
   simpa[Up] using this
  ·obtain ⟨cs,e1,h1,U⟩:=hx.jR
   obtain ⟨ds,e2,h3,h4⟩:=hy.jR
   rw[e1,e2]
   exact Uu S h1 h3 U h4 h
  ·
   simp only[jf] at h
   obtain ⟨h1,U⟩:=aK h
   clear h
   simp only[aM,aT] at h1
   obtain ⟨rfl,rfl,rfl⟩:=h1
   obtain ⟨⟨blk,ab,hd⟩,l,h⟩:=u9 U
   obtain ⟨b,hb,e1⟩:=hx.gf ab hd
   obtain ⟨b',aC,e2⟩:=hy.gf ab hd
   rw[hb] at aC;cases aC
   rw[e1,e2]
   exact CZ S h (by cases op<;>simp[eqGuard]) fun e j he hj=>⟨run_eql_ptr_same w _ he hj,Lib.run_neq_ptr_same w _ he hj⟩
  ·simp only[jf] at h
   obtain ⟨⟨blk,ab,hd⟩,l,h⟩:=u9 h
   obtain ⟨b,_,e1⟩:=hx.gf ab hd
   rw[e1,hy.CY]
   exact CZ S h (by cases op<;>simp[eqGuard]) fun e j he hj=>⟨V2 w t e _ he,V3 w t e _ he⟩
  ·simp only[jf] at h
   obtain ⟨⟨blk,ab,hd⟩,l,h⟩:=u9 h
   obtain ⟨b,_,e1⟩:=hy.gf ab hd
   rw[e1,hx.CY]
   exact CZ S h (by cases op<;>simp[eqGuard]) fun e j he hj=>⟨V4 w t e _ he,V5 w t e _ he⟩
  ·simp only[jf] at h
   rw[hx.CY,hy.CY]
   exact CZ S h (by cases op<;>simp[eqGuard]) fun e j he hj=>⟨V6 w t e he,V7 w t e he⟩
  ·
   simp only[jf] at h
   obtain ⟨l,h⟩:=run_get h
   split at h
   ·rename_i t2 es ab
    obtain ⟨b,hb⟩:=hx.VV ab
    rw[hy.GU,hb]
    exact Ms (a:=some b) S x y h
   ·cases h
  ·simp only[jf] at h
   rw[hx.GU,hy.GU]
   exact Ms (a:=none) S x y h
 case unOp op t x=>exact .val rfl (Uv S (hs.ev hg ty x) h)
 case convert src dst x=>
  have hx:=hs.ev hg ty x
  refine .val (s:=convert src dst (a.eval x)) rfl ?_
  cases gP:P.underlying src with
  | none=>rw[gP] at h;cases h
  | some d1=>
   cases mh:P.underlying dst with
   | none=>rw[gP,mh] at h;cases d1<;>cases h
   | some d2=>
    rw[gP,mh] at h
    have fN: ∀{b:Nat} {T:TypeId} {cs:List V} {id:Nat},hp id=some (.var T cs)→β id=some b→w.shape? b=some (T,cs.length):=by
     intro b T cs id ab hb
     have hr:=S.h.rel id _ ab
     rw[hb] at hr
     cases hr with
     | var aC hh aW _ _ _=>cases aC;simp[World.shape?,hh,aW]
    cases d1<;>(try (cases d2<;>cases h;done))
    ·cases d2<;>(try (cases h;done))
     rename_i k1 k2
     cases eN:aQ P A.aG ty sl x<;>rw[eN] at h hx<;>simp only at h<;>first|(cases h;done)|skip
     obtain rfl:=aP h
     rw[hx.dL]
     exact .same S (by simp[convert,run_underlying gP,run_underlying mh,Conv.intToInt]) .int
    ·cases d2<;>(try (cases h;done))
     rename_i u
     cases eN:aQ P A.aG ty sl x<;>rw[eN] at h hx<;>simp only at h<;>first|(cases h;done)|skip
     rename_i id i c
     obtain ⟨l,h1⟩:=run_get h
     cases ab:hp id with
     | none=>rw[ab] at h1;cases h1
     | some blk=>
      rw[ab] at h1
      cases blk<;>simp only at h1<;>first|(cases h1;done)|skip
      rename_i T cs
      obtain ⟨U,h3⟩:=aK h1
      simp only[aM,aT] at U
      obtain ⟨rfl,h4,h5⟩:=U
      obtain ⟨b,hb,e1⟩:=hx.gf ab (by simp)
      obtain rfl:=aP h3
      obtain ⟨j,hj⟩:=xA.1 h4
      have cj:=hx
      rw[e1] at cj⊢
      exact .same S (Lib.run_from_unsafe w _ gP mh hj (fN ab hb) (by simpa using h5)) cj
    ·cases d2<;>(try (cases h;done))
     rename_i t
     cases eN:aQ P A.aG ty sl x<;>rw[eN] at h hx<;>simp only at h<;>first|(cases h;done)|skip
     rename_i id i c
     obtain ⟨l,h1⟩:=run_get h
     cases ab:hp id with
     | none=>rw[ab] at h1;cases h1
     | some blk=>
      rw[ab] at h1
      cases blk<;>simp only at h1<;>first|(cases h1;done)|skip
      rename_i T cs
      obtain ⟨U,h3⟩:=aK h1
      simp only[aM,aT,iY] at U
      obtain ⟨rfl,h4,h5⟩:=U
      obtain ⟨b,hb,e1⟩:=hx.gf ab (by simp)
      obtain rfl:=aP h3
      cases hj:P.info? t with
      | none=>rw[hj] at h5;cases h5
      | some j=>
       rw[hj] at h5
       simp only[lN] at h5
       have h6:j.size≠0:=fun e=>by rw[e] at h5;cases h5
       have cj:=hx
       rw[e1] at cj⊢
       exact .same S (Lib.run_to_unsafe w _ gP mh hj h6 (fN ab hb) (by simpa using h4)) cj
    ·rename_i e
     cases d2<;>(try (cases h;done))
     simp only at h
     cases he:P.underlying e with
     | none=>rw[he] at h;cases h
     | some d3=>
      rw[he] at h
      cases d3<;>(try (cases h;done))
      rename_i k
      cases k<;>(try (cases h;done))
      exact V1 S gP he mh hx h
 case fieldAddr s x f=>exact .val rfl (Uw S (hs.ev hg ty x) h)
 case field s x f=>exact .val rfl (Vu S (hs.ev hg ty x) h)
 case indexAddr t x y=>exact .val rfl (VD S (hs.ev hg ty x) (hs.ev hg 0 y) h)
 case index t x y=>
  have hx:=hs.ev hg ty x
  have hy:=hs.ev hg 0 y
  refine .val (s:=Instr.index t (a.eval x) (a.eval y)) rfl ?_
  cases hu:P.underlying t with
  | none=>rw[hu] at h;cases h
  | some d=>
   rw[hu] at h
   cases d<;>(try (cases h;done))
   cases eN:aQ P A.aG ty sl x<;>rw[eN] at h hx<;>(try (cases h;done))
   cases ra:aQ P A.aG 0 sl y<;>rw[ra] at h hy<;>(try (cases h;done))
   obtain ⟨s,e1,l1⟩:=hx.kZ
   rw[e1,hy.dL]
   exact Vw S hu l1 h
 case slice t x lo hi mx=>
  cases mx with
  | some m=>
   simp only at h
   refine .val (s:=Instr.sliceAt t (a.eval x) (lo.map a.eval) (hi.map a.eval) (some (a.eval m))) (by simp[execOp]) (VB S (hs.ev hg ty x) (fun hy=> ?_) (fun y hy=> ?_) (fun y hy=> ?_) h)
   ·cases lo with
    | none=>rfl
    | some l=>cases hy
   ·cases hi with
    | none=>cases hy
    | some l=>cases hy;exact ⟨_,rfl,hs.ev hg 0 l⟩
   ·cases hy;exact ⟨_,rfl,hs.ev hg 0 m⟩
  | none=>
   simp only at h
   have plain:(B1 P t (aQ P A.aG ty sl x) (lo.map (aQ P A.aG 0 sl)) (hi.map (aQ P A.aG 0 sl))).run C hp=some (r,rd)→nX P ((execOp a.eval ⟨dst,.slice t x lo hi none,ty,pos,after,guard⟩).run P w) w I β hp B M w0 r:=by
    intro h
    refine .val (s:=Instr.sliceAt t (a.eval x) (lo.map a.eval) (hi.map a.eval) none) (by simp[execOp]) (VA S (hs.ev hg ty x) (fun y hy=> ?_) (fun y hy=> ?_) (fun hy=> ?_) (fun hy=> ?_) h)
    ·cases lo with
     | none=>cases hy
     | some l=>cases hy;exact ⟨_,rfl,hs.ev hg 0 l⟩
    ·cases hi with
     | none=>cases hy
     | some l=>cases hy;exact ⟨_,rfl,hs.ev hg 0 l⟩
    ·cases lo with
     | none=>rfl
     | some l=>cases hy
    ·cases hi with
     | none=>rfl
     | some l=>cases hy
   have tr:(B4 P nb t (aQ P A.aG ty sl x) (lo.map (aQ P A.aG 0 sl)) (hi.map (aQ P A.aG 0 sl))).run C hp=some (r,rd)→nX P ((execOp a.eval ⟨dst,.slice t x lo hi none,ty,pos,after,guard⟩).run P w) w I β hp B M w0 r:=by
    intro h
    refine .val (s:=Instr.sliceAt t (a.eval x) (lo.map a.eval) (hi.map a.eval) none) (by simp[execOp]) (VG S (hs.ev hg ty x) (fun y hy=> ?_) (fun hy=> ?_) h)
    ·cases hi with
     | none=>cases hy
     | some l=>cases hy;exact ⟨_,rfl,hs.ev hg 0 l⟩
    ·cases lo with
     | none=>rfl
     | some l=>cases hy
   cases dst with
   | none=>exact plain h
   | some d=>
    simp only at h
    cases MA:jd A.uO d with
    | true=>rw[MA] at h;exact tr h
    | false=>rw[MA] at h;exact plain h
 case extract x i=>
  have hx:=hs.ev hg ty x
  cases eN:aQ P A.aG ty sl x<;>rw[eN] at h hx<;>simp only at h<;>first|(cases h;done)|skip
  exact .val (s:=Instr.extract (a.eval x) i) rfl (Vv S hx h)
 case makeSlice t l c=>
  have hl:=hs.ev hg 0 l
  have hc:=hs.ev hg 0 c
  refine .val (s:=Instr.makeSlice t (a.eval l) (a.eval c)) rfl ?_
  cases hu:P.underlying t with
  | none=>rw[hu] at h;cases h
  | some d=>
   rw[hu] at h
   cases d<;>(try (cases h;done))
   cases GZ:aQ P A.aG 0 sl l<;>rw[GZ] at h hl<;>(try (cases h;done))
   cases sJ:aQ P A.aG 0 sl c<;>rw[sJ] at h hc<;>(try (cases h;done))
   rw[hl.dL,hc.dL]
   cases dst with
   | none=>exact LZ S hu h
   | some d=>
    simp only at h
    cases hg:jd A.uO d with
    | true=>rw[hg] at h;exact Ve S hu h
    | false=>rw[hg] at h;exact LZ S hu h
 case call c=>
  obtain ⟨callee,args,argTypes⟩:=c
  cases callee with
  | invoke r m=>cases h
  | value f=>
   cases f with
   | func f=>cases GY
   | tmp f=>cases GY
   | _=>cases h
  | builtin b=>
   have one: ∀{x:Operand},args.toList=[x]→args= #[x]:=fun h=>by rw[←Array.toArray_toList (xs:=args),h]
   have pQ: ∀(s:Array TypeId→TypeId→Array Value→Sem Value),builtin b argTypes ty (args.map fun| .const _=>true|_=>false) (args.map a.eval)=(do Pure.pure (Next.value (←s argTypes ty (args.map a.eval))))→
     execOp a.eval ⟨dst,.call ⟨.builtin b,args,argTypes⟩,ty,pos,after,guard⟩=(do Pure.pure (Next.value (←s argTypes ty (args.map a.eval)))):=by
    intro s hb
    simp only[execOp,resolve,pure_bind,invoke]
    exact hb
   cases b<;>(try (cases h;done))
   case append=>
    simp only at h
    cases ha:args.toList with
    | nil=>rw[ha] at h;cases h
    | cons x l=>
     cases l with
     | nil=>rw[ha] at h;cases h
     | cons y l2=>
      cases l2 with
      | cons _ _=>rw[ha] at h;cases h
      | nil=>
       cases cX:argTypes.toList with
       | nil=>rw[ha,cX] at h;cases h
       | cons t l3=>
        cases l3 with
        | nil=>rw[ha,cX] at h;cases h
        | cons u l4=>
         cases l4 with
         | cons _ _=>rw[ha,cX] at h;cases h
         | nil=>
          rw[ha,cX] at h
          simp only at h
          have e1:args= #[x,y]:=by rw[←Array.toArray_toList (xs:=args),ha]
          have e2:argTypes= #[t,u]:=by rw[←Array.toArray_toList (xs:=argTypes),cX]
          cases hu:P.underlying t with
          | none=>rw[hu] at h;cases h
          | some d=>
           rw[hu] at h
           cases d<;>(try (cases h;done))
           cases hc:Nat.beq t u with
           | true=>
            rw[hc] at h
            rw[aT] at hc
            subst hc
            have:=Vh (ty:=ty) S hu (hs.ev hg t x) (hs.ev hg t y) h
            refine .val (pQ Builtin.append_ rfl) ?_
            rw[e1,e2]
            simpa using this
           | false=>
            rw[hc] at h
            simp only[cond_false] at h
            have hy:=hs.ev hg u y
            cases nf:P.underlying u with
            | none=>rw[nf] at h;cases h
            | some du=>
             rw[nf] at h
             cases du<;>(try (cases h;done))
             cases ra:aQ P A.aG u sl y<;>rw[ra] at h hy<;>(try (cases h;done))
             simp only at h
             obtain ⟨hb,h⟩:=aK h
             obtain ⟨s1,q1,q2⟩:=hy.kZ
             subst q2
             have:=V0 (ty:=ty) S hu nf (V9 hb) (hs.ev hg t x) h
             refine .val (pQ Builtin.append_ rfl) ?_
             rw[e1,e2]
             simpa[q1] using this
   case len=>
    simp only at h
    cases ha:args.toList with
    | nil=>rw[ha] at h;cases h
    | cons x l=>
     cases l with
     | cons _ _=>rw[ha] at h;cases h
     | nil=>
      cases cX:argTypes.toList with
      | nil=>rw[ha,cX] at h;cases h
      | cons t l3=>
       cases l3 with
       | cons _ _=>rw[ha,cX] at h;cases h
       | nil=>
        rw[ha,cX] at h
        simp only at h
        have e1:args= #[x]:=by rw[←Array.toArray_toList (xs:=args),ha]
        have e2:argTypes= #[t]:=by rw[←Array.toArray_toList (xs:=argTypes),cX]
        have hx:=hs.ev hg ty x
        refine .val (pQ Builtin.len_ rfl) ?_
        rw[e1,e2]
        cases hu:P.underlying t with
        | none=>rw[hu] at h;cases h
        | some d=>
         rw[hu] at h
         cases d<;>(try (cases h;done))
         ·cases eN:aQ P A.aG ty sl x<;>rw[eN] at h hx<;>(try (cases h;done))
          have:=Lk (t:=t) (ty:=ty) S hx (fun l hl=>hu) (fun hn=>absurd rfl (hn _)) h
          simpa using this
         ·have U:(∀l,aQ P A.aG ty sl x≠ .str l)∧(BW P (aQ P A.aG ty sl x)).run C hp=some (r,rd):=by
           cases eN:aQ P A.aG ty sl x<;>rw[eN] at h<;>first|(cases h;done)|exact ⟨fun l=>by simp,h⟩
          have:=Lk (t:=t) (ty:=ty) S hx (fun l hl=>absurd hl (U.1 l)) (fun _=>⟨_,hu⟩) U.2
          simpa using this
         ·have U:(B0 (aQ P A.aG ty sl x)).run C hp=some (r,rd):=by
           cases eN:aQ P A.aG ty sl x<;>rw[eN] at h<;>exact h
          have:=VU (t:=t) (ty:=ty) S hu hx U
          simpa using this
   case unsafeSliceData=>
    simp only at h
    cases ha:args.toList with
    | nil=>rw[ha] at h;cases h
    | cons x l=>
     cases l with
     | cons _ _=>rw[ha] at h;cases h
     | nil=>
      rw[ha] at h
      simp only at h
      have e1:args= #[x]:=by rw[←Array.toArray_toList (xs:=args),ha]
      have hx:=hs.ev hg ty x
      refine .val (pQ Builtin.unsafeSliceData_ rfl) ?_
      rw[e1]
      cases eN:aQ P A.aG ty sl x<;>rw[eN] at h hx<;>simp only at h<;>first|(cases h;done)|skip
      rename_i e id
      obtain ⟨l2,h1⟩:=run_get h
      cases ab:hp id with
      | none=>rw[ab] at h1;cases h1
      | some blk=>
       rw[ab] at h1
       cases blk<;>simp only at h1<;>first|(cases h1;done)|skip
       rename_i e' es fz
       obtain ⟨U,h3⟩:=aK h1
       simp only[aM,aT,iY] at U
       obtain ⟨rfl,h4⟩:=U
       obtain rfl:=aP h3
       have:=Wa (ts:=argTypes) (ty:=ty) S hx ab h4
       simpa using this
   case unsafeString=>
    simp only at h
    cases ha:args.toList with
    | nil=>rw[ha] at h;cases h
    | cons x l=>
     cases l with
     | nil=>rw[ha] at h;cases h
     | cons y l2=>
      cases l2 with
      | cons _ _=>rw[ha] at h;cases h
      | nil=>
       cases cX:argTypes.toList with
       | nil=>rw[ha,cX] at h;cases h
       | cons t l3=>
        cases l3 with
        | nil=>rw[ha,cX] at h;cases h
        | cons u l4=>
         cases l4 with
         | cons _ _=>rw[ha,cX] at h;cases h
         | nil=>
          rw[ha,cX] at h
          simp only at h
          have e1:args= #[x,y]:=by rw[←Array.toArray_toList (xs:=args),ha]
          have e2:argTypes= #[t,u]:=by rw[←Array.toArray_toList (xs:=argTypes),cX]
          have hx:=hs.ev hg ty x
          have hy:=hs.ev hg ty y
          cases hu:P.underlying t with
          | none=>rw[hu] at h;cases h
          | some d=>
           rw[hu] at h
           cases d<;>(try (cases h;done))
           rename_i e
           cases eN:aQ P A.aG ty sl x<;>rw[eN] at h hx<;>(try (cases h;done))
           cases ra:aQ P A.aG ty sl y<;>rw[ra] at h hy<;>(try (cases h;done))
           rename_i id i c k n
           cases k<;>(try (cases h;done))
           simp only at h
           obtain ⟨l2,h1⟩:=run_get h
           cases ab:hp id with
           | none=>rw[ab] at h1;cases h1
           | some blk=>
            rw[ab] at h1
            cases blk<;>simp only at h1<;>first|(cases h1;done)|skip
            rename_i e' es fz
            cases fz<;>simp only at h1<;>first|(cases h1;done)|skip
            obtain ⟨U,h3⟩:=aK h1
            simp only[aM,aT,eR,dw] at U
            obtain ⟨rfl,h4,rfl,rfl,h5,h6,h7,h8⟩:=U
            obtain rfl:=aP h3
            have:=Wb (u:=u) (ty:=ty) S hu h4 hx ab h5 h6 h7 h8
            refine .val (pQ Builtin.unsafeString_ rfl) ?_
            rw[e1,e2]
            simpa[hy.dL] using this
   case copy=>
    simp only at h
    cases ha:args.toList with
    | nil=>rw[ha] at h;cases h
    | cons x l=>
     cases l with
     | nil=>rw[ha] at h;cases h
     | cons y l2=>
      cases l2 with
      | cons _ _=>rw[ha] at h;cases h
      | nil=>
       cases cX:argTypes.toList with
       | nil=>rw[ha,cX] at h;cases h
       | cons t l3=>
        cases l3 with
        | nil=>rw[ha,cX] at h;cases h
        | cons u l4=>
         cases l4 with
         | cons _ _=>rw[ha,cX] at h;cases h
         | nil=>
          rw[ha,cX] at h
          simp only at h
          have e1:args= #[x,y]:=by rw[←Array.toArray_toList (xs:=args),ha]
          have e2:argTypes= #[t,u]:=by rw[←Array.toArray_toList (xs:=argTypes),cX]
          cases hu:P.underlying t with
          | none=>rw[hu] at h;cases h
          | some d=>
           rw[hu] at h
           cases d<;>(try (cases h;done))
           have:=Vo (u:=u) (ty:=ty) S hu (hs.ev hg t x) (hs.ev hg u y) h
           refine .val (pQ Builtin.copy_ rfl) ?_
           rw[e1,e2]
           simpa using this
   case clear=>
    simp only at h
    cases ha:args.toList with
    | nil=>rw[ha] at h;cases h
    | cons x l=>
     cases l with
     | cons _ _=>rw[ha] at h;cases h
     | nil=>
      cases cX:argTypes.toList with
      | nil=>rw[ha,cX] at h;cases h
      | cons t l3=>
       cases l3 with
       | cons _ _=>rw[ha,cX] at h;cases h
       | nil=>
        rw[ha,cX] at h
        simp only at h
        have e1:args= #[x]:=by rw[←Array.toArray_toList (xs:=args),ha]
        have e2:argTypes= #[t]:=by rw[←Array.toArray_toList (xs:=argTypes),cX]
        cases hu:P.underlying t with
        | none=>rw[hu] at h;cases h
        | some d=>
         rw[hu] at h
         cases d<;>(try (cases h;done))
         have:=Vp (ty:=ty) S hu (hs.ev hg t x) h
         refine .val (pQ Builtin.clear_ rfl) ?_
         rw[e1,e2]
         simpa using this
   case max=>
    simp only at h
    cases ha:args.toList with
    | nil=>rw[ha] at h;cases h
    | cons x l=>
     rw[ha] at h
     simp only at h
     have:=GF S true (vs:=l.map a.eval) (xs:=l.map (aQ P A.aG ty sl)) (hs.ev hg ty x) (by simp) (fun j u y hu hy=>by
      simp only[fX] at hu hy
      cases hl:l[j]? with
      | none=>rw[hl] at hu;cases hu
      | some z=>rw[hl] at hu hy;cases hu;cases hy;exact hs.ev hg ty z) h
     refine .val (pQ Builtin.max_ rfl) ?_
     simpa[Builtin.max_,ha] using this
   case min=>
    simp only at h
    cases ha:args.toList with
    | nil=>rw[ha] at h;cases h
    | cons x l=>
     rw[ha] at h
     simp only at h
     have:=GF S false (vs:=l.map a.eval) (xs:=l.map (aQ P A.aG ty sl)) (hs.ev hg ty x) (by simp) (fun j u y hu hy=>by
      simp only[fX] at hu hy
      cases hl:l[j]? with
      | none=>rw[hl] at hu;cases hu
      | some z=>rw[hl] at hu hy;cases hu;cases hy;exact hs.ev hg ty z) h
     refine .val (pQ Builtin.min_ rfl) ?_
     simpa[Builtin.min_,ha] using this
end
section
variable {P:Program} {A:cl} {w w':World} {I I' I2:Nat→Prop} {μ β β':Nat→Option Nat} {hp hp':Nat→Option ak} {C:af} {B:Nat} {M:Nat→Prop} {w0:Start}
theorem vu: ∀{l m:List Nat},dO.mT l m=true→l=m
 | [],[],_=>rfl
 | [],_::_,h=>by cases h
 | _::_,[],h=>by cases h
 | a::l,b::m,h=>by
  simp only[dO.mT,aM,aT] at h
  rw[h.1,vu h.2]
@[simp] theorem MB (n:Nat):jK (dc n)=n:=by simp[jK,dc,V.toInt]
theorem C2: ∀(path:List (Nat × Nat)) (rest:List V),xU (path.map (·.2)) ((path.map fun p=>dc p.1)++rest)=path
 | [],_=>rfl
 | p::l,rest=>by
  simp only[dB,List.cons_append,xU,V.nth,MB,dG,dh,C2 l rest]
theorem C3 {l:LS} {x:V} {ds:List V} (h:dO l x=some ds):ds.length=l.size∧(l= .pe∨∀rest,gL l (ds++rest)=x):=by
 cases l with
 | pe=>simp only[dO,dA] at h;subst h;exact ⟨rfl,.inl rfl⟩
 | int k=>
  cases x<;>simp only[dO] at h<;>first|(cases h;done)|skip
  rename_i k' n
  by_cases hk:k=k'
  ·subst hk
   simp only[nH,cond_true,dA] at h
   subst h
   exact ⟨rfl,.inr fun _=>rfl⟩
  ·simp[hk] at h
 | bool=>
  cases x<;>simp only[dO] at h<;>first|(cases h;done)|skip
  cases h
  exact ⟨rfl,.inr fun _=>rfl⟩
 | str=>
  cases x<;>simp only[dO] at h<;>first|(cases h;done)|skip
  cases h
  exact ⟨rfl,.inr fun _=>rfl⟩
 | list e=>
  cases x<;>simp only[dO] at h<;>first|(cases h;done)|skip
  rename_i e' es
  cases hb:Nat.beq e e' with
  | false=>rw[hb] at h;cases h
  | true=>
   rw[hb] at h
   rw[aT] at hb
   subst hb
   cases h
   exact ⟨rfl,.inr fun _=>rfl⟩
 | whole e j=>
  cases x<;>simp only[dO] at h<;>first|(cases h;done)|skip
  rename_i e' id
  cases hb:(Nat.beq e e'&&Nat.beq j id) with
  | false=>rw[hb] at h;cases h
  | true=>
   rw[hb] at h
   simp only[aM,aT] at hb
   obtain ⟨rfl,rfl⟩:=hb
   cases h
   exact ⟨rfl,.inr fun _=>rfl⟩
 | sub e j=>
  cases x<;>simp only[dO] at h<;>first|(cases h;done)|skip
  rename_i e' id o n
  cases hb:(Nat.beq e e'&&Nat.beq j id) with
  | false=>rw[hb] at h;cases h
  | true=>
   rw[hb] at h
   simp only[aM,aT] at hb
   obtain ⟨rfl,rfl⟩:=hb
   cases h
   exact ⟨rfl,.inr fun _=>by simp[gL,V.nth]⟩
 | ptr j=>
  cases x<;>simp only[dO] at h<;>first|(cases h;done)|skip
  rename_i id i c
  cases hb:(Nat.beq j id) with
  | false=>rw[hb] at h;cases h
  | true=>
   rw[hb] at h
   rw[aT] at hb
   subst hb
   cases h
   exact ⟨rfl,.inr fun _=>by simp[gL,V.nth]⟩
 | aN j i c=>
  cases x<;>simp only[dO] at h<;>first|(cases h;done)|skip
  rename_i id i' c'
  cases hb:(Nat.beq j id&&(Nat.beq i i'&&Nat.beq c c')) with
  | false=>rw[hb] at h;cases h
  | true=>
   rw[hb] at h
   simp only[aM,aT] at hb
   obtain ⟨rfl,rfl,rfl⟩:=hb
   cases h
   exact ⟨rfl,.inr fun _=>rfl⟩
 | nilS e=>
  cases x<;>simp only[dO] at h<;>first|(cases h;done)|skip
  rename_i e'
  cases hb:Nat.beq e e' with
  | false=>rw[hb] at h;cases h
  | true=>
   rw[hb] at h
   rw[aT] at hb
   subst hb
   cases h
   exact ⟨rfl,.inr fun _=>rfl⟩
 | c8=>
  cases x<;>simp only[dO] at h<;>first|(cases h;done)|skip
  cases h
  exact ⟨rfl,.inr fun _=>rfl⟩
 | cv e j=>
  cases x<;>simp only[dO] at h<;>first|(cases h;done)|skip
  rename_i e' id
  cases hb:(Nat.beq e e'&&Nat.beq j id) with
  | false=>rw[hb] at h;cases h
  | true=>
   rw[hb] at h
   simp only[aM,aT] at hb
   obtain ⟨rfl,rfl⟩:=hb
   cases h
   exact ⟨rfl,.inr fun _=>rfl⟩
 | db e=>
  cases x<;>simp only[dO] at h<;>first|(cases h;done)|skip
  rename_i e'
  cases hb:Nat.beq e e' with
  | false=>rw[hb] at h;cases h
  | true=>
   rw[hb] at h
   rw[aT] at hb
   subst hb
   cases h
   exact ⟨rfl,.inr fun _=>rfl⟩
 | BO k n=>
  cases x<;>simp only[dO] at h<;>first|(cases h;done)|skip
  rename_i k' m
  cases hb:(decide (k=k')&&decide (m=n)) with
  | false=>rw[hb] at h;cases h
  | true=>
   rw[hb] at h
   simp only[aM,dw] at hb
   obtain ⟨rfl,rfl⟩:=hb
   cases h
   exact ⟨rfl,.inr fun _=>rfl⟩
 | BP b=>
  cases x<;>simp only[dO] at h<;>first|(cases h;done)|skip
  rename_i c
  cases hb:decide (b=c) with
  | false=>rw[hb] at h;cases h
  | true=>
   rw[hb] at h
   obtain rfl:=iB hb
   cases h
   exact ⟨rfl,.inr fun _=>rfl⟩
 | row e j cs=>
  cases x<;>simp only[dO] at h<;>first|(cases h;done)|skip
  rename_i e' id ver path
  cases hb:(Nat.beq e e'&&(Nat.beq j id&&(Nat.beq ver 0&&dO.mT cs (path.map (·.2))))) with
  | false=>rw[hb] at h;cases h
  | true=>
   rw[hb] at h
   simp only[aM,aT] at hb
   obtain ⟨rfl,rfl,rfl,m9⟩:=hb
   have:=vu m9
   subst this
   cases h
   exact ⟨by simp[LS.size],.inr fun rest=>by simp only[gL,C2]⟩
 | cu j cs c=>
  cases x<;>simp only[dO] at h<;>first|(cases h;done)|skip
  rename_i id ver path i c'
  cases hb:(Nat.beq j id&&(Nat.beq ver 0&&(Nat.beq c c'&&dO.mT cs (path.map (·.2))))) with
  | false=>rw[hb] at h;cases h
  | true=>
   rw[hb] at h
   simp only[aM,aT] at hb
   obtain ⟨rfl,rfl,rfl,m9⟩:=hb
   have:=vu m9
   subst this
   cases h
   exact ⟨by simp[LS.size],.inr fun rest=>by simp only[gL,List.cons_append,V.nth,MB,dG,dh,C2]⟩
def LS.below (n:Nat) (x:V):Prop:= ∀id∈dP x,id<n
def MC:V→Prop
 | .agg _=>False
 | .bh _=>False
 | .fn .. =>False
 | .pref .. =>False
 | _=>True
theorem sR {c:Bool} {a d:List V} (h:(bif c then some a else none)=some d):c=true:=by
 cases c with
 | true=>rfl
 | false=>cases h
theorem We {l:LS} {x:V} {ds:List V} {n:Nat} (h:dO l x=some ds) (hl:l≠ .pe) (ar:l.ok n=true):MC x∧LS.below n x:=by
 cases l<;>cases x<;>simp only[dO] at h<;>first|(cases h;done)|(exact absurd rfl hl)|skip
 all_goals refine ⟨trivial,fun id ab=> ?_⟩
 all_goals simp only[dP,fM,List.not_mem_nil] at ab
 all_goals subst ab
 all_goals simp only[LS.ok,iY] at ar
 all_goals
  have hb:=sR h
  simp only[aM,aT] at hb
  omega
theorem ao.Wf {v:Value} {x:V} (h:ao P w I β hp v x) (hx:MC x) (hs: ∀id∈dP x,hp' id=hp id∧β' id=β id):ao P w I β' hp' v x:=by
 have one: ∀{id},id∈dP x→hp' id=hp id∧β' id=β id:=fun h=>hs _ h
 cases h with
 | undef=>exact .undef
 | int=>exact .int
 | bool=>exact .bool
 | str h=>exact .str h
 | list h=>exact .list h
 | nilS=>exact .nilS
 | agg=>exact hx.elim
 | bh=>exact hx.elim
 | c8=>exact .c8
 | fn=>exact hx.elim
 | pref=>exact hx.elim
 | dI h=>exact .dI ((one (by simp[dP])).1.trans h)
 | fB h=>exact .fB ((one (by simp[dP])).1.trans h)
 | jl h=>exact .jl ((one (by simp[dP])).1.trans h)
 | dk h hb=>exact .dk ((one (by simp[dP])).1.trans h) ((one (by simp[dP])).2.trans hb)
 | whole h hb a b c=>exact .whole ((one (by simp[dP])).1.trans h) ((one (by simp[dP])).2.trans hb) a b c
 | dQ h hb a b c=>exact .dQ ((one (by simp[dP])).1.trans h) ((one (by simp[dP])).2.trans hb) a b c
 | fk h hb=>exact .fk ((one (by simp[dP])).1.trans h) ((one (by simp[dP])).2.trans hb)
 | sub h hb a b c=>exact .sub ((one (by simp[dP])).1.trans h) ((one (by simp[dP])).2.trans hb) a b c
 | ptr h hd hb=>exact .ptr ((one (by simp[dP])).1.trans h) hd ((one (by simp[dP])).2.trans hb)
 | iF h pM=>exact .iF ((one (by simp[dP])).1.trans h) pM
 | iG h pM=>exact .iG ((one (by simp[dP])).1.trans h) pM
 | row h hb a b c d=>exact .row ((one (by simp[dP])).1.trans h) ((one (by simp[dP])).2.trans hb) a b c d
 | cu h hb a b c d e=>exact .cu ((one (by simp[dP])).1.trans h) ((one (by simp[dP])).2.trans hb) a b c d e
 | db=>exact .db
 | gB h=>exact .gB ((one (by simp[dP])).1.trans h)
 | cv h hb=>exact .cv ((one (by simp[dP])).1.trans h) ((one (by simp[dP])).2.trans hb)
theorem mi {a b:List V} {n:Nat} (h:a.length=n):(a++b).drop n=b:=by subst h;simp
def yM (n:Nat) (β:Nat→Option Nat) (hp:Nat→Option ak) (β':Nat→Option Nat) (hp':Nat→Option ak):Prop:= ∀id,id<n→hp' id=hp id∧β' id=β id
theorem MD {l:LS} {x:V} {ds:List V} {n:Nat} {v:Value} (h:dO l x=some ds) (ar:l.ok n=true) (gW:yM n β hp β' hp') (hv:ao P w I β hp v x) (rest:List V):
  ao P w I β' hp' v (gL l (ds++rest)):=by
 rcases (C3 h).2 with e|e
 ·subst e;exact .undef
 ·rw[e rest]
  by_cases hu:l= .pe
  ·subst hu
   have:x= .undef:=(e rest).symm
   subst this
   exact .undef
  ·obtain ⟨h1,U⟩:=We h hu ar
   exact hv.Wf h1 fun id ab=>gW id (U id ab)
theorem yN {n:Nat} (gW:yM n β hp β' hp'): ∀{ls:List LS} {xs:List V} {ds:List V},nS ls xs=some ds→ls.all (LS.ok n)=true→
  ds.length=jg ls∧(∀rest,(gr ls (ds++rest)).length=xs.length)∧
  ∀(rest:List V) (j:Nat) (v:Value) (y:V),(∀x,xs[j]? =some x→ao P w I β hp v x)→(gr ls (ds++rest))[j]? =some y→ao P w I β' hp' v y
 | [],[],ds,h,_=>by cases h;exact ⟨rfl,fun _=>rfl,fun rest j v y _ hy=>by simp[gr] at hy⟩
 | [],_::_,ds,h,_=>by cases h
 | _::_,[],ds,h,_=>by cases h
 | l::ls,x::xs,ds,h,ar=>by
  simp only[nS] at h
  obtain ⟨a,h1,h⟩:=bind_some h
  obtain ⟨b,U,h⟩:=bind_some h
  cases h
  simp only[List.all_cons,aM] at ar
  obtain ⟨i1,i2,i3⟩:=yN gW U ar.2
  have b9:=(C3 h1).1
  have hd: ∀rest,(a++b++rest).drop l.size=b++rest:=fun rest=>by rw[da];exact mi b9
  refine ⟨by simp only[dM,jg];omega,fun rest=>by simp only[gr,List.length_cons,hd,i2],fun rest j v y hv hy=> ?_⟩
  simp only[gr,hd] at hy
  cases j with
  | zero=>
   simp at hy
   subst hy
   exact MD h1 ar.1 gW (hv x rfl) _
  | succ j=>exact i3 rest j v y (fun x hx=>hv x (by simpa using hx)) (by simpa using hy)
theorem G0: ∀{ls:List LS} {xs:List V} {ds:List V},nS ls xs=some ds→ls.all LS.plain=true→ds.length=jg ls∧∀rest,gr ls (ds++rest)=xs
 | [],[],ds,h,_=>by cases h;exact ⟨rfl,fun _=>rfl⟩
 | [],_::_,ds,h,_=>by cases h
 | _::_,[],ds,h,_=>by cases h
 | l::ls,x::xs,ds,h,ar=>by
  simp only[nS] at h
  obtain ⟨a,h1,h⟩:=bind_some h
  obtain ⟨b,U,h⟩:=bind_some h
  cases h
  simp only[List.all_cons,aM] at ar
  obtain ⟨i1,i2⟩:=G0 U ar.2
  obtain ⟨b9,hm⟩:=C3 h1
  refine ⟨by simp only[dM,jg];omega,fun rest=> ?_⟩
  simp only[gr]
  rw[show (a++b++rest).drop l.size=b++rest by rw[da];exact mi b9,i2,da]
  rcases hm with e|e
  ·subst e;cases ar.1
  ·rw[e]
theorem G1 {n:Nat} (gW:yM n β hp β' hp') {s:VS} {x:V} {ds:List V} (h:nT s x=some ds) (ar:s.ok n=true):
  ds.length=s.size∧∀(rest:List V) (v:Value),ao P w I β hp v x→ao P w I β' hp' v (jM s (ds++rest)):=by
 cases s with
 | one l=>exact ⟨(C3 h).1,fun rest v hv=>MD h ar gW hv rest⟩
 | agg ls=>
  cases x<;>simp only[nT] at h<;>first|(cases h;done)|skip
  rename_i xs
  obtain ⟨i1,i2,i3⟩:=yN (P:=P) (w:=w) (I:=I) gW h ar
  refine ⟨i1,fun rest v hv=> ?_⟩
  obtain ⟨cs,rfl,e1,e2⟩:=hv.jR
  exact .agg (by rw[i2];exact e1) fun j v y hj hy=>i3 rest j v y (fun x hx=>e2 j v x hj hx) hy
 | bh ls=>
  cases x<;>simp only[nT] at h<;>first|(cases h;done)|skip
  rename_i xs
  obtain ⟨i1,i2,i3⟩:=yN (P:=P) (w:=w) (I:=I) gW h ar
  refine ⟨i1,fun rest v hv=> ?_⟩
  obtain ⟨cs,rfl,e1,e2⟩:=hv.sA
  exact .bh (by rw[i2];exact e1) fun j v y hj hy=>i3 rest j v y (fun x hx=>e2 j v x hj hx) hy
 | fn f a b=>
  cases x<;>simp only[nT] at h<;>first|(cases h;done)|skip
  rename_i f' xs ys
  cases hb:Nat.beq f f' with
  | false=>rw[hb] at h;cases h
  | true=>
   rw[hb] at h
   rw[aT] at hb
   subst hb
   simp only[cond_true] at h
   obtain ⟨p,h1,h⟩:=bind_some h
   obtain ⟨q,U,h⟩:=bind_some h
   cases h
   simp only[VS.ok,aM] at ar
   obtain ⟨i1,i2,i3⟩:=yN (P:=P) (w:=w) (I:=I) gW h1 ar.1
   obtain ⟨j1,j2,j3⟩:=yN (P:=P) (w:=w) (I:=I) gW U ar.2
   refine ⟨by simp only[dM,VS.size];omega,fun rest v hv=> ?_⟩
   cases hv with
   | fn a1 a2 b1 b2=>
    simp only[jM]
    rw[show (p++q++rest).drop (jg a)=q++rest by rw[da];exact mi i1,da]
    exact .fn (by rw[i2];exact a1) (fun j v y hj hy=>i3 _ j v y (fun x hx=>a2 j v x hj hx) hy) (by rw[j2];exact b1) (fun j v y hj hy=>j3 _ j v y (fun x hx=>b2 j v x hj hx) hy)
 | pref ts ls=>
  cases x<;>simp only[nT] at h<;>first|(cases h;done)|skip
  rename_i uW xs
  cases hb:dO.mT ts uW with
  | false=>rw[hb] at h;cases h
  | true=>
   rw[hb] at h
   have:=vu hb
   subst this
   simp only[cond_true] at h
   refine ⟨?_,fun rest v hv=> ?_⟩
   ·exact (G0 h ar).1
   ·simp only[jM]
    rw[(G0 h ar).2]
    cases hv with
    | pref hl hI hc=>exact .pref hl hI hc
theorem yO {n:Nat} (gW:yM n β hp β' hp'): ∀{ls:List VS} {xs:List V} {ds:List V},o5 ls xs=some ds→ls.all (VS.ok n)=true→
  ds.length=qK ls∧(∀rest,(eT ls (ds++rest)).length=xs.length)∧
  ∀(rest:List V) (j:Nat) (v:Value) (y:V),(∀x,xs[j]? =some x→ao P w I β hp v x)→(eT ls (ds++rest))[j]? =some y→ao P w I β' hp' v y
 | [],[],ds,h,_=>by cases h;exact ⟨rfl,fun _=>rfl,fun rest j v y _ hy=>by simp[eT] at hy⟩
 | [],_::_,ds,h,_=>by cases h
 | _::_,[],ds,h,_=>by cases h
 | l::ls,x::xs,ds,h,ar=>by
  simp only[o5] at h
  obtain ⟨a,h1,h⟩:=bind_some h
  obtain ⟨b,U,h⟩:=bind_some h
  cases h
  simp only[List.all_cons,aM] at ar
  obtain ⟨i1,i2,i3⟩:=yO gW U ar.2
  obtain ⟨b9,vp⟩:=G1 (P:=P) (w:=w) (I:=I) gW h1 ar.1
  have hd: ∀rest,(a++b++rest).drop l.size=b++rest:=fun rest=>by rw[da];exact mi b9
  refine ⟨by simp only[dM,qK];omega,fun rest=>by simp only[eT,List.length_cons,hd,i2],fun rest j v y hv hy=> ?_⟩
  simp only[eT,hd] at hy
  cases j with
  | zero=>
   simp at hy
   subst hy
   exact vp _ v (hv x rfl)
  | succ j=>exact i3 rest j v y (fun x hx=>hv x (by simpa using hx)) (by simpa using hy)
end
section
variable {P:Program} {A:cl} {w w':World} {I I' I2:Nat→Prop} {μ β β':Nat→Option Nat} {hp hp' hp0:Nat→Option ak} {C:af} {B:Nat} {M:Nat→Prop} {w0:Start}
theorem gi: ∀{l:List ak} {j:Nat},iE l j=l[j]?
 | [],j=>by simp[iE]
 | b::l,0=>rfl
 | b::l,j+1=>by simp only[iE,gi,List.getElem?_cons_succ]
theorem G2 {sl:Nat→V} {k:Nat} {y:V}: ∀{l:List (Nat × VS)} {ds:List V},xS sl l=some ds→(∀p∈l,∀d,nT p.2 (sl p.1)=some d→d.length=p.2.size)→
  ds.length=mU l∧∀rest,dj (eK l (ds++rest)) k=some y→∃s d fF,(k,s)∈l∧nT s (sl k)=some d∧y=jM s (d++fF)
 | [],ds,h,_=>by cases h;exact ⟨rfl,fun rest h=>by cases h⟩
 | (q,s)::l,ds,h,hz=>by
  simp only[xS] at h
  obtain ⟨a,h1,h⟩:=bind_some h
  obtain ⟨b,U,h⟩:=bind_some h
  cases h
  obtain ⟨i1,i2⟩:=G2 (k:=k) (y:=y) U fun p hp=>hz p (j9 _ hp)
  have b9:=hz (q,s) (qA ..) a h1
  refine ⟨by simp only[dM,mU];simp only at b9;omega,fun rest hl=> ?_⟩
  simp only[eK,dj] at hl
  rw[show (a++b++rest).drop s.size=b++rest by rw[da];exact mi b9] at hl
  cases hb:Nat.beq k q with
  | true=>
   rw[hb] at hl
   rw[aT] at hb
   subst hb
   cases hl
   exact ⟨s,a,b++rest,qA ..,h1,by rw[da]⟩
  | false=>
   rw[hb] at hl
   obtain ⟨s',d,fF,m1,m2,m3⟩:=i2 rest hl
   exact ⟨s',d,fF,j9 _ m1,m2,m3⟩
theorem G3 {α:Type} {c:Bool} {x:Option α} {a:α} (h:(bif c then x else none)=some a):c=true∧x=some a:=by
 cases c with
 | true=>exact ⟨rfl,h⟩
 | false=>cases h
theorem Wg {n:Nat} {b:BS} {o:Option ak} {ds:List V} (h:jL b o=some ds) (ar:b.ok n=true):ds.length=b.size:=by
 cases b with
 | dead=>cases o<;>(cases h;rfl)
 | var T0 ls=>
  cases o with
  | none=>cases h
  | some blk=>
   cases blk<;>simp only[jL] at h<;>first|(cases h;done)|skip
   exact (yO (P:=default) (w:=default) (I:=fun _=>False) (β:=fun _=>none) (hp:=fun _=>none) (fun _ _=>⟨rfl,rfl⟩) (G3 h).2 ar).1
 | arr e fz=>
  cases o with
  | none=>cases h
  | some blk=>
   cases blk<;>simp only[jL] at h<;>first|(cases h;done)|skip
   rw[sR h] at h
   cases h
   rfl
 | nest e=>
  cases o with
  | none=>cases h
  | some blk=>
   cases blk<;>simp only[jL] at h<;>first|(cases h;done)|skip
   rw[sR h] at h
   cases h
   rfl
 | map t=>
  cases o with
  | none=>cases h
  | some blk=>
   cases blk<;>simp only[jL] at h<;>first|(cases h;done)|skip
   rw[sR h] at h
   cases h
   rfl
theorem ME {n:Nat}: ∀{l:List BS} {j:Nat} {ds:List V},xT hp j l=some ds→l.all (BS.ok n)=true→
  (∀rest,(dY l (ds++rest)).length=l.length)∧∀(rest:List V) (i:Nat) (blk:ak),(dY l (ds++rest))[i]? =some blk→∃b d fF,l[i]? =some b∧b.ok n=true∧jL b (hp (j+i))=some d∧blk=ff b (d++fF)
 | [],j,ds,h,_=>by cases h;exact ⟨fun _=>rfl,fun rest i blk hb=>by simp[dY] at hb⟩
 | b::l,j,ds,h,ar=>by
  simp only[xT] at h
  obtain ⟨a,h1,h⟩:=bind_some h
  obtain ⟨c,U,h⟩:=bind_some h
  cases h
  simp only[List.all_cons,aM] at ar
  obtain ⟨i1,i2⟩:=ME U ar.2
  have b9:=Wg h1 ar.1
  have hd: ∀rest,(a++c++rest).drop b.size=c++rest:=fun rest=>by rw[da];exact mi b9
  refine ⟨fun rest=>by simp only[dY,List.length_cons,hd,i1],fun rest i blk hb=> ?_⟩
  simp only[dY,hd] at hb
  cases i with
  | zero=>
   simp at hb
   exact ⟨b,a,c++rest,rfl,ar.1,h1,by rw[←hb]⟩
  | succ i=>
   obtain ⟨b',d,fF,m1,m2,m3,m4⟩:=i2 rest i blk (by simpa using hb)
   exact ⟨b',d,fF,by simpa using m1,m2,by rw[show j+(i+1)=j+1+i by omega];exact m3,m4⟩
theorem Wh {n:Nat} {b:BS} {blk:ak} {ds rest:List V} (h:jL b (some blk)=some ds) (ar:b.ok n=true):
  blk.le (ff b (ds++rest))∧(ff b (ds++rest)= .dead∨ff b (ds++rest)=blk∨∃T ls cs,b= .var T ls∧blk= .var T cs∧o5 ls cs=some ds∧ff b (ds++rest)= .var T (eT ls (ds++rest))):=by
 cases b with
 | dead=>exact ⟨by cases blk<;>trivial,.inl rfl⟩
 | var T0 ls=>
  cases blk<;>simp only[jL] at h<;>first|(cases h;done)|skip
  obtain ⟨hT,h0⟩:=G3 h
  clear h
  rw[aT] at hT
  subst hT
  exact ⟨rfl,.inr (.inr ⟨_,_,_,rfl,rfl,h0,rfl⟩)⟩
 | arr e fz=>
  cases blk<;>simp only[jL] at h<;>first|(cases h;done)|skip
  rename_i e' es lU
  have hb:=sR h
  simp only[aM,aT,beq_iff_eq] at hb
  obtain ⟨rfl,rfl⟩:=hb
  simp only[iC,beq_self_eq_true,Bool.and_self,cond_true,dA] at h
  subst h
  exact ⟨⟨rfl,rfl⟩,.inr (.inl rfl)⟩
 | nest e=>
  cases blk<;>simp only[jL] at h<;>first|(cases h;done)|skip
  rename_i e' es aq
  have hb:=sR h
  simp only[aM,aT] at hb
  obtain ⟨rfl,hv⟩:=hb
  have:=vu hv
  subst this
  simp only[iC,kb] at h
  cases h
  exact ⟨⟨rfl,rfl,rfl,fun _=>bQ _⟩,.inr (.inl rfl)⟩
 | map t=>
  cases blk<;>simp only[jL] at h<;>first|(cases h;done)|skip
  rename_i t' es
  have hb:=sR h
  rw[aT] at hb
  subst hb
  simp only[iC,cond_true,dA] at h
  subst h
  exact ⟨rfl,.inr (.inl rfl)⟩
theorem MF {m:Nat} {S:Shape} {st:St} {ds:List V} (h:gM m S st=some ds):
  S.ok=true∧m≤S.aY.length∧∃a b,xS st.sl S.bw=some a∧xT st.hp 0 S.aY=some b∧ds=a++b:=by
 unfold gM at h
 cases hc:(S.ok&&Nat.ble m S.aY.length) with
 | false=>rw[hc] at h;cases h
 | true=>
  rw[hc] at h
  simp only[cond_true] at h
  simp only[aM,eR] at hc
  obtain ⟨a,h1,h⟩:=bind_some h
  obtain ⟨b,U,h⟩:=bind_some h
  cases h
  exact ⟨hc.1,hc.2,a,b,h1,U,rfl⟩
theorem reshape {m:Nat} {S:Shape} {st:St} {ds:List V} (h:gM m S st=some ds) (hS:aH P w I β st.hp B M w0):
  aH P w I β (bf S ds).hp B M w0∧(∀(k:Nat) (v:Value),ao P w I β st.hp v (st.sl k)→ao P w I β (bf S ds).hp v ((bf S ds).sl k))∧
  (∀(μ:Nat→Option Nat) (hp0:Nat→Option ak),(∀id blk,hp0 id=some blk→id<m)→Le P w0.w w0.I μ hp0 w I β st.hp→Le P w0.w w0.I μ hp0 w I β (bf S ds).hp)∧
  ∀j blk',(bf S ds).hp j=some blk'→blk'≠ .dead→∃blk,st.hp j=some blk∧blk.le blk'∧∀o b,br P w o blk' b→br P w o blk b:=by
 obtain ⟨ar,hm,a,b,h1,U,rfl⟩:=MF h
 unfold Shape.ok at ar
 rw[aM] at ar
 obtain ⟨MG,GH⟩:=ar
 have aW: ∀p∈S.bw,∀d,nT p.2 (st.sl p.1)=some d→d.length=p.2.size:=fun p hp d hd=>
  (G1 (P:=P) (w:=w) (I:=I) (β:=β) (hp:=st.hp) (fun _ _=>⟨rfl,rfl⟩) hd (eS.1 MG p hp)).1
 have b9:a.length=mU S.bw:=(G2 (k:=0) (y:= .undef) h1 aW).1
 have CS:(bf S (a++b)).hp=iE (dY S.aY (b++[])):=by
  simp only[bf,mk,eI]
  rw[mi b9]
 obtain ⟨bl,bg⟩:=ME U GH
 have get: ∀j blk',(bf S (a++b)).hp j=some blk'→j<S.aY.length∧∃bs d fF,bs.ok S.aY.length=true∧jL bs (st.hp j)=some d∧blk'=ff bs (d++fF):=by
  intro j blk' hj
  rw[CS,gi] at hj
  obtain ⟨bs,d,fF,m1,m2,m3,m4⟩:=bg [] j blk' hj
  rw[ia] at m3
  exact ⟨(bj.1 m1).1,bs,d,fF,m2,m3,m4⟩
 have have': ∀j,j<S.aY.length→∃blk',(bf S (a++b)).hp j=some blk':=by
  intro j hj
  rw[CS,gi]
  exact ⟨_,bO (by rw[bl];exact hj)⟩
 generalize gb:(bf S (a++b)).hp=sS at*
 let bm:Nat→Option ak:=fun id=>if id<S.aY.length then sS id else st.hp id
 have back: ∀j blk',sS j=some blk'→blk'≠ .dead→∃blk,st.hp j=some blk∧blk.le blk'∧(blk'=blk∨∃T ls cs d fF,ls.all (VS.ok S.aY.length)=true∧blk= .var T cs∧o5 ls cs=some d∧blk'= .var T (eT ls (d++fF))):=by
  intro j blk' hj hd
  obtain ⟨b8,bs,d,fF,m1,m2,m3⟩:=get j blk' hj
  cases bL:st.hp j with
  | none=>
   rw[bL] at m2
   cases bs<;>simp only[jL] at m2<;>first|(cases m2;done)|skip
   exact absurd m3 hd
  | some blk=>
   rw[bL] at m2
   obtain ⟨n1,n2⟩:=Wh (rest:=fF) m2 m1
   rw[←m3] at n1 n2
   refine ⟨blk,rfl,n1,?_⟩
   rcases n2 with e|e|⟨T,ls,cs,e1,e2,e3,e4⟩
   ·exact absurd e hd
   ·exact .inl e
   ·subst e1
    exact .inr ⟨T,ls,cs,d,fF,m1,e2,e3,e4⟩
 have Wi: ∀j blk,st.hp j=some blk→j<S.aY.length→∃blk',sS j=some blk'∧blk.le blk':=by
  intro j blk hj b8
  obtain ⟨blk',aC⟩:=have' j b8
  refine ⟨blk',aC,?_⟩
  by_cases hd:blk'= .dead
  ·subst hd;cases blk<;>trivial
  ·obtain ⟨bV,e1,e2,_⟩:=back j blk' aC hd
   rw[hj] at e1;cases e1
   exact e2
 have Wj: ∀j e es aq e' aO vers',st.hp j=some (.nest e es aq)→sS j=some (.nest e' aO vers')→e'=e∧aO=es∧vers'=aq:=by
  intro j e es aq e' aO vers' hj fm
  obtain ⟨blk,e1,_,e3⟩:=back j _ fm (by simp)
  rw[hj] at e1;cases e1
  rcases e3 with e3|⟨_,_,_,_,_,_,e3,_⟩
  ·cases e3;exact ⟨rfl,rfl,rfl⟩
  ·cases e3
 have hle:Le P w I β st.hp w I β bm:=by
  refine ⟨fun _ h=>h,fun _ _=>rfl,fun id blk ab=> ?_,fun _ _ _ _ _ _ _ _=>rfl,Le.qQ (fun _ _ _ _ _ _=>rfl) fun id e es aq e' aO vers' ab bz=> ?_⟩
  ·by_cases hl:id<S.aY.length
   ·obtain ⟨blk',e1,e2⟩:=Wi id blk ab hl
    exact ⟨blk',by simp only[bm,ag hl];exact e1,e2,fun _=>rfl⟩
   ·exact ⟨blk,by simp only[bm,ai hl];exact ab,ak.le_refl _,fun _=>rfl⟩
  ·by_cases hl:id<S.aY.length
   ·simp only[bm,ag hl] at bz
    exact Wj _ _ _ _ _ _ _ ab bz
   ·simp only[bm,ai hl] at bz
    rw[ab] at bz;cases bz
    exact ⟨rfl,rfl,rfl⟩
 have gW:yM S.aY.length β bm β sS:=fun id ab=>⟨by simp only[bm,ag ab],rfl⟩
 have vi: ∀j blk' blk o b,sS j=some blk'→st.hp j=some blk→br P w o blk' b→br P w o blk b:=by
  intro j blk' blk o b fm hj ho
  obtain ⟨bV,e1,_,e3⟩:=back j blk' fm ho.alive
  rw[hj] at e1;cases e1
  rcases e3 with e3|⟨T,ls,cs,d,fF,_,e3,_,e5⟩
  ·subst e3;exact ho
  ·subst e3;subst e5
   exact .root (by simp) (ho.flat (by simp))
 refine ⟨⟨⟨fun j blk' hj=> ?_,fun j1 j2 b1 b2 b' e1 e2 o1 o2=> ?_,fun j blk b' hj ho=> ?_,hS.h.iH⟩,hS.b7,hS.size,hS.new,hS.io⟩,fun k v hv=> ?_,fun μ hp0 aR hE=> ?_,fun j blk' hj hd=> ?_⟩
 ·by_cases hd:blk'= .dead
  ·subst hd;exact .dead
  ·obtain ⟨blk,e1,_,e3⟩:=back j blk' hj hd
   have hr:=hS.h.rel j blk e1
   generalize β j=o at hr
   rcases e3 with e3|⟨T0,ls,cs,d,fF,q1,e3,e4,e5⟩
   ·subst e3
    cases hr with
    | @var xs b' Ca T hb hh hs cD hx fD=>
     obtain ⟨b8,bs,d,fF,m1,m2,m3⟩:=get j _ hj
     rw[e1] at m2
     cases bs<;>simp only[jL] at m2<;>first|(cases m2;done)|skip
     ·rename_i T0 ls
      simp only[ff] at m3
      obtain ⟨hT,m2⟩:=G3 m2
      obtain ⟨i1,i2,i3⟩:=yO (P:=P) (w:=w) (I:=I) gW m2 m1
      injection m3 with m4 m3
      rw[m3]
      exact .var hb hh (by rw[i2];exact hs) cD (fun i v y hi hy=>i3 fF i v y (fun x cj=>(hx i v x hi cj).mono hle) hy) fD
     ·simp only[ff] at m3
      cases m3
    | dm hb=>exact .dm hb
    | arr a1 a2 a3 a4 a5 a6 a7=>exact .arr a1 a2 a3 a4 a5 a6 a7
    | dead=>exact absurd rfl hd
    | nest a1 a2 a3=>exact .nest a1 a2 a3
    | map a1 a2 a3 a4 a5 a6 a7=>exact .map a1 a2 a3 a4 a5 a6 a7
   ·subst e3
    subst e5
    cases hr with
    | @var xs b' Ca T hb hh hs cD hx fD=>
     obtain ⟨i1,i2,i3⟩:=yO (P:=P) (w:=w) (I:=I) gW e4 q1
     exact .var hb hh (by rw[i2];exact hs) cD (fun i v y hi hy=>i3 fF i v y (fun x cj=>(hx i v x hi cj).mono hle) hy) fD
 ·obtain ⟨c1,x1,_,_⟩:=back j1 b1 e1 o1.alive
  obtain ⟨c2,x2,_,_⟩:=back j2 b2 e2 o2.alive
  exact hS.h.inj j1 j2 c1 c2 b' x1 x2 (vi _ _ _ _ _ e1 x1 o1) (vi _ _ _ _ _ e2 x2 o2)
 ·obtain ⟨c1,x1,_,_⟩:=back j blk hj ho.alive
  exact hS.h.own j c1 b' x1 (vi _ _ _ _ _ hj x1 ho)
 ·change ao P w I β sS v (ij (eK S.bw (a++b)) k)
  unfold ij
  cases G4:dj (eK S.bw (a++b)) k with
  | none=>exact .undef
  | some y=>
   obtain ⟨s,d,fF,n1,n2,n3⟩:=(G2 h1 aW).2 b G4
   simp only[Option.getD_some,n3]
   exact (G1 (P:=P) (w:=w) (I:=I) gW n2 (eS.1 MG _ n1)).2 fF v (hv.mono hle)
 ·have h3:=hE.trans hle
  refine ⟨h3.cW,h3.b7,fun id blk ab=> ?_,fun id blk blk' b' ab bz hd hb=> ?_,fun id e es aq e' aO vers' b2 q i c t v e1 l ab bz=> ?_⟩
  ·have hl:=aR id blk ab
   obtain ⟨blk',k1,k2,k3⟩:=h3.blk id blk ab
   simp only[bm,ag (show id<S.aY.length by omega)] at k1
   exact ⟨blk',k1,k2,k3⟩
  ·have hl:=aR id blk ab
   exact h3.size id blk blk' b' ab (by simp only[bm,ag (show id<S.aY.length by omega)];exact bz) hd hb
  ·have hl:=aR id _ ab
   exact h3.row id e es aq e' aO vers' b2 q i c t v e1 l ab (by simp only[bm,ag (show id<S.aY.length by omega)];exact bz)
 ·obtain ⟨blk,e1,e2,_⟩:=back j blk' hj hd
  exact ⟨blk,e1,e2,fun o b' ho=>vi _ _ _ _ _ hj e1 ho⟩
end
section
variable {P:Program} {A:cl} {w w':World} {I I' I2:Nat→Prop} {μ β β':Nat→Option Nat} {hp hp' hp0:Nat→Option ak} {C:af} {B:Nat} {M:Nat→Prop} {w0:Start}
inductive dE (P:Program) (w:World) (β:Nat→Option Nat) (hp:Nat→Option ak):Place→Option Nat→ak→Prop
 | var {id:Nat} {T:TypeId} {cs G5:List V}:hp id=some (.var T cs)→dE P w β hp (.blk id) (β id) (.var T G5)
 | arr {id:Nat} {e:TypeId} {es:List V}:hp id=some (.arr e es false)→dE P w β hp (.blk id) (β id) (.arr e es false)
 | nest {id:Nat} {e:TypeId} {es:List V} {aq:List Nat}:hp id=some (.nest e es aq)→dE P w β hp (.blk id) (β id) (.nest e es [0,0,0])
 | row {id ver b b':Nat} {path:Path} {e0 e':TypeId} {es l:List V} {aq:List Nat}:hp id=some (.nest e0 es aq)→β id=some b→At P w b e0 es path b' e' l→xR P e'=true→
   0<path.length→path.length≤aq.length→bx aq (path.length-1)=ver→0<l.length→dE P w β hp (.row id ver path) (some b') (.arr e' l false)
 | map {id:Nat} {t:TypeId} {es:List V}:hp id=some (.map t es)→dE P w β hp (.blk id) (β id) (.map t es)
def yP (P:Program) (w:World) (β:Nat→Option Nat) (hp:Nat→Option ak) (ρ:List Place) (μ:Nat→Option Nat) (hp0:Nat→Option ak):Prop:=
 ∀j p,dH ρ j=some p→∃blk,hp0 j=some blk∧dE P w β hp p (μ j) blk
theorem ng: ∀{l m:List Place} {j:Nat} {p:Place},dH l j=some p→dH (l++m) j=some p
 | [],m,j,p,h=>by cases h
 | a::l,m,0,p,h=>h
 | a::l,m,j+1,p,h=>ng (l:=l) h
theorem kB: ∀{l:List Place} {j:Nat},dH l j=l[j]?
 | [],j=>by simp[dH]
 | a::l,0=>rfl
 | a::l,j+1=>by simp only[dH,kB,List.getElem?_cons_succ]
structure Ext (P:Program) (w:World) (I:Nat→Prop) (β:Nat→Option Nat) (hp:Nat→Option ak) (h h':Hand) (d:List V) (u:List (Nat × ak)):Prop where
 ds:h'.ds=h.ds++d
 upd:h'.upd=h.upd++u
 C4: ∀q∈u,yk hp q
 pl: ∃m,h'.pl=h.pl++m
 nodup:(h.pl.map Place.id).Nodup→(h'.pl.map Place.id).Nodup
theorem Ext.refl (h:Hand):Ext P w I β hp h h [] []:=⟨by simp,by simp,by simp,⟨[],by simp⟩,id⟩
theorem Ext.trans {h1 U h3:Hand} {d1 d2:List V} {u1 u2:List (Nat × ak)} (a:Ext P w I β hp h1 U d1 u1) (b:Ext P w I β hp U h3 d2 u2):Ext P w I β hp h1 h3 (d1++d2) (u1++u2):=by
 obtain ⟨m1,e1⟩:=a.pl
 obtain ⟨m2,e2⟩:=b.pl
 exact ⟨by rw[b.ds,a.ds,da],by rw[b.upd,a.upd,da],fun q hq=>(eB.1 hq).elim (a.C4 q) (b.C4 q),⟨m1++m2,by rw[e2,e1,da]⟩,fun h=>b.nodup (a.nodup h)⟩
theorem Ext.look {h h':Hand} {d:List V} {u:List (Nat × ak)} (a:Ext P w I β hp h h' d u) {j:Nat} {p:Place} (hj:dH h.pl j=some p):dH h'.pl j=some p:=by
 obtain ⟨m,e⟩:=a.pl
 rw[e]
 exact ng hj
theorem Ext.leaf (h:Hand) (x:V):Ext P w I β hp h {h with ds:=h.ds++[x]} [x] []:=⟨rfl,by simp,by simp,⟨[],by simp⟩,id⟩
theorem Wk {α:Type} {ρ:List Place} {j:Nat} {p:Place} {k:List Place→Rd α} {r:α} {rd:List Nat} (h:(unify ρ j p k).run C hp=some (r,rd)) (hb: ∃id,p= .blk id∨∃ver path,p= .row id ver path):
  ∃iM,(k iM).run C hp=some (r,rd)∧(∃m,iM=ρ++m)∧dH iM j=some p∧((ρ.map Place.id).Nodup→(iM.map Place.id).Nodup):=by
 unfold unify at h
 cases hc:Nat.blt j ρ.length with
 | true=>
  rw[hc] at h
  obtain ⟨h1,U⟩:=aK h
  refine ⟨ρ,U,⟨[],by simp⟩,?_,id⟩
  unfold K5 at h1
  split at h1
  ·rename_i a b he
   rw[aT] at h1
   subst h1
   exact he
  ·cases h1
 | false=>
  rw[hc] at h
  obtain ⟨h1,U⟩:=aK h
  simp only[aM,aT,lN] at h1
  obtain ⟨rfl,h3⟩:=h1
  refine ⟨ρ++[p],U,⟨[p],rfl⟩,?_,fun hn=> ?_⟩
  ·rw[kB];simp
  ·rw[o7,List.nodup_append]
   refine ⟨hn,by simp,fun a ha b hb=> ?_⟩
   simp only[dB,nJ,fM] at hb
   subst hb
   intro e
   subst e
   rw[ve ha] at h3
   cases h3
theorem sU {α:Type} {h:Hand} {j:Nat} {p:Place} {k:List Place→Rd α} {r:α} {rd:List Nat} (hr:(unify h.pl j p k).run C hp=some (r,rd)) (ds:List V):
  ∃iM,(k iM).run C hp=some (r,rd)∧dH iM j=some p∧Ext P w I β hp h {h with pl:=iM,ds:=h.ds++ds} ds []:=by
 obtain ⟨iM,a,b,c,d⟩:=Wk hr (by cases p with|blk id=>exact ⟨id,.inl rfl⟩|row id ver path=>exact ⟨id,.inr ⟨ver,path,rfl⟩⟩)
 exact ⟨iM,a,c,⟨rfl,by simp,by simp,b,d⟩⟩
theorem Wl {o:Option Nat} {blk:ak} {e:TypeId} {id j:Nat} {v:Value} (hv:ao P w I β hp v (.whole e id)) (hl:dE P w β hp (.blk id) o blk) (hj:hp0 j=some blk) (iN:μ j=o):ao P w I' μ hp0 v (.whole e j):=by
 cases hl with
 | var h=>
  cases hv with
  | dI U=>rw[h] at U;cases U
  | dk U=>rw[h] at U;cases U
  | whole U=>rw[h] at U;cases U
  | dQ U=>rw[h] at U;cases U
 | arr h=>
  cases hv with
  | dI U=>rw[h] at U;cases U
  | dk U hb=>rw[h] at U;cases U;exact .dk hj (iN.trans hb)
  | whole U hb a b c=>rw[h] at U;cases U;exact .whole hj (iN.trans hb) a b c
  | dQ U=>rw[h] at U;cases U
 | nest h=>
  cases hv with
  | dI U=>rw[h] at U;cases U
  | dk U=>rw[h] at U;cases U
  | whole U=>rw[h] at U;cases U
  | dQ U hb a b c=>rw[h] at U;cases U;exact .dQ hj (iN.trans hb) a b c
 | map h=>
  cases hv with
  | dI U=>rw[h] at U;cases U
  | dk U=>rw[h] at U;cases U
  | whole U=>rw[h] at U;cases U
  | dQ U=>rw[h] at U;cases U
theorem Wm {o:Option Nat} {blk:ak} {t:TypeId} {id j:Nat} {v:Value} (hv:ao P w I β hp v (.cv t id)) (hl:dE P w β hp (.blk id) o blk) (hj:hp0 j=some blk) (iN:μ j=o):ao P w I' μ hp0 v (.cv t j):=by
 cases hv with
 | gB U=>cases hl<;>(rename_i h;rw[h] at U;cases U)
 | cv U hb=>
  cases hl<;>(rename_i h;rw[h] at U;cases U)
  exact .cv hj (iN.trans hb)
theorem Wn {o:Option Nat} {blk:ak} {e:TypeId} {id off n j:Nat} {v:Value} (hv:ao P w I β hp v (.sub e id off n)) (hl:dE P w β hp (.blk id) o blk) (hj:hp0 j=some blk) (iN:μ j=o):ao P w I' μ hp0 v (.sub e j off n):=by
 cases hl with
 | var h=>
  cases hv with
  | fB U=>rw[h] at U;cases U
  | fk U=>rw[h] at U;cases U
  | sub U=>rw[h] at U;cases U
 | arr h=>
  cases hv with
  | fB U=>rw[h] at U;cases U
  | fk U hb=>rw[h] at U;cases U;exact .fk hj (iN.trans hb)
  | sub U hb a b c=>rw[h] at U;cases U;exact .sub hj (iN.trans hb) a b c
 | nest h=>
  cases hv with
  | fB U=>rw[h] at U;cases U
  | fk U=>rw[h] at U;cases U
  | sub U=>rw[h] at U;cases U
 | map h=>
  cases hv with
  | fB U=>rw[h] at U;cases U
  | fk U=>rw[h] at U;cases U
  | sub U=>rw[h] at U;cases U
theorem MH {o:Option Nat} {blk:ak} {id i c j:Nat} {v:Value} (hv:ao P w I β hp v (.ptr id i c)) (hl:dE P w β hp (.blk id) o blk) (hj:hp0 j=some blk) (iN:μ j=o):ao P w I' μ hp0 v (.ptr j i c):=by
 cases hl with
 | @var _ T0 cs G5 h=>
  obtain ⟨b,hb,rfl⟩:=hv.gf h (by simp)
  exact ao.ptr (blk:= .var T0 G5) hj (by simp) (iN.trans hb)
 | @arr _ e es h=>
  obtain ⟨b,hb,rfl⟩:=hv.gf h (by simp)
  exact ao.ptr (blk:= .arr e es false) hj (by simp) (iN.trans hb)
 | @nest _ e es aq h=>
  obtain ⟨b,hb,rfl⟩:=hv.gf h (by simp)
  exact ao.ptr (blk:= .nest e es [0,0,0]) hj (by simp) (iN.trans hb)
 | @map _ t es h=>
  obtain ⟨b,hb,rfl⟩:=hv.gf h (by simp)
  exact ao.ptr (blk:= .map t es) hj (by simp) (iN.trans hb)
theorem Wo (cx: ∀id blk,hp id=some blk→dC P w I β hp (β id) blk) {id b i c:Nat} {e0 t:TypeId} {es l:List V} {aq:List Nat} {q:Path} {e:TypeId} {v:Value} (ab:hp id=some (.nest e0 es aq)) (hb:β id=some b)
  (ht:P.underlying t=some (.slice e)) (hc:kV P w b e0 es q i c t v (.list e l)) (hl:0<l.length): ∃b1 cap,v= .slice (some ⟨b1,0,none⟩) l.length cap∧cap*P.cellsOf e=bsize w b1∧l.length≤cap∧cap≤maxLen∧At P w b e0 es (q++[(i,c)]) b1 e l:=by
 obtain ⟨b2,e1,m,Ca,T,f,x,n1,n2,n3,n4,n5,n6⟩:=hc
 have hr:=cx _ _ ab
 cases hr with
 | nest aC hr hn=>
  rw[hb] at aC;cases aC
  have hR:=hr _ _ _ _ n1
  obtain ⟨yn,c1,c2,c3⟩:=hR.cells
  rw[n2] at c1
  cases c1
  have sy:c<P.cellsOf e1:=by rw[←eW hR.ok];exact (bj.1 n4).1
  obtain ⟨v',d1,d2⟩:=c3 i c x t n3 n4 sy
  rw[n6] at d1
  cases d1
  rw[n5] at d2
  generalize hy:V.list e l=y at d2
  cases d2 with
  | fj a p=>unfold fe at a;rw[ht] at a;cases a
  | emp hu ha=>cases hy;simp at hl
  | row hu kX aW b6 l7=>
   cases hy
   exact ⟨_,_,rfl,aW,b6,l7,n1.snoc n2 n3 n4 ht n5 kX n6⟩
theorem Wp (S:aH P w I β hp B M w0) {o:Option Nat} {blk:ak} {e:TypeId} {id ver j:Nat} {path:Path} {v:Value} (hv:ao P w I β hp v (.row e id ver path)) (hl:dE P w β hp (.row id ver path) o blk) (hj:hp0 j=some blk) (iN:μ j=o):ao P w I' μ hp0 v (.whole e j):=by
 cases hl with
 | row h hb ha hf h1 U h3 h4=>
  obtain ⟨b2,q,i,c,t,l2,rfl,gS,ht,hc⟩:=hv.Ld h h1 U h3
  rw[hb] at gS;cases gS
  obtain ⟨p1,p2⟩:=F0 ha
  have gO:=hc
  obtain ⟨b3,e3,m3,Ca,T,f,x,n1,n2,n3,n4,n5,n6⟩:=gO
  obtain ⟨q1,q2⟩:=Cl n1 n3 n4 ht n5
  rw[p1] at q1
  rw[p2] at q2
  cases q1
  cases q2
  obtain ⟨b1,cap,rfl,m1,m2,m4,m5⟩:=Wo S.h.rel h hb ht hc h4
  have:=Wq ha m5
  subst this
  exact .whole hj iN m1 m2 m4
where
 Wq {b b1 b2:Nat} {e e1 e2:TypeId} {es l l2:List V} {q:Path} (h:At P w b e es q b1 e1 l) (U:At P w b e es q b2 e2 l2):b2=b1:=(h.fun U).1
theorem MI (S:aH P w I β hp B M w0) {α:Type} {l:LS} {x:V} {h:Hand} {k:Hand→Rd α} {r:α} {rd:List Nat} {v:Value} (hr:(B6 P l x h k).run C hp=some (r,rd)) (hv:ao P w I β hp v x):
  ∃h' ep d u,(k h').run C hp=some (r,ep)∧Ext P w I β hp h h' d u∧d.length=l.size∧
   ∀(I':Nat→Prop) (μ:Nat→Option Nat) (hp0:Nat→Option ak),(∀b,I b→I' b)→(∀q∈u,∀b,qR P w β hp q.1 b→I' b)→∀ρ m,ρ=h'.pl++m→yP P w β hp ρ μ hp0→∀rest,ao P w I' μ hp0 v (gL l (d++rest)):=by
 have plain: ∀{x':V} {iu:List Nat},(k {h with ds:=h.ds++[x']}).run C hp=some (r,iu)→l.size=1→(∀I' μ hp0 rest,ao P w I' μ hp0 v (gL l ([x']++rest)))→∃h' ep d u,(k h').run C hp=some (r,ep)∧Ext P w I β hp h h' d u∧d.length=l.size∧
   ∀(I':Nat→Prop) (μ:Nat→Option Nat) (hp0:Nat→Option ak),(∀b,I b→I' b)→(∀q∈u,∀b,qR P w β hp q.1 b→I' b)→∀ρ m,ρ=h'.pl++m→yP P w β hp ρ μ hp0→∀rest,ao P w I' μ hp0 v (gL l (d++rest)):=
  fun hk hs hx=>⟨_,_,_,_,hk,Ext.leaf h _,hs.symm,fun I' μ hp0 _ _ _ _ _ _ rest=>hx I' μ hp0 rest⟩
 have me: ∀{iu:List Nat},(k h).run C hp=some (r,iu)→l.size=0→(∀I' μ hp0 rest,ao P w I' μ hp0 v (gL l rest))→∃h' ep d u,(k h').run C hp=some (r,ep)∧Ext P w I β hp h h' d u∧d.length=l.size∧
   ∀(I':Nat→Prop) (μ:Nat→Option Nat) (hp0:Nat→Option ak),(∀b,I b→I' b)→(∀q∈u,∀b,qR P w β hp q.1 b→I' b)→∀ρ m,ρ=h'.pl++m→yP P w β hp ρ μ hp0→∀rest,ao P w I' μ hp0 v (gL l (d++rest)):=
  fun hk hs hx=>⟨_,_,_,_,hk,Ext.refl h,by simp[hs],fun I' μ hp0 _ _ _ _ _ _ rest=>hx I' μ hp0 rest⟩
 unfold B6 at hr
 cases l with
 | pe=>exact me hr rfl fun _ _ _ _=> .undef
 | int kd=>
  cases x<;>simp only at hr<;>first|(cases hr;done)|skip
  obtain ⟨h1,U⟩:=aK hr
  simp only[dw] at h1
  subst h1
  obtain rfl:=hv.dL
  exact plain U rfl fun _ _ _ _=> .int
 | bool=>
  cases x<;>simp only at hr<;>first|(cases hr;done)|skip
  obtain rfl:=hv.jq
  exact plain hr rfl fun _ _ _ _=> .bool
 | str=>
  cases x<;>simp only at hr<;>first|(cases hr;done)|skip
  obtain ⟨s,rfl,hl⟩:=hv.kZ
  exact plain hr rfl fun _ _ _ _=> .str hl
 | nilS e=>
  cases x<;>simp only at hr<;>first|(cases hr;done)|skip
  obtain ⟨h1,U⟩:=aK hr
  cases hv with
  | nilS=>exact me U rfl fun _ _ _ _=> .nilS
 | c8=>
  cases x<;>simp only at hr<;>first|(cases hr;done)|skip
  cases hv with
  | c8=>exact me hr rfl fun _ _ _ _=> .c8
 | row e j cs=>
  cases x<;>simp only at hr<;>first|(cases hr;done)|skip
  rename_i e' id ver path
  obtain ⟨e0,es,aq,l0,ab,p1,p2,p3,hr⟩:=m7 hr
  obtain ⟨h1,U⟩:=aK hr
  simp only[aM,aT,eR] at h1
  obtain ⟨rfl,m9,Wr⟩:=h1
  have:=vu m9
  subst this
  obtain ⟨iM,a,b,c⟩:=sU (P:=P) (w:=w) (I:=I) (β:=β) U (path.map fun p=>dc p.1)
  refine ⟨_,_,path.map fun p=>dc p.1,[],a,c,by simp[LS.size],fun I' μ hp0 i1 i2 ρ m c9 cQ rest=> ?_⟩
  obtain ⟨blk,k1,k2⟩:=cQ j _ (by rw[c9];exact ng b)
  obtain ⟨bb,q,i,cc,t,l,rfl,hb,ht,hc⟩:=hv.Ld ab p1 p2 p3
  have pD:blk= .nest e0 es [0,0,0]∧μ j=β id:=by
   generalize μ j=o at k2
   cases k2 with
   | var h=>rw[ab] at h;cases h
   | arr h=>rw[ab] at h;cases h
   | map h=>rw[ab] at h;cases h
   | nest h=>rw[ab] at h;cases h;exact ⟨rfl,rfl⟩
  obtain ⟨rfl,iN⟩:=pD
  simp only[gL,C2]
  have hq:q.length<3:=by rw[dM,List.length_singleton] at Wr;omega
  refine .row k1 (iN.trans hb) (by simpa using hq) ?_ ht hc
  match q.length,hq with
  | 0,_=>rfl
  | 1,_=>rfl
  | 2,_=>rfl
 | cu j cs c=>cases hr
 | BO k n=>cases hr
 | BP b=>cases hr
 | db t=>
  cases x<;>simp only at hr<;>first|(cases hr;done)|skip
  obtain ⟨h1,U⟩:=aK hr
  cases hv with
  | db=>exact me U rfl fun _ _ _ _=> .db
 | cv t j=>
  cases x<;>simp only at hr<;>first|(cases hr;done)|skip
  rename_i t' id
  obtain ⟨h1,U⟩:=aK hr
  rw[aT] at h1
  subst h1
  obtain ⟨iM,a,b,c⟩:=sU (P:=P) (w:=w) (I:=I) (β:=β) U []
  refine ⟨_,_,[],[],a,by simpa using c,rfl,fun I' μ hp0 i1 i2 ρ m c9 cQ rest=> ?_⟩
  obtain ⟨blk,k1,k2⟩:=cQ j _ (by rw[c9];exact ng b)
  exact Wm hv k2 k1 rfl
 | list e=>
  obtain ⟨⟨y,u⟩,l1,l2,h1,U⟩:=jQ hr
  cases y<;>simp only at U<;>first|(cases U;done)|skip
  rename_i e' es
  obtain ⟨h3,h4⟩:=aK U
  rw[aT] at h3
  subst h3
  obtain ⟨p1,p2⟩:=Cm S.h.rel h1 hv
  exact ⟨_,_,[.list e es],u,h4,⟨rfl,rfl,p1,⟨[],by simp⟩,id⟩,rfl,fun I' μ hp0 i1 i2 _ _ _ _ rest=> .list (p2 I' i1 i2)⟩
 | whole e j=>
  cases x<;>simp only at hr<;>first|(cases hr;done)|skip
  ·rename_i e' id
   obtain ⟨h1,U⟩:=aK hr
   rw[aT] at h1
   subst h1
   obtain ⟨iM,a,b,c⟩:=sU (P:=P) (w:=w) (I:=I) (β:=β) U []
   refine ⟨_,_,[],[],a,by simpa using c,rfl,fun I' μ hp0 i1 i2 ρ m c9 cQ rest=> ?_⟩
   obtain ⟨blk,k1,k2⟩:=cQ j _ (by rw[c9];exact ng b)
   exact Wl hv k2 k1 rfl
  ·rename_i e' id ver path
   obtain ⟨h1,U⟩:=aK hr
   rw[aT] at h1
   subst h1
   obtain ⟨iM,a,b,c⟩:=sU (P:=P) (w:=w) (I:=I) (β:=β) U []
   refine ⟨_,_,[],[],a,by simpa using c,rfl,fun I' μ hp0 i1 i2 ρ m c9 cQ rest=> ?_⟩
   obtain ⟨blk,k1,k2⟩:=cQ j _ (by rw[c9];exact ng b)
   exact Wp S hv k2 k1 rfl
 | sub e j=>
  cases x<;>simp only at hr<;>first|(cases hr;done)|skip
  rename_i e' id o n
  obtain ⟨h1,U⟩:=aK hr
  rw[aT] at h1
  subst h1
  obtain ⟨iM,a,b,c⟩:=sU (P:=P) (w:=w) (I:=I) (β:=β) U [dc o,dc n]
  refine ⟨_,_,[dc o,dc n],[],a,c,rfl,fun I' μ hp0 i1 i2 ρ m c9 cQ rest=> ?_⟩
  obtain ⟨blk,k1,k2⟩:=cQ j _ (by rw[c9];exact ng b)
  simpa[gL,V.nth] using Wn (I':=I') hv k2 k1 rfl
 | ptr j=>
  cases x<;>simp only at hr<;>first|(cases hr;done)|skip
  rename_i id i c
  obtain ⟨iM,a,b,c'⟩:=sU (P:=P) (w:=w) (I:=I) (β:=β) hr [dc i,dc c]
  refine ⟨_,_,[dc i,dc c],[],a,c',rfl,fun I' μ hp0 i1 i2 ρ m c9 cQ rest=> ?_⟩
  obtain ⟨blk,k1,k2⟩:=cQ j _ (by rw[c9];exact ng b)
  simpa[gL,V.nth] using MH (I':=I') hv k2 k1 rfl
 | aN j i c=>
  cases x<;>simp only at hr<;>first|(cases hr;done)|skip
  rename_i id i' c'
  obtain ⟨h1,U⟩:=aK hr
  simp only[aM,aT] at h1
  obtain ⟨rfl,rfl⟩:=h1
  obtain ⟨iM,a,b,c'⟩:=sU (P:=P) (w:=w) (I:=I) (β:=β) U []
  refine ⟨_,_,[],[],a,by simpa using c',rfl,fun I' μ hp0 i1 i2 ρ m c9 cQ rest=> ?_⟩
  obtain ⟨blk,k1,k2⟩:=cQ j _ (by rw[c9];exact ng b)
  exact MH hv k2 k1 rfl
end
section
variable {P:Program} {A:cl} {w w':World} {I I' I2:Nat→Prop} {μ β β':Nat→Option Nat} {hp hp' hp0:Nat→Option ak} {C:af} {B:Nat} {M:Nat→Prop} {w0:Start}
def lk (P:Program) (w:World) (I:Nat→Prop) (β:Nat→Option Nat) (hp:Nat→Option ak) (h':Hand) (u:List (Nat × ak)) (K:(Nat→Prop)→(Nat→Option Nat)→(Nat→Option ak)→Prop):Prop:=
 ∀(I':Nat→Prop) (μ:Nat→Option Nat) (hp0:Nat→Option ak),(∀b,I b→I' b)→(∀q∈u,∀b,qR P w β hp q.1 b→I' b)→∀ρ m,ρ=h'.pl++m→yP P w β hp ρ μ hp0→K I' μ hp0
theorem lk.later {h h':Hand} {d:List V} {u u':List (Nat × ak)} {K:(Nat→Prop)→(Nat→Option Nat)→(Nat→Option ak)→Prop} (t:lk P w I β hp h u K) (e:Ext P w I β hp h h' d u'):lk P w I β hp h' (u++u') K:=by
 obtain ⟨m1,e1⟩:=e.pl
 exact fun I' μ hp0 i1 i2 ρ m c9 cQ=>t I' μ hp0 i1 (fun q hq=>i2 q (eB.2 (.inl hq))) ρ (m1++m) (by rw[c9,e1,da]) cQ
theorem lk.more {h:Hand} {u u':List (Nat × ak)} {K:(Nat→Prop)→(Nat→Option Nat)→(Nat→Option ak)→Prop} (t:lk P w I β hp h u K):lk P w I β hp h (u'++u) K:=
 fun I' μ hp0 i1 i2 ρ m c9 cQ=>t I' μ hp0 i1 (fun q hq=>i2 q (eB.2 (.inr hq))) ρ m c9 cQ
theorem C6 (S:aH P w I β hp B M w0) {α:Type}: ∀{ls:List LS} {xs:List V} {h:Hand} {k:Hand→Rd α} {r:α} {rd:List Nat} {vs:List Value},(uX P ls xs h k).run C hp=some (r,rd)→vs.length=xs.length→
  (∀(j:Nat) v x,vs[j]? =some v→xs[j]? =some x→ao P w I β hp v x)→
  ∃h' ep d u,(k h').run C hp=some (r,ep)∧Ext P w I β hp h h' d u∧d.length=jg ls∧ls.length=xs.length∧
   lk P w I β hp h' u fun I' μ hp0=> ∀rest,(gr ls (d++rest)).length=xs.length∧∀(j:Nat) v y,vs[j]? =some v→(gr ls (d++rest))[j]? =some y→ao P w I' μ hp0 v y
 | [],[],h,k,r,rd,vs,hr,hl,hv=>⟨h,rd,[],[],hr,Ext.refl h,rfl,rfl,fun I' μ hp0 _ _ _ _ _ _ rest=>⟨rfl,fun j v y _ hy=>by simp[gr] at hy⟩⟩
 | [],_::_,h,k,r,rd,vs,hr,hl,hv=>by cases hr
 | _::_,[],h,k,r,rd,vs,hr,hl,hv=>by cases hr
 | l::ls,x::xs,h,k,r,rd,vs,hr,hl,hv=>by
  cases vs with
  | nil=>simp at hl
  | cons v vs=>
   simp only[uX] at hr
   obtain ⟨h1,iu,d1,u1,a1,a2,a3,a4⟩:=MI S hr (hv 0 v x rfl rfl)
   obtain ⟨U,rb,d2,u2,b1,b2,b3,b5,b4⟩:=C6 S a1 (by simpa using hl) (vs:=vs) (fun j v x hj hx=>hv (j+1) v x (by simpa using hj) (by simpa using hx))
   have Ws:lk P w I β hp h1 u1 fun I' μ hp0=> ∀rest,ao P w I' μ hp0 v (gL l (d1++rest)):=a4
   refine ⟨U,rb,d1++d2,u1++u2,b1,a2.trans b2,by simp only[dM,jg];omega,by simp[b5],fun I' μ hp0 i1 i2 ρ m c9 cQ rest=> ?_⟩
   have k1:=(Ws.later b2) I' μ hp0 i1 i2 ρ m c9 cQ (d2++rest)
   obtain ⟨k2,k3⟩:=b4.more I' μ hp0 i1 i2 ρ m c9 cQ rest
   simp only[gr]
   rw[show (d1++d2++rest).drop l.size=d2++rest by rw[da];exact mi a3,da]
   refine ⟨by simp[k2],fun j v' y hj hy=> ?_⟩
   cases j with
   | zero=>simp at hj hy;subst hj;subst hy;exact k1
   | succ j=>exact k3 j v' y (by simpa using hj) (by simpa using hy)
theorem Wt (S:aH P w I β hp B M w0) {α:Type} {s:VS} {x:V} {h:Hand} {k:Hand→Rd α} {r:α} {rd:List Nat} {v:Value} (hr:(xV P s x h k).run C hp=some (r,rd)) (hv:ao P w I β hp v x):
  ∃h' ep d u,(k h').run C hp=some (r,ep)∧Ext P w I β hp h h' d u∧d.length=s.size∧
   lk P w I β hp h' u fun I' μ hp0=> ∀rest,ao P w I' μ hp0 v (jM s (d++rest)):=by
 cases s with
 | one l=>
  simp only[xV] at hr
  obtain ⟨h1,iu,d1,u1,a1,a2,a3,a4⟩:=MI S hr hv
  exact ⟨h1,iu,d1,u1,a1,a2,a3,a4⟩
 | agg ls=>
  cases x<;>simp only[xV] at hr<;>first|(cases hr;done)|skip
  rename_i xs
  obtain ⟨cs,rfl,e1,e2⟩:=hv.jR
  obtain ⟨h1,iu,d1,u1,a1,a2,a3,a5,a4⟩:=C6 S hr (vs:=cs.toList) (by simpa using e1) (fun j v x hj hx=>e2 j v x (by simpa using hj) hx)
  refine ⟨h1,iu,d1,u1,a1,a2,a3,fun I' μ hp0 i1 i2 ρ m c9 cQ rest=> ?_⟩
  obtain ⟨k1,k2⟩:=a4 I' μ hp0 i1 i2 ρ m c9 cQ rest
  exact .agg (by rw[k1];exact e1) fun j v y hj hy=>k2 j v y (by simpa using hj) hy
 | bh ls=>cases x<;>cases hr
 | pref ts ls=>cases x<;>cases hr
 | fn f a b=>
  cases x<;>simp only[xV] at hr<;>first|(cases hr;done)|skip
  rename_i f' xs ys
  obtain ⟨hc,sV⟩:=aK hr
  clear hr
  rw[aT] at hc
  subst hc
  cases hv with
  | @fn _ fs cs _ _ q1 q2 q3 q4=>
   obtain ⟨h1,iu,d1,u1,a1,a2,a3,a5,a4⟩:=C6 S sV (vs:=fs.toList) (by simpa using q1) (fun j v x hj hx=>q2 j v x (by simpa using hj) hx)
   obtain ⟨U,rb,d2,u2,b1,b2,b3,b5,b4⟩:=C6 S a1 (vs:=cs.toList) (by simpa using q3) (fun j v x hj hx=>q4 j v x (by simpa using hj) hx)
   refine ⟨U,rb,d1++d2,u1++u2,b1,a2.trans b2,by simp only[dM,VS.size];omega,fun I' μ hp0 i1 i2 ρ m c9 cQ rest=> ?_⟩
   obtain ⟨k1,k2⟩:=(a4.later b2) I' μ hp0 i1 i2 ρ m c9 cQ (d2++rest)
   obtain ⟨k3,k4⟩:=b4.more I' μ hp0 i1 i2 ρ m c9 cQ rest
   simp only[jM]
   rw[show (d1++d2++rest).drop (jg a)=d2++rest by rw[da];exact mi a3,da]
   exact .fn (by rw[k1];exact q1) (fun j v y hj hy=>k2 j v y (by simpa using hj) hy) (by rw[k3];exact q3) (fun j v y hj hy=>k4 j v y (by simpa using hj) hy)
theorem G6 (S:aH P w I β hp B M w0) {α:Type}: ∀{ls:List VS} {xs:List V} {h:Hand} {k:Hand→Rd α} {r:α} {rd:List Nat} {vs:List Value},(xW P ls xs h k).run C hp=some (r,rd)→vs.length=xs.length→
  (∀(j:Nat) v x,vs[j]? =some v→xs[j]? =some x→ao P w I β hp v x)→
  ∃h' ep d u,(k h').run C hp=some (r,ep)∧Ext P w I β hp h h' d u∧d.length=qK ls∧ls.length=xs.length∧
   lk P w I β hp h' u fun I' μ hp0=> ∀rest,(eT ls (d++rest)).length=xs.length∧∀(j:Nat) v y,vs[j]? =some v→(eT ls (d++rest))[j]? =some y→ao P w I' μ hp0 v y
 | [],[],h,k,r,rd,vs,hr,hl,hv=>⟨h,rd,[],[],hr,Ext.refl h,rfl,rfl,fun I' μ hp0 _ _ _ _ _ _ rest=>⟨rfl,fun j v y _ hy=>by simp[eT] at hy⟩⟩
 | [],_::_,h,k,r,rd,vs,hr,hl,hv=>by cases hr
 | _::_,[],h,k,r,rd,vs,hr,hl,hv=>by cases hr
 | l::ls,x::xs,h,k,r,rd,vs,hr,hl,hv=>by
  cases vs with
  | nil=>simp at hl
  | cons v vs=>
   simp only[xW] at hr
   obtain ⟨h1,iu,d1,u1,a1,a2,a3,a4⟩:=Wt S hr (hv 0 v x rfl rfl)
   obtain ⟨U,rb,d2,u2,b1,b2,b3,b5,b4⟩:=G6 S a1 (by simpa using hl) (vs:=vs) (fun j v x hj hx=>hv (j+1) v x (by simpa using hj) (by simpa using hx))
   refine ⟨U,rb,d1++d2,u1++u2,b1,a2.trans b2,by simp only[dM,qK];omega,by simp[b5],fun I' μ hp0 i1 i2 ρ m c9 cQ rest=> ?_⟩
   have k1:=(a4.later b2) I' μ hp0 i1 i2 ρ m c9 cQ (d2++rest)
   obtain ⟨k2,k3⟩:=b4.more I' μ hp0 i1 i2 ρ m c9 cQ rest
   simp only[eT]
   rw[show (d1++d2++rest).drop l.size=d2++rest by rw[da];exact mi a3,da]
   refine ⟨by simp[k2],fun j v' y hj hy=> ?_⟩
   cases j with
   | zero=>simp at hj hy;subst hj;subst hy;exact k1
   | succ j=>exact k3 j v' y (by simpa using hj) (by simpa using hy)
def C7:List BS→Nat
 | []=>0
 | b::l=>b.size+C7 l
theorem MJ: ∀{b:Nat} {e e':TypeId} {es:List V} {v:V},(∀q b' e' m,At P w b e es q b' e' m→ik P w I b' e' m)→∀(path:Path),je P e path=some e'→cM P e es path=some v→0<v.toList.length→
  ∃b1,At P w b e es path b1 e' v.toList
 | b,e,e',es,v,cy,[],ht,hv,hl=>by
  simp only[je,dA] at ht
  simp only[cM,dA] at hv
  subst ht;subst hv
  exact ⟨b,.here⟩
 | b,e,e',es,v,cy,(i,c)::q,ht,hv,hl=>by
  simp only[je] at ht
  simp only[cM] at hv
  obtain ⟨x,hx,hv⟩:=bind_some hv
  cases G7:(je.xK P e)[c]? with
  | none=>rw[G7] at ht;cases ht
  | some t=>
   rw[G7] at ht
   simp only at ht
   have C8:(aV P e)[c]? =some t:=G7
   cases hu:P.underlying t with
   | none=>rw[hu] at ht;cases ht
   | some d=>
    rw[hu] at ht
    cases d<;>simp only at ht<;>first|(cases ht;done)|skip
    rename_i e1
    rw[lY C8] at hv
    have hR:=cy _ _ _ _ .here
    obtain ⟨Ca,c1,c2,c3⟩:=hR.cells
    have sy:c<P.cellsOf e:=by rw[←eW hR.ok];exact (bj.1 C8).1
    obtain ⟨u,d1,d2⟩:=c3 i c x t hx C8 sy
    rw[d2.qU] at hv
    generalize hy:bH P e x c=y at d2 hv
    cases d2 with
    | fj a p=>unfold fe at a;rw[hu] at a;cases a
    | @emp e2 a cap lh ha=>
     rw[hu] at lh;cases lh
     simp only at hv
     cases q with
     | nil=>simp only[cM,dA] at hv;subst hv;simp[V.toList] at hl
     | cons a q=>simp[cM] at hv
    | @row e2 bY b2 cap lh kX aW b6 l7=>
     rw[hu] at lh;cases lh
     simp only at hv
     have iJ: ∀{q b' e' aO},At P w b2 e1 bY q b' e' aO→At P w b e es ((i,c)::q) b' e' aO:=fun h=> .step c1 hx C8 hu hy kX d1 h
     obtain ⟨b1,ku⟩:=MJ (fun q b' e' m h=>cy _ _ _ _ (iJ h)) q ht hv hl
     exact ⟨b1,iJ ku⟩
theorem MK (S:aH P w I β hp B M w0) {α:Type}: ∀{bs:List BS} {j:Nat} {h:Hand} {k:Hand→Rd α} {r:α} {rd:List Nat},(pj P bs j h k).run C hp=some (r,rd)→
  ∃h' ep d u,(k h').run C hp=some (r,ep)∧Ext P w I β hp h h' d u∧d.length=C7 bs∧
   ∀rest,(dY bs (d++rest)).length=bs.length∧∃o:Nat→Option Nat,
    (∀(i:Nat) blk,(dY bs (d++rest))[i]? =some blk→∃p,dH h'.pl (j+i)=some p∧dE P w β hp p (o i) blk)∧
    lk P w I β hp h' u fun I' μ hp0=> ∀(i:Nat) blk,(dY bs (d++rest))[i]? =some blk→(∀b,br P w (o i) blk b→¬I' b)→dC P w I' μ hp0 (o i) blk
 | [],j,h,k,r,rd,hr=>⟨h,rd,[],[],hr,Ext.refl h,rfl,fun rest=>⟨rfl,fun _=>none,fun i blk hb=>by simp[dY] at hb,fun I' μ hp0 _ _ _ _ _ _ i blk hb=>by simp[dY] at hb⟩⟩
 | b::bs,j,h,k,r,rd,hr=>by
  simp only[pj] at hr
  have fin: ∀{h1:Hand} {iu:List Nat} {d1:List V} {u1:List (Nat × ak)} {o1:Option Nat} {p:Place},(pj P bs (j+1) h1 k).run C hp=some (r,iu)→Ext P w I β hp h h1 d1 u1→d1.length=b.size→dH h.pl j=some p→
    (∀rest,dE P w β hp p o1 (ff b (d1++rest)))→(∀rest,lk P w I β hp h1 u1 fun I' μ hp0=>(∀bb,br P w o1 (ff b (d1++rest)) bb→¬I' bb)→dC P w I' μ hp0 o1 (ff b (d1++rest)))→
    ∃h' ep d u,(k h').run C hp=some (r,ep)∧Ext P w I β hp h h' d u∧d.length=C7 (b::bs)∧
     ∀rest,(dY (b::bs) (d++rest)).length=(b::bs).length∧∃o:Nat→Option Nat,
      (∀(i:Nat) blk,(dY (b::bs) (d++rest))[i]? =some blk→∃p,dH h'.pl (j+i)=some p∧dE P w β hp p (o i) blk)∧
      lk P w I β hp h' u fun I' μ hp0=> ∀(i:Nat) blk,(dY (b::bs) (d++rest))[i]? =some blk→(∀b,br P w (o i) blk b→¬I' b)→dC P w I' μ hp0 (o i) blk:=by
   intro h1 iu d1 u1 o1 p hk he hd bm hl ht
   obtain ⟨U,rb,d2,u2,b1,b2,b3,b4⟩:=MK S hk
   refine ⟨U,rb,d1++d2,u1++u2,b1,he.trans b2,by simp only[dM,C7];omega,fun rest=> ?_⟩
   obtain ⟨c1,o,c2,c3⟩:=b4 rest
   simp only[dY]
   rw[show (d1++d2++rest).drop b.size=d2++rest by rw[da];exact mi hd,da]
   refine ⟨by simp[c1],fun i=>match i with|0=>o1|i+1=>o i,fun i blk hb=> ?_,fun I' μ hp0 i1 i2 ρ m c9 cQ i blk hb cD=> ?_⟩
   ·cases i with
    | zero=>
     simp at hb
     subst hb
     exact ⟨p,b2.look (he.look bm),hl _⟩
    | succ i=>
     obtain ⟨q,e1,e2⟩:=c2 i blk (by simpa using hb)
     exact ⟨q,by rw[show j+(i+1)=j+1+i by omega];exact e1,e2⟩
   ·cases i with
    | zero=>
     simp at hb
     subst hb
     exact ((ht _).later b2) I' μ hp0 i1 i2 ρ m c9 cQ cD
    | succ i=>exact c3.more I' μ hp0 i1 i2 ρ m c9 cQ i blk (by simpa using hb) cD
  cases bm:dH h.pl j with
  | none=>rw[bm] at hr;cases hr
  | some p=>
   rw[bm] at hr
   cases p with
   | blk id=>
    obtain ⟨l1,hr⟩:=run_get hr
    cases ab:hp id with
    | none=>rw[ab] at hr;cases hr
    | some blk=>
     rw[ab] at hr
     cases blk with
     | dead=>cases hr
     | var T0 cs=>
      cases b<;>simp only at hr<;>first|(cases hr;done)|skip
      rename_i T1 ss
      obtain ⟨hT,Wu⟩:=aK hr
      clear hr
      rw[aT] at hT
      subst hT
      have cx:=S.h.rel id _ ab
      generalize ho:β id=o at cx
      cases cx with
      | @var _ bb Ca T hb hh hs hI hx fD=>
       obtain ⟨h1,iu,d1,u1,a1,a2,a3,a5,a4⟩:=G6 S Wu (vs:=Ca.toList) (by simpa using hs) (fun j v x hj cj=>hx j v x (by simpa using hj) cj)
       refine fin (o1:=β id) a1 a2 a3 bm (fun rest=> .var ab) fun rest I' μ hp0 i1 i2 ρ m c9 cQ cD=> ?_
       obtain ⟨k1,k2⟩:=a4 I' μ hp0 i1 i2 ρ m c9 cQ rest
       exact .var (ho.trans hb) hh (by rw[k1];exact hs) (cD _ (.root (by simp[ff]) (ho.trans hb))) (fun i v y hi hy=>k2 i v y (by simpa using hi) hy) fD
     | arr e' es fz=>
      cases fz with
      | true=>cases hr
      | false=>
       cases b with
       | arr e fz=>
        cases fz with
        | true=>cases hr
        | false=>
         obtain ⟨hc,sV⟩:=aK hr
         clear hr
         rw[aT] at hc
         subst hc
         refine fin (d1:=[.list e es]) (o1:=β id) sV (Ext.leaf h _) rfl bm (fun rest=>dE.arr ab) fun rest I' μ hp0 i1 i2 ρ m c9 cQ cD=> ?_
         change dC P w I' μ hp0 (β id) (.arr e es false)
         have cx:=S.h.rel id _ ab
         generalize ho:β id=o at cx cD⊢
         cases cx with
         | dm hb=>exact .dm hb
         | arr a1 a2 a3 a4 a5 a6 a7=>
          refine .arr a1 a2 a3 a4 (fun h=>by cases h) (fun _=>cD _ (.root (by simp[ff]) a2)) fun i j x t' y1 y2 y3=> ?_
          obtain ⟨v,z1,z2⟩:=a7 i j x t' y1 y2 y3
          exact ⟨v,z1,z2.mono i1 fun _ _=>rfl⟩
       | _=>cases hr
     | nest e' es aq=>
      cases b with
      | nest e=>
       obtain ⟨hc,sV⟩:=aK hr
       clear hr
       rw[aT] at hc
       subst hc
       refine fin (d1:=[.list e es]) (o1:=β id) sV (Ext.leaf h _) rfl bm (fun rest=>dE.nest ab) fun rest I' μ hp0 i1 i2 ρ m c9 cQ cD=> ?_
       have ML: ∀bb,br P w (β id) (.nest e es [0,0,0]) bb→¬I' bb:=cD
       change dC P w I' μ hp0 (β id) (.nest e es [0,0,0])
       have cx:=S.h.rel id _ ab
       generalize ho:β id=o at cx ML⊢
       cases cx with
       | nest hb cy na=>
        refine .nest hb (fun q b' e1 m1 hq=> ?_) na
        obtain ⟨ok,⟨Ca,c1,c2,c3⟩,nI⟩:=cy q b' e1 m1 hq
        refine ⟨ok,⟨Ca,c1,c2,fun i j x t' y1 y2 y3=> ?_⟩,ML _ (.row hb hq)⟩
        obtain ⟨v,z1,z2⟩:=c3 i j x t' y1 y2 y3
        exact ⟨v,z1,z2.mono i1 (fun _ _=>rfl) fun _ _ _ _ _=>rfl⟩
      | _=>cases hr
     | map t' es=>
      cases b with
      | map t=>
       obtain ⟨hc,sV⟩:=aK hr
       clear hr
       rw[aT] at hc
       subst hc
       refine fin (d1:=[.list t es]) (o1:=β id) sV (Ext.leaf h _) rfl bm (fun rest=>dE.map ab) fun rest I' μ hp0 i1 i2 ρ m c9 cQ cD=> ?_
       change dC P w I' μ hp0 (β id) (.map t es)
       have cx:=S.h.rel id _ ab
       generalize ho:β id=o at cx cD⊢
       cases cx with
       | map a1 a2 a3 a4 a5 a6 a7=>exact .map a1 a2 a3 a4 (cD _ (.root (by simp[ff]) a2)) a6 a7
      | _=>cases hr
   | row id ver path=>
    obtain ⟨e0,es,aq,l1,k1,k2,k3,k4,k5⟩:=m7 hr
    obtain ⟨e',vv,m1,m2,m3⟩:=u6 k5
    cases b with
    | arr e fz=>
     cases fz with
     | true=>cases m3
     | false=>
      obtain ⟨hc,m4⟩:=aK m3
      clear m3
      simp only[aM,aT,iY] at hc
      obtain ⟨rfl,yQ,kX⟩:=hc
      have cx:=S.h.rel id _ k1
      cases hb:β id with
      | none=>
       rw[hb] at cx
       cases cx with
       | nest aC _ _=>cases aC
      | some b0=>
       rw[hb] at cx
       cases cx with
       | nest aC cy na=>
        cases aC
        obtain ⟨b1,cX⟩:=MJ cy path m1 m2 kX
        refine fin (d1:=[.list e vv.toList]) (o1:=some b1) m4 (Ext.leaf h _) rfl bm (fun rest=>dE.row k1 hb cX yQ k2 k3 k4 kX) fun rest I' μ hp0 i1 i2 ρ m c9 cQ cD=> ?_
        change dC P w I' μ hp0 (some b1) (.arr e vv.toList false)
        obtain ⟨ok,⟨Ca,c1,c2,c3⟩,nI⟩:=cy _ _ _ _ cX
        refine .arr ok rfl c1 c2 (fun h=>by cases h) (fun _=>cD _ (.root (by simp[ff]) rfl)) fun i j x t' y1 y2 y3=> ?_
        obtain ⟨v,z1,z2⟩:=c3 i j x t' y1 y2 y3
        refine ⟨v,z1,?_⟩
        generalize bH P e x j=y at z2⊢
        cases z2 with
        | fj _ p=>exact p.mono i1 fun _ _=>rfl
        | emp hu _=>exact absurd hu (MM yQ y2 _)
        | row hu _ _ _ _=>exact absurd hu (MM yQ y2 _)
    | _=>cases m3
where
 MM {e t:TypeId} {j:Nat} (h:xR P e=true) (ht:(aV P e)[j]? =some t) (e':TypeId):P.underlying t≠some (.slice e'):=by
  intro hu
  have U:=eS.1 h t (iD ht)
  rw[hu] at U
  cases U
end
end Go.AM
