/-
  Functions of the program, lifted to plain data.
-/
import Derived.Great.BuildSlice
import Derived.Maps.Keyed
import Derived.WideKeyArr
import Derived.MapKept
import Derived.ChangeMaps4
import Derived.Carry
import Derived.Lib.AppendStr
import Derived.Laws.BytesString
import Derived.Lib.Builder
import Derived.Lib.UnsafeStr
import Derived.Test.YtmcdbnalaobmpaaDoorP1
set_option linter.unusedVariables false
set_option linter.unusedSimpArgs false
namespace Go.AM
section
variable {P:Program} {w w':World} {I I':Nat→Prop} {β aq:Nat→Option Nat} {hp hp':Nat→Option ai} {C:ae} {B:Nat} {M:Nat→Prop} {w0:Start}
theorem acf (S:aH P w I β hp B M w0) {t:TypeId} {a v:Value} {xa x:V} {r:R} {rd:List Nat} (ha:aj P w I β hp a xa) (hv:aj P w I β hp v x)
  (h:(Kr P t xa x).run C hp=some (r,rd)):qP P ((Instr.storeAt t a v).run P w) w I β hp B M w0 r:=by
 unfold Kr at h
 obtain ⟨h0,h⟩:=aI h
 simp only[aM,ba] at h0
 obtain ⟨ht,hn⟩:=h0
 cases xa with
 | ptr id i c=>
  obtain ⟨l,h⟩:=run_get h
  cases ab:hp id with
  | none=>rw[ab] at h;cases h
  | some blk=>
   rw[ab] at h
   cases blk with
   | dead=>cases h
   | var T0 cs=>
    obtain ⟨RJ,h⟩:=aI h
    have nz:qD P T0=true→0<c:=fun b6=>by
     rw[b6] at RJ
     simpa using RJ
    obtain ⟨b,hb,rfl⟩:=ha.iL ab (by simp)
    simp only[ai.sz,Nat.mul_zero,eh]
    cases qO:(AJ P t cs&&fb P t x) with
    | true=>
     dsimp only at h
     rw[qO] at h
     simp only[cond_true] at h
     obtain ⟨hc,h⟩:=aI h
     obtain rfl:=aU h
     simp only[aM,kW] at hc qO
     obtain ⟨o1,o2⟩:=RC hv qO.2
     have mD:=abZ qO.2
     refine RA S ab hb ht hn (by rw[o2,mD];rfl) nz (fun j u y hu hy=> ?_) (by rw[o2];simp[o1]) (by rw[mD];simp;omega) (Rz _ _ _ _) (fun j y hy hj u hu=> ?_) (fun j y hy hj u hu=> ?_)
     ·rw[o2] at hu
      rw[mD] at hy
      cases j with
      | zero=>simp at hu hy;subst hu;subst hy;exact hv
      | succ j=>simp at hy
     ·rw[K3] at hy
      cases yl:cs[j]? with
      | none=>rw[yl] at hy;cases hy
      | some y0=>
       rw[yl] at hy
       simp only[Option.map_some,dZ] at hy
       rw[mD] at hj
       simp only[List.length_singleton] at hj
       have ca:Nat.beq c (0+j)=false:=by
        cases hq:Nat.beq c (0+j) with
        | false=>rfl
        | true=>rw[ba] at hq;omega
       rw[ca] at hy
       have:=Ro (c:=false) hv (hu y0 yl)
       rw[←hy]
       simpa using this
     ·rw[mD] at hj hu
      have hj0:j=0:=by simpa using hj
      subst hj0
      rw[K3] at hy
      cases yl:cs[c+0]? with
      | none=>rw[yl] at hy;cases hy
      | some y0=>
       rw[yl] at hy
       simp only[Option.map_some,dZ] at hy
       have heq:Nat.beq c (0+(c+0))=true:=by rw[ba];omega
       rw[heq] at hy
       have h2:aj P w I β hp u x:=hu x rfl
       have:tO true x y0=x:=ab0 x y0
       rw[←hy,this]
       exact h2
    | false=>
     dsimp only at h
     rw[qO] at h
     simp only[cond_false] at h
     obtain ⟨hc,h⟩:=aI h
     simp only[aM,fy] at hc
     obtain ⟨e1,e2⟩:=K0 hv h
     obtain ⟨h1,l2,h⟩:=Ge h (vs:=v.cells.toList) (by simpa using e1) (fun j u y a b=>e2 j u y (by simpa using a) b)
     obtain rfl:=aU h
     refine RA S ab hb ht hn e1 nz e2 h1 hc.2 (Bm _ _ _ hc.2) (fun j y hy hj u hu=> ?_) (fun j y hy hj u hu=> ?_)
     ·unfold gA at hy
      rw[oK _ _ _ _ hc.2] at hy
      rcases hj with hj|hj
      ·rw[af hj] at hy;exact hu y hy
      ·rw[ag (by omega),ag (by omega)] at hy;exact hu y hy
     ·unfold gA at hy
      rw[oK _ _ _ _ hc.2,ag (by omega),af (by omega)] at hy
      rw[show c+j-c=j by omega] at hy
      exact hu y hy
   | arr e es fz=>
    cases fz with
    | true=>cases h
    | false=>
    obtain ⟨b,hb,rfl⟩:=ha.iL ab (by simp)
    obtain ⟨aw,h⟩:=aI h
    obtain ⟨⟨ys,fr⟩,l1,l2,bI,h⟩:=lV h
    obtain ⟨hc,h⟩:=aI h
    obtain ⟨x0,sm,h⟩:=mB h
    obtain rfl:=aU h
    simp only[aM,ot,fy] at hc
    obtain ⟨ey,hc3,kE⟩:=hc
    have qQ:v.cells.size=x.cells.length∧∀(j:Nat) u y,v.cells.toList[j]? =some u→x.cells[j]? =some y→aj P w I β hp u y:=by
     cases x with
     | agg xs=>
      obtain ⟨cs,rfl,h1,h2⟩:=hv.lW
      exact ⟨h1,fun j u y a b=>h2 j u y (by simpa[Value.cells] using a) b⟩
     | _=>
      simp only[V.cells] at bI kE⊢
      simp only[tN] at bI
      obtain ⟨⟨y1,u1⟩,l3,l4,hq,bI⟩:=lV bI
      obtain ⟨q1,q2⟩:=F3 S.h.rel hq hv
      obtain ⟨⟨y2,u2⟩,l5,l6,qR,bI⟩:=lV bI
      cases qR
      have:=aU bI
      cases this
      obtain ⟨tl,tg⟩:=vH kE
      have gq:=tg 0 _ y1 (bM (by rw[tl];exact Nat.one_pos)) rfl
      have fD:=q2 (jF P w I β hp u1) (fun _ h=> .inl h) (fun p hp b h=> .inr ⟨p,hp,h⟩)
      have ho:=fD.pure gq
      have Li:v.cells= #[v]:=by cases ho<;>rfl
      rw[Li]
      refine ⟨rfl,fun j u y hu hy=> ?_⟩
      cases j with
      | zero=>simp at hu hy;subst hu;subst hy;exact hv
      | succ j=>simp at hy
    obtain ⟨k1,k2,k3⟩:=KU S.h.rel bI (vs:=v.cells.toList) (by simpa using qQ.1) qQ.2
    obtain ⟨sj,S1⟩:=Be S k2
    have Bt:b9 hp fr id=some (.arr e es false):=by
     rcases vB (hp:=hp) (l:=fr) (id:=id) with h|⟨b',hm,_⟩
     ·exact h.trans ab
     ·exfalso
      have lY:lb (fr.map (·.1)) id=true:=ye (fL.2 ⟨_,hm,rfl⟩)
      rw[lY] at ey;cases ey
    have RK:=k3 (jF P w I β hp fr) (fun _ h=> .inl h) (fun p hp b h=> .inr ⟨p,hp,h⟩)
    obtain ⟨tl,tg⟩:=vH kE
    have xY:=(lp aw).1
    have vK:ys.length=v.cells.size:=by rw[k1,qQ.1]
    have hcn:c+v.cells.size≤P.cellsOf e:=by rw[qQ.1];exact hc3
    have hr:=S1.h.rel id _ Bt
    cases hr with
    | eu az=>simp at sm
    | @arr _ _ _ b' Ca KZ az hh hs hf eU hx=>
     rw[hb] at az
     cases az
     have mE:i<es.length:=(bH.1 sm).1
     have hbound:i*P.cellsOf e+P.cellsOf e≤Ca.size:=by
      have:(i+1)*P.cellsOf e≤es.length*P.cellsOf e:=dQ _ mE
      rw[ee] at this
      omega
     simp only[ai.sz]
     have uf:i*P.cellsOf e+c+v.cells.size≤Ca.size:=by omega
     have dj: ¬jF P w I β hp fr b:=eU rfl
     have h1: ∀u∈v.cells.toList,u.oneCell'=true:=by
      intro u hu
      obtain ⟨j,hj⟩:=tF hu
      have dv:j<ys.length:=by rw[vK];simpa using (bH.1 hj).1
      have pS:j<(((flat P e).drop c).take x.cells.length).length:=by rw[tl];exact dv
      exact (RK j u ys[j] hj (bM dv)).one (tg j _ ys[j] (bM pS) (bM dv))
     have dw:=K1 (t:=t) (o:=i*P.cellsOf e+c) (v:=v) ht (by rw[qQ.1];exact hn.symm) hh uf h1
     have hlen:(Ca.toList.take (i*P.cellsOf e+c)++(v.cells.toList++Ca.toList.drop (i*P.cellsOf e+c+v.cells.toList.length))).length=Ca.size:=by
      rw[Bm _ _ _ (by simpa using uf)];simp
     have fD:(parts P e x0).length=P.cellsOf e:=by rw[yb];exact gp aw
     have Bn:=Gf S1 (blk':= .arr e (es.set i (cO P e (gA (parts P e x0) c ys))) false)
      (Cb:=(Ca.toList.take (i*P.cellsOf e+c)++(v.cells.toList++Ca.toList.drop (i*P.cellsOf e+c+v.cells.toList.length))).toArray) Bt (by simp) ⟨rfl,by simp⟩ hb dj (by simp) hh (by simpa using hlen)
      (fun hle fE=> .arr aw rfl fE (by simp only[rM,rN];omega) (fun h=>by cases h) (fun _=>dj) fun i' j z t' hz pS hj=>by
       simp only[ou]
       rw[oK _ _ _ _ (by simpa using uf)]
       simp only[Array.length_toList]
       rw[xx] at hz
       by_cases jH:i=i'
       ·subst jH
        rw[af rfl,af mE] at hz
        cases hz
        have Gn:j<(parts P e x0).length:=by omega
        have vL:(gA (parts P e x0) c ys)[j]? =if j<c then (parts P e x0)[j]? else if j<c+ys.length then ys[j-c]? else (parts P e x0)[j]? :=by
         unfold gA;exact oK _ _ _ _ (by omega)
        by_cases se:j<c
        ·rw[af (by omega)]
         rw[af se] at vL
         obtain ⟨u,t2,a1,a2,a3⟩:=Gb hx aw sm (bM Gn)
         rw[pS] at a1;cases a1
         refine ⟨u,by simpa using a2,?_⟩
         rw[sg (vL.trans (bM Gn)) pS]
         exact a3.mono hle.dM hle.cE
        ·rw[ag se] at vL
         by_cases cp:j<c+ys.length
         ·rw[af cp] at vL
          rw[ag (by omega),af (by omega)]
          have qS:j-c<ys.length:=by omega
          have RL:j-c<v.cells.toList.length:=by simp;omega
          have an8:j-c<v.cells.size:=by omega
          refine ⟨v.cells.toList[j-c],?_,?_⟩
          ·rw[show i*P.cellsOf e+j-(i*P.cellsOf e+c)=j-c by omega]
           exact bM RL
          ·rw[sg (vL.trans (bM qS)) pS]
           have hft:(((flat P e).drop c).take x.cells.length)[j-c]? =some t':=by
            rw[fK (by omega),iX,show c+(j-c)=j by omega,←uc]
            exact pS
           exact ((RK (j-c) _ ys[j-c] (bM RL) (bM qS)).pure (tg (j-c) t' ys[j-c] hft (bM qS))).mono hle.dM hle.cE
         ·rw[ag cp] at vL
          rw[ag (by omega),ag (by omega)]
          obtain ⟨u,t2,a1,a2,a3⟩:=Gb hx aw sm (bM Gn)
          rw[pS] at a1;cases a1
          refine ⟨u,by simpa using a2,?_⟩
          rw[sg (vL.trans (bM Gn)) pS]
          exact a3.mono hle.dM hle.cE
       ·rw[ag jH] at hz
        obtain ⟨u,a2,a3⟩:=hx i' j z t' hz pS hj
        have ca:i'*P.cellsOf e+j<i*P.cellsOf e+c∨i*P.cellsOf e+c+v.cells.size≤i'*P.cellsOf e+j:=by
         rcases eg i' i with a9|qT
         ·left
          have:(i'+1)*P.cellsOf e≤i*P.cellsOf e:=dQ _ a9
          rw[ee] at this
          omega
         ·right
          have:(i+1)*P.cellsOf e≤i'*P.cellsOf e:=dQ _ (by omega)
          rw[ee] at this
          omega
        refine ⟨u,?_,a3.mono hle.dM hle.cE⟩
        rcases ca with ca|ca
        ·rw[af ca];simpa using a2
        ·rw[ag (by omega),ag (by omega)];simpa using a2)
     exact ⟨_,_,_,dw,sj.trans Bn.1,Bn.2,rfl⟩
   | map _ _=>cases h
   | nest e es ak=>
    obtain ⟨b,hb,rfl⟩:=ha.iL ab (by simp)
    exact RI S ht hn hv ab hb .here h
 | cW id ver path i c=>
  obtain ⟨e0,es,ak,l,ab,h1,h2,h3,h⟩:=pM h
  obtain ⟨b,b1,e1,l1,hb,dN,rfl⟩:=ha.Rl ab h1 h2 h3
  exact RI S ht hn hv ab hb dN h
 | _=>cases h
end
section
variable {P:Program} {w w':World} {I I':Nat→Prop} {β aq:Nat→Option Nat} {hp hp':Nat→Option ai} {C:ae} {B:Nat} {M:Nat→Prop} {w0:Start}
theorem Lj: ∀{ts:List TypeId} {vs:List Value} {j:Nat} {y:V},(jW P ts vs)[j]? =some y→∃t v,ts[j]? =some t∧vs[j]? =some v∧y=qC P t v
 | [],vs,j,y,h=>by simp[jW] at h
 | _::_,[],j,y,h=>by simp[jW] at h
 | t::ts,v::vs,0,y,h=>by simp[jW] at h;exact ⟨t,v,rfl,rfl,h.symm⟩
 | t::ts,v::vs,j+1,y,h=>by
  simp only[jW,List.getElem?_cons_succ] at h
  obtain ⟨t',v',a,b,c⟩:=Lj h
  exact ⟨t',v',by simpa using a,by simpa using b,c⟩
theorem RM: ∀{ts:List TypeId} {vs:List Value},ts.length=vs.length→(jW P ts vs).length=vs.length
 | [],[],_=>rfl
 | [],_::_,h=>by simp at h
 | _::_,[],h=>by simp at h
 | t::ts,v::vs,h=>by simp[jW,RM (ts:=ts) (vs:=vs) (by simpa using h)]
theorem lr {e:TypeId} (h:dm P e=true): ∃i z,P.info? e=some i∧i.zero=some z∧i.size=P.cellsOf e∧z.cells.size=P.cellsOf e∧zeroCells P e=jW P (flat P e) z.cells.toList:=by
 unfold dm at h
 simp only[aM,ba,kW] at h
 obtain ⟨h1,h2,_,h3⟩:=h
 cases hi:P.info? e with
 | none=>rw[hi] at h3;cases h3
 | some i=>
  rw[hi] at h3
  simp only[Option.bind_some] at h3
  cases hz:i.zero with
  | none=>rw[hz] at h3;cases h3
  | some z=>
   rw[hz] at h3
   simp only[ba] at h3
   exact ⟨i,z,rfl,hz,by simp[Program.cellsOf,hi],h3,by simp[zeroCells,hi,hz]⟩
theorem RN {e:TypeId} (h:dm P e=true): ∃i z,P.info? e=some i∧i.zero=some z∧z.cells.size=(zeroCells P e).length∧z.cells.size=P.cellsOf e∧
  ∀(j:Nat) v x,z.cells[j]? =some v→(zeroCells P e)[j]? =some x→aj P w I β hp v x:=by
 obtain ⟨i,z,h1,h2,h3,h4,h5⟩:=lr h
 have hl:(flat P e).length=z.cells.toList.length:=by rw[(lp h).1];simpa using h4.symm
 refine ⟨i,z,h1,h2,?_,h4,fun j v x hv hx=> ?_⟩
 ·rw[h5,RM hl];simp
 ·rw[h5] at hx
  obtain ⟨t,v',_,yc,rfl⟩:=Lj hx
  have:v'=v:=by
   have e1:z.cells[j]? =some v':=by simpa using yc
   rw[hv] at e1;exact (dr e1).symm
  subst this
  exact aj.const t v'
theorem oM {nb:Nat} {b:ai} {v:V} {upd:List (Nat × ai)} {r:R} {rd:List Nat} (h:(jY nb b v upd).run C hp=some (r,rd)):hp nb=none∧r=⟨v,(nb,b)::upd⟩:=by
 obtain ⟨l,h⟩:=run_get h
 cases hn:hp nb with
 | none=>rw[hn] at h;exact ⟨rfl,(aU h).symm⟩
 | some x=>rw[hn] at h;cases h
theorem RO (S:aH P w I β hp B M w0) {nb:Nat} {xs:List V} {C0:Array Value} {T:TypeId} (hn:hp nb=none) (hs:C0.size=xs.length)
  (hx: ∀(j:Nat) v x,C0[j]? =some v→xs[j]? =some x→aj P w I β hp v x) (g9:Rg P w.heap.size T C0):
  Le P w I β hp (w.alloc (.cells C0 T)) I (aL β nb (some w.heap.size)) (aL hp nb (some (.var T xs)))∧aH P (w.alloc (.cells C0 T)) I (aL β nb (some w.heap.size)) (aL hp nb (some (.var T xs))) B M w0∧
  aj P (w.alloc (.cells C0 T)) I (aL β nb (some w.heap.size)) (aL hp nb (some (.var T xs))) (.pointer (some ⟨w.heap.size,0,none⟩)) (.ptr nb 0 0):=by
 obtain ⟨h1,h2⟩:=KV S (blk:= .var T xs) (c:=C0) (T:=T) hn (fun b' h=>(dr (h.flat (by simp))).symm) (fun hle fE dj=> .var rfl fE hs dj (fun j v x a b=>(hx j v x a b).mono hle) g9)
 refine ⟨h1,h2,?_⟩
 have:=aj.ptr (P:=P) (w:=w.alloc (.cells C0 T)) (I:=I) (β:=aL β nb (some w.heap.size)) (hp:=aL hp nb (some (.var T xs))) (i:=0) (c:=0) (blk:= .var T xs) (dt _ _ _) (by simp) (dt _ _ _)
 simpa using this
theorem acg (S:aH P w I β hp B M w0) {e:TypeId} {nb:Nat} {r:R} {rd:List Nat}
  (h:(Rd.aB (dm P e&&(!(qD P e)||Rb (zeroCells P e))) (jY nb (.var e (zeroCells P e)) (.ptr nb 0 0) [])).run C hp=some (r,rd)):dz P ((Instr.alloc e true (.tuple #[])).run P w) w I β hp B M w0 r:=by
 obtain ⟨aw,h⟩:=aI h
 rw[aM] at aw
 obtain ⟨aw,nz⟩:=aw
 obtain ⟨hn,rfl⟩:=oM h
 obtain ⟨i,z,h1,h2,h3,h4,h5⟩:=RN (w:=w) (I:=I) (β:=β) (hp:=hp) aw
 obtain ⟨a,b,c⟩:=RO S (T:=e) hn h3 h5 fun b6=>by
  rw[b6,Bool.not_true,Bool.false_or] at nz
  cases hz:zeroCells P e with
  | nil=>rw[hz] at nz;cases nz
  | cons y l=>
   rw[hz] at nz h3 h5
   cases y<;>first|(cases nz;done)|skip
   have a9:0<z.cells.size:=by rw[h3];simp
   have:=h5 0 z.cells[0] .dR (lP a9) rfl
   left
   rw[lP a9]
   generalize z.cells[0]=u at this
   cases this;rfl
 exact ⟨_,_,_,_,by simp[Instr.alloc,zeroValue,typeInfo,h1,h2,newVar,newRow],a,b,c⟩
theorem ach (S:aH P w I β hp B M w0) {e:TypeId} {nb:Nat} {x:V} {v:Value} {r:R} {rd:List Nat} (hv:aj P w I β hp v x)
  (h:(Rd.aB (!(qD P e)) <| my x.cells (jY nb (.var e x.cells) (.ptr nb 0 0) [])).run C hp=some (r,rd)):dz P ((Instr.box e v).run P w) w I β hp B M w0 r:=by
 obtain ⟨nz,h⟩:=aI h
 obtain ⟨e1,e2⟩:=K0 hv h
 obtain ⟨_,l,h⟩:=Ge h (vs:=v.cells.toList) (by simpa using e1) (fun j u y a b=>e2 j u y (by simpa using a) b)
 obtain ⟨hn,rfl⟩:=oM h
 obtain ⟨a,b,c⟩:=RO S (T:=e) hn e1 e2 fun b6=>by rw[b6] at nz;cases nz
 exact ⟨_,_,_,_,by simp[Instr.box,newVar,newRow],a,b,c⟩
theorem foldl_set (off:Nat): ∀(vs:List Value) (k:Nat) (cs:Array Value) (i:Nat),off+k+vs.length≤cs.size→
  ((vs.zipIdx k).foldl (fun cs p=>cs.setIfInBounds (off+p.2) p.1) cs)[i]? =if i<off+k then cs[i]? else if i<off+k+vs.length then vs[i-(off+k)]? else cs[i]?
 | [],k,cs,i,h=>by simp;intro h1 h2;omega
 | v::vs,k,cs,i,h=>by
  simp only[List.zipIdx_cons,List.foldl_cons]
  simp only[List.length_cons] at h⊢
  rw[foldl_set off vs (k+1) _ i (by simp;omega)]
  by_cases h1:i<off+k
  ·rw[af (by omega),af h1]
   rw[Fq (by omega)]
  ·rw[ag h1]
   by_cases h2:i=off+k
   ·subst h2
    rw[af (by omega),af (by omega)]
    rw[Kn (by omega)]
    simp
   ·rw[ag (by omega)]
    by_cases h3:i<off+k+(vs.length+1)
    ·rw[af (by omega),af h3,show i-(off+k)=(i-(off+(k+1)))+1 by omega]
     simp
    ·rw[ag (by omega),ag h3,Fq (by omega)]
theorem RP (off:Nat): ∀(vs:List Value) (k:Nat) (cs:Array Value),((vs.zipIdx k).foldl (fun cs p=>cs.setIfInBounds (off+p.2) p.1) cs).size=cs.size
 | [],k,cs=>rfl
 | v::vs,k,cs=>by
  simp only[List.zipIdx_cons,List.foldl_cons]
  rw[RP off vs (k+1)]
  simp
theorem RQ {cells:Array Value} {off:Nat} {v:Value} (h:off+v.cells.size≤cells.size) (i:Nat):
  (v.cells.zipIdx.foldl (fun cs (p:Value × Nat)=>cs.setIfInBounds (off+p.2) p.1) cells)[i]? =if i<off then cells[i]? else if i<off+v.cells.size then v.cells[i-off]? else cells[i]? :=by
 have:=foldl_set off v.cells.toList 0 cells i (by simpa using h)
 rw[←Fs]
 simpa[Array.toList_zipIdx] using this
theorem RR {cells:Array Value} {off:Nat} {v:Value}:(v.cells.zipIdx.foldl (fun cs (p:Value × Nat)=>cs.setIfInBounds (off+p.2) p.1) cells).size=cells.size:=by
 have:=RP off v.cells.toList 0 cells
 rw[←Fs]
 simpa[Array.toList_zipIdx] using this
inductive ym (P:Program) (w:World) (I:Nat→Prop) (β:Nat→Option Nat) (hp:Nat→Option ai):List (Nat × Value)→List (Nat × V)→Prop
 | nil:ym P w I β hp [] []
 | cons {i:Nat} {v:Value} {x:V} {vs:List (Nat × Value)} {xs:List (Nat × V)}:v.cells.size=x.cells.length→(∀(j:Nat) u y,v.cells[j]? =some u→x.cells[j]? =some y→aj P w I β hp u y)→
   ym P w I β hp vs xs→ym P w I β hp ((i,v)::vs) ((i,x)::xs)
theorem RS (place:Nat→Option (Nat × Nat)): ∀{vs:List (Nat × Value)} {px:List (Nat × V)} {cells:Array Value} {xs ys:List V},ym P w I β hp vs px→cells.size=xs.length→
  (∀(j:Nat) v x,cells[j]? =some v→xs[j]? =some x→aj P w I β hp v x)→vk place xs px=some ys→
  ∃qU:Array Value,Instr.fill place cells vs=some qU∧qU.size=ys.length∧∀(j:Nat) v x,qU[j]? =some v→ys[j]? =some x→aj P w I β hp v x
 | _,_,cells,xs,ys,.nil,hs,hx,h=>by
  simp only[vk,dZ] at h
  subst h
  exact ⟨cells,by simp[Instr.fill],hs,hx⟩
 | _,_,cells,xs,ys,@ym.cons _ _ _ _ _ i v x vs px h1 h2 h3,hs,hx,h=>by
  simp only[vk] at h
  cases fD:place i with
  | none=>rw[fD] at h;cases h
  | some os=>
   obtain ⟨off,size⟩:=os
   rw[fD] at h
   simp only at h
   cases hc:(Nat.beq x.cells.length size&&Nat.ble (off+size) xs.length) with
   | false=>rw[hc] at h;cases h
   | true=>
    rw[hc] at h
    simp only[cond_true] at h
    simp only[aM,ba,fy] at hc
    have hv:off+v.cells.size≤cells.size:=by omega
    have hb:off+x.cells.length≤xs.length:=by omega
    have hl:(gA xs off x.cells).length=xs.length:=Bm _ _ _ hb
    obtain ⟨qU,f1,f2,f3⟩:=RS place (cells:=v.cells.zipIdx.foldl (fun cs (p:Value × Nat)=>cs.setIfInBounds (off+p.2) p.1) cells) (xs:=gA xs off x.cells) h3 (by rw[RR,hl,hs])
     (fun j u y hu hy=>by
      rw[RQ hv] at hu
      unfold gA at hy
      rw[oK _ _ _ _ hb] at hy
      by_cases j1:j<off
      ·rw[af j1] at hu hy;exact hx j u y hu hy
      ·rw[ag j1] at hu hy
       by_cases j2:j<off+x.cells.length
       ·rw[af (by omega)] at hu
        rw[af j2] at hy
        exact h2 (j-off) u y hu hy
       ·rw[ag (by omega)] at hu
        rw[ag j2] at hy
        exact hx j u y hu hy) h
    refine ⟨qU,?_,f2,f3⟩
    simp only[Instr.fill,fD]
    rw[ag (by simp;omega)]
    exact f1
theorem aci {t:TypeId} {parts:Array (Nat × Value)} {cells:Array Value} {z:Value} {i:TypeInfo} (hi:P.info? t=some i) (hz:i.zero=some z) (h:Instr.fill (placeOf P t) z.cells parts.toList=some cells) (ha:bW P t=true)
  (fD: ∀fs,P.underlying t=some (.struct fs)→(fs.toList.mapM fun f=>(P.info? f.type).map fun i=>(f.offset,i.size)).isSome=true) (sq: ∀n e,P.underlying t=some (.array n e)→(P.info? e).isSome=true):
  (Instr.build t parts).run P w= .ok (.agg cells) w:=by
 refine run_build w t parts cells ?_
 unfold Program.built
 unfold bW at ha
 rw[hi]
 split at ha
 ·rename_i fs hu
  have:=fD fs hu
  cases hm:fs.toList.mapM fun f=>(P.info? f.type).map fun i=>(f.offset,i.size) with
  | none=>rw[hm] at this;cases this
  | some places=>
   simp only[hu,hz,hm]
   have hq:placeOf P t=fun i=>places[i]? :=by simp[placeOf,hu,hm]
   rw[hq] at h
   simpa using h
 ·rename_i n e hu
  have:=sq n e hu
  cases kI:P.info? e with
  | none=>rw[kI] at this;cases this
  | some ie=>
   simp only[hu,hz,kI]
   have hq:placeOf P t=fun i=>some (i*ie.size,ie.size):=by simp[placeOf,hu,kI]
   rw[hq] at h
   exact h
 ·cases ha
theorem RT {α:Type}: ∀(xs ys:List V) (k:Rd α),my (xs++ys) k=my xs (my ys k)
 | [],_,_=>rfl
 | x::xs,ys,k=>by simp only[List.cons_append,my,RT xs ys k]
theorem RU {a:Act} {sl:Nat→V} (hs:lU P w I β hp a sl) {G:Nat→V} (hg:iI P G w I) (t:TypeId) {α:Type}: ∀{l:List (Nat × Operand)} {k:Rd α} {r:α} {rd:List Nat},
  (my ((l.map fun p=>(aV P G t sl p.2).cells).flatten) k).run C hp=some (r,rd)→
  ym P w I β hp (l.map fun p=>(p.1,a.eval p.2)) (l.map fun p=>(p.1,aV P G t sl p.2))∧∃fF,k.run C hp=some (r,fF)
 | [],k,r,rd,h=>⟨.nil,rd,h⟩
 | (i,x)::l,k,r,rd,h=>by
  simp only[jV,List.flatten_cons,RT] at h
  obtain ⟨e1,e2⟩:=K0 (hs.ev hg t x) h
  obtain ⟨_,l1,h⟩:=Ge h (vs:=(a.eval x).cells.toList) (by simpa using e1) (fun j u y a b=>e2 j u y (by simpa using a) b)
  obtain ⟨h1,h2⟩:=RU hs hg t h
  exact ⟨.cons e1 e2 h1,h2⟩
theorem acj (S:aH P w I β hp B M w0) {a:Act} {sl:Nat→V} (hs:lU P w I β hp a sl) {G:Nat→V} (hg:iI P G w I) {t ty:TypeId} {ps:Array (Nat × Operand)} {r:R} {rd:List Nat}
  (h:(Rd.aB (dm P t&&(bW P t&&FM P t)) (my ((ps.toList.map fun p=>(aV P G ty sl p.2).cells).flatten)
   (xL (vk (placeOf P t) (zeroCells P t) (ps.toList.map fun p=>(p.1,aV P G ty sl p.2))) fun cs=> .ret ⟨.agg cs,[]⟩))).run C hp=some (r,rd)):
  dz P ((Instr.build t (ps.map fun (i,x)=>(i,a.eval x))).run P w) w I β hp B M w0 r:=by
 obtain ⟨aw,h⟩:=aI h
 simp only[aM] at aw
 obtain ⟨h1,l,h⟩:=RU hs hg ty h
 cases hf:vk (placeOf P t) (zeroCells P t) (ps.toList.map fun p=>(p.1,aV P G ty sl p.2)) with
 | none=>rw[hf] at h;cases h
 | some cs=>
  rw[hf] at h
  obtain rfl:=aU h
  obtain ⟨i,z,hi,hz,h3,h4,h5⟩:=RN (w:=w) (I:=I) (β:=β) (hp:=hp) aw.1
  obtain ⟨cells,f1,f2,f3⟩:=RS (placeOf P t) h1 h3 h5 hf
  have RV:=aw.2.2
  refine .same S (v:= .agg cells) (aci hi hz (by simpa using f1) aw.2.1 (fun fs hu=> ?_) (fun n e hu=> ?_)) (.agg f2 f3)
  ·simpa[FM,hu] using RV
  ·simpa[FM,hu] using RV
theorem ack (cY: ∀id blk,hp id=some blk→eM P w I β hp (β id) blk) {x:V} {v:Value} {ys:List V} {fr:List (Nat × ai)} {rd:List Nat} {ts:List TypeId} (hv:aj P w I β hp v x)
  (h:(tN P x.cells).run C hp=some ((ys,fr),rd)) (ht:rQ P ts ys=true):
  v.cells.size=x.cells.length∧∀(j:Nat) u y,v.cells.toList[j]? =some u→x.cells[j]? =some y→aj P w I β hp u y:=by
 cases x with
 | agg xs=>
  obtain ⟨cs,rfl,h1,h2⟩:=hv.lW
  exact ⟨h1,fun j u y a b=>h2 j u y (by simpa[Value.cells] using a) b⟩
 | _=>
  simp only[V.cells] at h⊢
  simp only[tN] at h
  obtain ⟨⟨y1,u1⟩,l3,l4,hq,h⟩:=lV h
  obtain ⟨q1,q2⟩:=F3 cY hq hv
  obtain ⟨⟨y2,u2⟩,l5,l6,qR,h⟩:=lV h
  cases qR
  have:=aU h
  cases this
  obtain ⟨tl,tg⟩:=vH ht
  have gq:=tg 0 _ y1 (bM (by rw[tl];exact Nat.one_pos)) rfl
  have fD:=q2 (jF P w I β hp u1) (fun _ h=> .inl h) (fun p hp b h=> .inr ⟨p,hp,h⟩)
  have ho:=fD.pure gq
  have Li:v.cells= #[v]:=by cases ho<;>rfl
  rw[Li]
  refine ⟨rfl,fun j u y hu hy=> ?_⟩
  cases j with
  | zero=>simp at hu hy;subst hu;subst hy;exact hv
  | succ j=>simp at hy
def yn (P:Program) (w:World) (I:Nat→Prop) (e:TypeId) (cells:Array Value) (es:List V):Prop:=
 cells.size=es.length*P.cellsOf e∧∀(i j:Nat) (x:V) (t':TypeId),es[i]? =some x→(bd P e)[j]? =some t'→j<P.cellsOf e→∃v,cells[i*P.cellsOf e+j]? =some v∧Pure P w I t' v (b7 P e x j)
theorem yn.set {e:TypeId} {cells:Array Value} {es ys:List V} {i:Nat} {v:Value} (h:yn P w I e cells es) (hi:i<es.length) (hv:v.cells.size=P.cellsOf e) (hy:ys.length=P.cellsOf e)
  (hr: ∀(j:Nat) (t':TypeId) (u:Value) (y:V),(bd P e)[j]? =some t'→v.cells[j]? =some u→ys[j]? =some y→Pure P w I t' u y):
  yn P w I e (v.cells.zipIdx.foldl (fun cs (p:Value × Nat)=>cs.setIfInBounds (i*P.cellsOf e+p.2) p.1) cells) (es.set i (cO P e ys)):=by
 obtain ⟨h1,h2⟩:=h
 have hb:i*P.cellsOf e+v.cells.size≤cells.size:=by
  have:(i+1)*P.cellsOf e≤es.length*P.cellsOf e:=dQ _ hi
  rw[ee] at this
  omega
 refine ⟨by rw[RR,rN,h1],fun i' j x t' hx ht hj=> ?_⟩
 rw[RQ hb]
 rw[xx] at hx
 by_cases jH:i=i'
 ·subst jH
  rw[af rfl,af hi] at hx
  cases hx
  rw[ag (by omega),af (by omega),show i*P.cellsOf e+j-i*P.cellsOf e=j by omega]
  have h3:j<v.cells.size:=by omega
  have h4:j<ys.length:=by omega
  refine ⟨v.cells[j],lP h3,?_⟩
  rw[sg (bM h4) ht]
  exact hr j t' _ _ ht (lP h3) (bM h4)
 ·rw[ag jH] at hx
  have ca:i'*P.cellsOf e+j<i*P.cellsOf e∨i*P.cellsOf e+v.cells.size≤i'*P.cellsOf e+j:=by
   rcases eg i' i with a9|qT
   ·left
    have:(i'+1)*P.cellsOf e≤i*P.cellsOf e:=dQ _ a9
    rw[ee] at this
    omega
   ·right
    have:(i+1)*P.cellsOf e≤i'*P.cellsOf e:=dQ _ (by omega)
    rw[ee] at this
    omega
  rcases ca with ca|ca
  ·rw[af ca];exact h2 i' j x t' hx ht hj
  ·rw[ag (by omega),ag (by omega)];exact h2 i' j x t' hx ht hj
theorem acm {t':TypeId} {v:Value} (gq:fb P t' (xF (qC P t' v))=true):Pure P w I t' v (xF (qC P t' v)):=by
 have hc:=aj.const (P:=P) (w:=w) (I:=I) (β:=fun _=>none) (hp:=fun _=>none) t' v
 cases vM:qC P t' v<;>rw[vM] at gq hc<;>simp only[xF] at gq⊢
 case int k n=>rw[hc.e8];exact Plain.pure (v:= .int k n) (y:= .int k n) rfl gq
 case bool b=>rw[hc.kG];exact Plain.pure (v:= .bool b) (y:= .bool b) rfl gq
 case str l=>obtain ⟨s,e1,e2⟩:=hc.ny;rw[e1];exact Plain.pure (v:= .string s) (y:= .str l) ⟨s,rfl,e2⟩ gq
 case nilS e'=>
  cases hc
  exact Plain.pure (y:= .list e' []) (jD.any fun _=>rfl) gq
 case list e' es=>
  cases hc with
  | list hp=>exact Plain.pure (y:= .list e' es) hp gq
 all_goals (unfold fb at gq;split at gq<;>simp_all)
theorem Bu {e:TypeId} (h:nq P e=true): ∃i z,P.info? e=some i∧i.zero=some z∧i.size=P.cellsOf e∧z.cells.size=P.cellsOf e∧
  ∀(j:Nat) (t':TypeId),(bd P e)[j]? =some t'→j<P.cellsOf e→∃v,z.cells[j]? =some v∧Pure P w I t' v (b7 P e (cO P e (fl P e)) j):=by
 unfold nq at h
 simp only[aM] at h
 obtain ⟨i,z,h1,h2,h3,h4,h5⟩:=lr h.1
 refine ⟨i,z,h1,h2,h3,h4,fun j t' ht hj=> ?_⟩
 obtain ⟨tl,tg⟩:=vH h.2
 have dv:j<(fl P e).length:=by rw[←tl,(lp h.1).1];exact hj
 have hz:=bM dv
 have gq:=tg j t' _ (by rw[←uc];exact ht) hz
 refine ⟨z.cells[j],lP (by omega),?_⟩
 rw[sg hz ht]
 have vN:(fl P e)[j]=xF (qC P t' z.cells[j]):=by
  have:(fl P e)[j]? =((zeroCells P e)[j]?).map xF:=by simp[fl]
  rw[hz] at this
  cases hc:(zeroCells P e)[j]? with
  | none=>rw[hc] at this;cases this
  | some y=>
   rw[hc] at this
   simp only[Option.map_some,dZ] at this
   rw[h5] at hc
   obtain ⟨t2,v2,a1,a2,rfl⟩:=Lj hc
   have Lk:t2=t':=by
    rw[←uc,ht] at a1;exact (dr a1).symm
   have rY:v2=z.cells[j]:=by
    have hjz:j<z.cells.size:=by omega
    have:z.cells.toList[j]? =some z.cells[j]:=by simp[hjz]
    rw[this] at a2;exact (dr a2).symm
   rw[this,Lk,rY]
 rw[vN] at gq⊢
 exact acm gq
end
section
variable {P:Program} {w w':World} {I I':Nat→Prop} {β aq:Nat→Option Nat} {hp hp':Nat→Option ai} {C:ae} {B:Nat} {M:Nat→Prop} {w0:Start}
theorem yo (S:aH P w I β hp B M w0) {nb cap:Nat} {e:TypeId} {es:List V} {C0:Array Value} (aw:dm P e=true) (hn:hp nb=none) (hs:C0.size=cap*P.cellsOf e) (hl:es.length≤cap) (hm:cap≤maxLen)
  (hx: ∀(i j:Nat) (x:V) (t':TypeId),es[i]? =some x→(bd P e)[j]? =some t'→j<P.cellsOf e→∃v,C0[i*P.cellsOf e+j]? =some v∧Pure P w I t' v (b7 P e x j)):
  Le P w I β hp (w.alloc (.cells C0 e)) I (aL β nb (some w.heap.size)) (aL hp nb (some (.arr e es false)))∧aH P (w.alloc (.cells C0 e)) I (aL β nb (some w.heap.size)) (aL hp nb (some (.arr e es false))) B M w0∧
  aj P (w.alloc (.cells C0 e)) I (aL β nb (some w.heap.size)) (aL hp nb (some (.arr e es false))) (.slice (some ⟨w.heap.size,0,none⟩) es.length cap) (.whole e nb):=by
 obtain ⟨h1,h2⟩:=KV S (blk:= .arr e es false) (c:=C0) (T:=e) hn (fun b' h=>(dr (h.flat (by simp))).symm) (fun hle fE dj=> .arr aw rfl fE (by rw[hs];exact dQ _ hl) (fun h=>by cases h) (fun _=>dj) fun i j x t' a b c=>by
  obtain ⟨v,hv,hp⟩:=hx i j x t' a b c
  exact ⟨v,hv,hp.mono hle.dM hle.cE⟩)
 refine ⟨h1,h2,.whole (dt _ _ _) (dt _ _ _) ?_ hl hm⟩
 rw[oE (heap_alloc_new w (.cells C0 e)),hs]
theorem At.only {b b':Nat} {e e':TypeId} {es aQ:List V} {q:Path} (hz: ∀(i j:Nat) x t' e1 l,es[i]? =some x→(bd P e)[j]? =some t'→b7 P e x j= .list e1 l→l=[])
  (h:At P w b e es q b' e' aQ):q=[]∧b'=b∧e'=e∧aQ=es:=by
 cases h with
 | here=>exact ⟨rfl,rfl,rfl,rfl⟩
 | step h1 h2 h3 h4 h5 h6=>have:=hz _ _ _ _ _ _ h2 h3 h5;subst this;simp at h6
theorem nu.rX {t:TypeId} {v:Value} {x:V} (h:Pure P w I t v x) (hz: ∀e1 l,x= .list e1 l→l=[]):nu P w I t v x:=by
 cases h with
 | int h=>exact .gF (by unfold gB;rw[h]) (.int h)
 | bool h=>exact .gF (by unfold gB;rw[h]) (.bool h)
 | str h hl=>exact .gF (by unfold gB;rw[h]) (.str h hl)
 | nil h=>exact .emp h fun _=>rfl
 | emp h=>exact .emp h fun h=>by cases h
 | list g hu hl _ _ _ _=>
  have:=hz _ _ rfl
  subst this
  simp at hl
  subst hl
  exact .emp hu fun h=>by cases h
theorem acn (S:aH P w I β hp B M w0) {nb cap:Nat} {e:TypeId} {es:List V} {C0:Array Value} (aw:dm P e=true) (hn:hp nb=none) (hs:C0.size=cap*P.cellsOf e) (hl:es.length≤cap) (hm:cap≤maxLen)
  (hx: ∀(i j:Nat) (x:V) (t':TypeId),es[i]? =some x→(bd P e)[j]? =some t'→j<P.cellsOf e→∃v,C0[i*P.cellsOf e+j]? =some v∧Pure P w I t' v (b7 P e x j))
  (hz: ∀(i j:Nat) x t' e1 l,es[i]? =some x→(bd P e)[j]? =some t'→b7 P e x j= .list e1 l→l=[]):
  Le P w I β hp (w.alloc (.cells C0 e)) I (aL β nb (some w.heap.size)) (aL hp nb (some (.nest e es [0,0,0])))∧aH P (w.alloc (.cells C0 e)) I (aL β nb (some w.heap.size)) (aL hp nb (some (.nest e es [0,0,0]))) B M w0∧
  aj P (w.alloc (.cells C0 e)) I (aL β nb (some w.heap.size)) (aL hp nb (some (.nest e es [0,0,0]))) (.slice (some ⟨w.heap.size,0,none⟩) es.length cap) (.whole e nb):=by
 obtain ⟨h1,h2⟩:=KV S (blk:= .nest e es [0,0,0]) (c:=C0) (T:=e) hn (fun b' h=>by
   cases h with
   | root _ h=>exact (dr h).symm
   | row h ha=>cases h;exact (At.only hz ha).2.1)
  (fun hle fE dj=> .nest rfl (fun q b' e' aQ ha=>by
   obtain ⟨rfl,rfl,rfl,rfl⟩:=At.only hz ha
   refine ⟨aw,⟨C0,fE,by rw[hs];exact dQ _ hl,fun i j x t' a b c=> ?_⟩,dj⟩
   obtain ⟨v,hv,hp⟩:=hx i j x t' a b c
   exact ⟨v,hv,.rX (hp.mono hle.dM hle.cE) fun e1 l h=>hz i j x t' e1 l a b h⟩)
   fun q1 q2 b' e1 cH e2 cz a1 a2=>(At.only hz a1).1.trans (At.only hz a2).1.symm)
 refine ⟨h1,h2,.e7 (dt _ _ _) (dt _ _ _) ?_ hl hm⟩
 rw[oE (heap_alloc_new w (.cells C0 e)),hs]
theorem RW (cY: ∀id blk,hp id=some blk→eM P w I β hp (β id) blk) {a:Act} {sl:Nat→V} (hs:lU P w I β hp a sl) {G:Nat→V} (hg:iI P G w I) {e:TypeId} {len:Nat}: ∀{l:List (Nat × Operand)} {ps:List (Nat × V)} {upd:List (Nat × ai)} {rd:List Nat},
  (AN P e len (l.map fun p=>(p.1,aV P G e sl p.2))).run C hp=some ((ps,upd),rd)→dm P e=true→(∀p∈upd,A9 hp p)∧∀I':Nat→Prop,(∀b,I b→I' b)→(∀p∈upd,∀b,ub P w β hp p.1 b→I' b)→
   ∀(cells:Array Value) (es:List V),es.length=len→yn P w I' e cells es→∃qU,Instr.fill (fun i=>some (i*P.cellsOf e,P.cellsOf e)) cells (l.map fun p=>(p.1,a.eval p.2))=some qU∧yn P w I' e qU (AL es ps)∧(AL es ps).length=len
 | [],ps,upd,rd,h,_=>by
  cases h
  exact ⟨by simp,fun I' _ _ cells es hl he=>⟨cells,by simp[Instr.fill],he,hl⟩⟩
 | (i,x)::l,ps,upd,rd,h,aw=>by
  simp only[jV,AN] at h
  obtain ⟨⟨ys,u1⟩,l1,l2,h1,h⟩:=lV h
  obtain ⟨hc,h⟩:=aI h
  obtain ⟨⟨ps',u2⟩,l3,l4,h2,h⟩:=lV h
  have:=aU h
  cases this
  simp only[aM,kW] at hc
  obtain ⟨hi,gq⟩:=hc
  obtain ⟨tl,tg⟩:=vH gq
  have yd:=hs.ev hg e x
  obtain ⟨v1,v2⟩:=ack cY yd h1 gq
  obtain ⟨k1,k2,k3⟩:=KU cY h1 (vs:=(a.eval x).cells.toList) (by simpa using v1) v2
  obtain ⟨m1,m2⟩:=RW cY hs hg h2 aw
  refine ⟨fun p hp=> ?_,fun I' i1 i2 cells es hl he=> ?_⟩
  ·rcases eP.1 hp with h|h
   ·exact k2 p h
   ·exact m1 p h
  ·have fD:=k3 I' i1 (fun p hp=>i2 p (eP.2 (.inl hp)))
   have bn:=(lp aw).1
   have vK:ys.length=P.cellsOf e:=by rw[←tl,bn]
   have RB:(a.eval x).cells.size=P.cellsOf e:=by rw[v1,←k1,vK]
   have vO:=he.set (i:=i) (ys:=ys) (by omega) RB vK (fun j t' u y ht hu hy=>by
    exact (fD j u y (by simpa using hu) hy).pure (tg j t' y (by rw[←uc];exact ht) hy))
   obtain ⟨qU,f1,f2,f3⟩:=m2 I' i1 (fun p hp=>i2 p (eP.2 (.inr hp))) _ (es.set i (cO P e ys)) (by simpa using hl) vO
   refine ⟨qU,?_,f2,f3⟩
   have hb:i*P.cellsOf e+P.cellsOf e≤cells.size:=by
    rw[he.1,hl]
    have:(i+1)*P.cellsOf e≤len*P.cellsOf e:=dQ _ hi
    rw[ee] at this
    omega
   simp only[jV,Instr.fill]
   rw[ag (by simp;omega)]
   exact f1
theorem RX {z:Array Value} {n k:Nat} (hk:k<n) (hz:0<z.size):((Array.range n).map (z[· %z.size]!))[k]? =z[k %z.size]? :=by
 have hm:k %z.size<z.size:=xy _ hz
 simp[hk,hm]
theorem Gp {e:TypeId} (h:nq P e=true) {i:TypeInfo} {z:Value} (hi:P.info? e=some i) (hz:i.zero=some z) (n m:Nat) (pE:n≤m):
  ∀(k j:Nat) (x:V) (t':TypeId),(List.replicate n (cO P e (fl P e)))[k]? =some x→(bd P e)[j]? =some t'→j<P.cellsOf e→
   ∃v,((Array.range (m*P.cellsOf e)).map (z.cells[· %z.cells.size]!))[k*P.cellsOf e+j]? =some v∧Pure P w I t' v (b7 P e x j):=by
 intro k j x t' hx ht hj
 obtain ⟨i2,z2,h1,h2,h3,h4,h5⟩:=Bu (w:=w) (I:=I) h
 rw[hi] at h1;cases h1
 rw[hz] at h2;cases h2
 rw[Aj] at hx
 split at hx
 ·rename_i hk
  cases hx
  obtain ⟨v,hv,hp⟩:=h5 j t' ht hj
  refine ⟨v,?_,hp⟩
  have hb:k*P.cellsOf e+j<m*P.cellsOf e:=by
   have:(k+1)*P.cellsOf e≤m*P.cellsOf e:=dQ _ (by omega)
   rw[ee] at this
   omega
  rw[RX hb (by omega),h4,show (k*P.cellsOf e+j) %P.cellsOf e=j by rw[ic,Nat.mul_add_mod];exact Ak hj]
  exact hv
 ·cases hx
theorem aco {P:Program} (w:World) (t e:TypeId) (len:Nat) (parts:Array (Nat × Value)) (cells:Array Value) (ie:TypeInfo) (z:Value)
  (hu:P.underlying t=some (.slice e)) (kI:P.info? e=some ie) (hz:ie.zero=some z) (acp: ¬len*ie.size>2^24)
  (h:Instr.fill (fun i=>some (i*ie.size,ie.size)) ((Array.range (len*ie.size)).map (z.cells[· %z.cells.size]!)) parts.toList=some cells):
  (Instr.buildSlice t len parts).run P w= .ok (.slice (some ⟨w.heap.size,0,none⟩) len len) (w.alloc (.cells cells e)):=by
 by_cases pE:len*ie.size=0
 ·have h0: ∀g:Nat→Value,(Array.range (len*ie.size)).map g= #[]:=by intro g;exact Array.eq_empty_of_size_eq_zero (by simp[pE])
  have hp: ∀(u:Array Value),(Pure.pure u:Sem (Array Value)).run P w= .ok u w:=fun _=>rfl
  rw[h0] at h
  simp only[Instr.buildSlice,Sem.run_bind,run_underlying hu,Result.andThen_ok,sizeOf,typeInfo,kI]
  have h1:(Array.range (len*ie.size)).map (fun _:Nat=>(default:Value))= #[]:=h0 _
  have hs: ¬16777216<len*ie.size:=by omega
  simp[kI,hs,pE]
  simp only[pE] at h1
  simp[h1,h,newRow]
 ·exact run_buildSlice w t e len parts cells ie z hu kI hz acp pE h
theorem acq (S:aH P w I β hp B M w0) {a:Act} {sl:Nat→V} (hs:lU P w I β hp a sl) {G:Nat→V} (hg:iI P G w I) {t e:TypeId} {len nb:Nat} {ps:Array (Nat × Operand)} {r:R} {rd:List Nat} (hu:P.underlying t=some (.slice e))
  (h:(Rd.aB (nq P e&&Nat.ble (len*P.cellsOf e) (2^24)) ((AN P e len (ps.toList.map fun p=>(p.1,aV P G e sl p.2))).bind fun r=>
    jY nb (.arr e (AL (List.replicate len (cO P e (fl P e))) r.1) false) (.whole e nb) r.2)).run C hp=some (r,rd)):
  dz P ((Instr.buildSlice t len (ps.map fun (i,x)=>(i,a.eval x))).run P w) w I β hp B M w0 r:=by
 obtain ⟨hc,h⟩:=aI h
 simp only[aM,fy] at hc
 obtain ⟨dq,xT⟩:=hc
 have aw:dm P e=true:=by
  unfold nq at dq;simp only[aM] at dq;exact dq.1
 obtain ⟨⟨pv,upd⟩,l1,l2,h1,h⟩:=lV h
 obtain ⟨hn,rfl⟩:=oM h
 obtain ⟨m1,m2⟩:=RW S.h.rel hs hg h1 aw
 obtain ⟨sj,S1⟩:=Be S m1
 obtain ⟨i,z,hi,hz,h3,h4,_⟩:=Bu (w:=w) (I:=I) dq
 have jE:=(lp aw).2
 have h0:yn P w (jF P w I β hp upd) e ((Array.range (len*P.cellsOf e)).map (z.cells[· %z.cells.size]!)) (List.replicate len (cO P e (fl P e))):=
  ⟨by simp,Gp dq hi hz len len (ax _)⟩
 obtain ⟨cells,f1,f2,f3⟩:=m2 (jF P w I β hp upd) (fun _ h=> .inl h) (fun p hp b h=> .inr ⟨p,hp,h⟩) _ _ (by simp) h0
 have lu:b9 hp upd nb=none:=by
  rcases vB (hp:=hp) (l:=upd) (id:=nb) with h|⟨b',hm,_⟩
  ·exact h.trans hn
  ·obtain ⟨e1,cH,_,h5⟩:=m1 _ hm
   simp only[hn] at h5
   rcases h5 with ⟨_,h5⟩|⟨_,h5⟩<;>cases h5
 have pN:len≤maxLen:=by
  have:len*1≤len*P.cellsOf e:=vb _ jE
  simp only[maxLen]
  omega
 obtain ⟨n1,n2,n3⟩:=yo S1 (cap:=len) aw lu (by rw[f2.1,f3]) (by rw[f3];exact ax _) pN f2.2
 have dw:=aco w t e len (ps.map fun (i,x)=>(i,a.eval x)) cells i z hu hi hz (by rw[h3];omega) (by rw[h3];simpa using f1)
 refine ⟨_,_,_,_,dw,sj.trans n1,n2,?_⟩
 rw[f3] at n3
 exact n3
theorem RY (S:aH P w I β hp B M w0) {t e:TypeId} {nb:Nat} {kl kc:IntKind} {n m:Int} {r:R} {rd:List Nat} (hu:P.underlying t=some (.slice e))
  (h:(Rd.aB (nq P e&&(decide (0≤n)&&(decide (n≤m)&&Nat.ble (m.toNat*P.bytesOf e) bP)))
    (jY nb (.arr e (List.replicate n.toNat (cO P e (fl P e))) false) (.whole e nb) [])).run C hp=some (r,rd)):
  dz P ((Instr.makeSlice t (.int kl n) (.int kc m)).run P w) w I β hp B M w0 r:=by
 obtain ⟨hc,h⟩:=aI h
 simp only[aM,fy,eE] at hc
 obtain ⟨dq,h0,pE,fe⟩:=hc
 have aw:dm P e=true:=by
  unfold nq at dq;simp only[aM] at dq;exact dq.1
 obtain ⟨hn,rfl⟩:=oM h
 obtain ⟨i,z,hi,hz,h3,h4,_⟩:=Bu (w:=w) (I:=I) dq
 have nC:P.bytesOf e=i.bytes:=by simp[Program.bytesOf,hi]
 have Ll:m≤9223372036854775807:=by
  have h1:m.toNat*1≤m.toNat*P.bytesOf e:=vb _ (xV aw)
  simp only[bP] at fe
  omega
 have dw:=run_make (P:=P) w t e i z hu hi hz kl kc n m h0 pE (by
  rw[nC] at fe
  simp only[bP] at fe
  have:(i.bytes:Int)*m=((m.toNat*i.bytes:Nat):Int):=by
   rw[Int.natCast_mul,Int.toNat_of_nonneg (by omega),Int.mul_comm]
  rw[this]
  omega) Ll
 have hlen:(List.replicate n.toNat (cO P e (fl P e))).length=n.toNat:=by simp
 obtain ⟨n1,n2,n3⟩:=yo S (cap:=m.toNat) (es:=List.replicate n.toNat (cO P e (fl P e))) (C0:=madeCells z.cells (m.toNat*i.size)) aw hn (by rw[size_madeCells,h3]) (by rw[hlen];omega) (by simp only[maxLen];omega)
  (by rw[h3];exact Gp dq hi hz n.toNat m.toNat (by omega))
 refine ⟨_,_,_,_,dw,n1,n2,?_⟩
 rw[hlen] at n3
 exact n3
theorem Lm: ∀{l:List V} {j:Nat} {e1:TypeId} {k:List V},AW l=true→V.nth l j= .list e1 k→k=[]
 | [],j,e1,k,_,h=>by cases j<;>cases h
 | x::l,0,e1,k,hn,h=>by
  simp only[V.nth] at h
  subst h
  cases k with
  | nil=>rfl
  | cons _ _=>cases hn
 | x::l,j+1,e1,k,hn,h=>by
  refine Lm (l:=l) (j:=j) ?_ h
  cases x with
  | list e2 k2=>
   cases k2 with
   | nil=>exact hn
   | cons _ _=>cases hn
  | _=>exact hn
theorem acr {e:TypeId} {n:Nat} (aw:dm P e=true) (h:AW (fl P e)=true):
  ∀(i j:Nat) x t' e1 l,(List.replicate n (cO P e (fl P e)))[i]? =some x→(bd P e)[j]? =some t'→b7 P e x j= .list e1 l→l=[]:=by
 intro i j x t' e1 l hx ht hl
 have:=List.eq_of_mem_replicate (jU hx)
 subst this
 unfold b7 cO at hl
 cases ha:bW P e with
 | true=>rw[ha] at hl;exact Lm h hl
 | false=>rw[ha] at hl;exact Lm h hl
theorem acs (S:aH P w I β hp B M w0) {t e:TypeId} {nb:Nat} {kl kc:IntKind} {n m:Int} {r:R} {rd:List Nat} (hu:P.underlying t=some (.slice e))
  (h:(Rd.aB (nq P e&&(decide (0≤n)&&(decide (n≤m)&&Nat.ble (m.toNat*P.bytesOf e) bP)))
    (Rd.aB (AW (fl P e)) (jY nb (.nest e (List.replicate n.toNat (cO P e (fl P e))) [0,0,0]) (.whole e nb) []))).run C hp=some (r,rd)):
  dz P ((Instr.makeSlice t (.int kl n) (.int kc m)).run P w) w I β hp B M w0 r:=by
 obtain ⟨hc,h⟩:=aI h
 simp only[aM,fy,eE] at hc
 obtain ⟨dq,h0,pE,fe⟩:=hc
 have aw:dm P e=true:=by
  unfold nq at dq;simp only[aM] at dq;exact dq.1
 obtain ⟨hnr,h⟩:=aI h
 obtain ⟨hn,rfl⟩:=oM h
 obtain ⟨i,z,hi,hz,h3,h4,_⟩:=Bu (w:=w) (I:=I) dq
 have nC:P.bytesOf e=i.bytes:=by simp[Program.bytesOf,hi]
 have Ll:m≤9223372036854775807:=by
  have h1:m.toNat*1≤m.toNat*P.bytesOf e:=vb _ (xV aw)
  simp only[bP] at fe
  omega
 have dw:=run_make (P:=P) w t e i z hu hi hz kl kc n m h0 pE (by
  rw[nC] at fe
  simp only[bP] at fe
  have:(i.bytes:Int)*m=((m.toNat*i.bytes:Nat):Int):=by
   rw[Int.natCast_mul,Int.toNat_of_nonneg (by omega),Int.mul_comm]
  rw[this]
  omega) Ll
 have hlen:(List.replicate n.toNat (cO P e (fl P e))).length=n.toNat:=by simp
 obtain ⟨n1,n2,n3⟩:=acn S (cap:=m.toNat) (es:=List.replicate n.toNat (cO P e (fl P e))) (C0:=madeCells z.cells (m.toNat*i.size)) aw hn (by rw[size_madeCells,h3]) (by rw[hlen];omega) (by simp only[maxLen];omega)
  (by rw[h3];exact Gp dq hi hz n.toNat m.toNat (by omega))
  (acr aw hnr)
 refine ⟨_,_,_,_,dw,n1,n2,?_⟩
 rw[hlen] at n3
 exact n3
theorem Pure.one {t:TypeId} {v:Value} {x:V} (h:Pure P w I t v x):v.oneCell'=true:=by cases h<;>rfl
structure Row (P:Program) (w:World) (I:Nat→Prop) (e:TypeId) (v:Value) (xs:List V) (a:Addr) (c:Nat) (news:List Value):Prop where
 val:v= .slice (some a) xs.length c
 len:news.length=xs.length*P.cellsOf e
 cell: ∀(j:Nat) u,news[j]? =some u→w.cell? (a.add j)=some u
 el: ∀(i j:Nat) (x:V) (t':TypeId),xs[i]? =some x→(bd P e)[j]? =some t'→j<P.cellsOf e→∃u,news[i*P.cellsOf e+j]? =some u∧Pure P w I t' u (b7 P e x j)
theorem Row.one {e:TypeId} {v:Value} {xs:List V} {a:Addr} {c:Nat} {news:List Value} (h:Row P w I e v xs a c news) (aw:dm P e=true): ∀u∈news,u.oneCell'=true:=by
 intro u hu
 obtain ⟨k,hk⟩:=tF hu
 have mG:=(bH.1 hk).1
 have jE:=(lp aw).2
 rw[h.len] at mG
 have hi:k/P.cellsOf e<xs.length:=Nat.div_lt_of_lt_mul (by rw[ic];exact mG)
 have hj:k %P.cellsOf e<P.cellsOf e:=xy _ jE
 have il:k %P.cellsOf e<(bd P e).length:=by rw[gp aw];exact hj
 obtain ⟨u',gI,hp⟩:=h.el (k/P.cellsOf e) (k %P.cellsOf e) _ _ (bM hi) (bM il) hj
 rw[Nat.div_add_mod'] at gI
 rw[hk] at gI
 cases gI
 exact hp.one
theorem RZ {e:TypeId} {es:List V} {b:Nat} {Ca:Array Value} {off len cap o:Nat} (hh:w.heap[b]? =some (.cells Ca e (0,0))) (hs:es.length*P.cellsOf e≤Ca.size)
  (hx: ∀(i j:Nat) (x:V) (t':TypeId),es[i]? =some x→(bd P e)[j]? =some t'→j<P.cellsOf e→∃v,Ca[i*P.cellsOf e+j]? =some v∧Pure P w I t' v (b7 P e x j))
  (j7:off+len≤es.length) (ho:0<len→o=off*P.cellsOf e):
  Row P w I e (.slice (some ⟨b,o,none⟩) len cap) ((es.drop off).take len) ⟨b,o,none⟩ cap ((Ca.toList.drop (off*P.cellsOf e)).take (len*P.cellsOf e)):=by
 have hlen:((es.drop off).take len).length=len:=by simp;omega
 have hb:(off+len)*P.cellsOf e≤Ca.size:=jT (dQ _ j7) hs
 rw[ee] at hb
 refine ⟨by rw[hlen],by rw[hlen];simp;omega,fun j u hj=> ?_,fun i j x t' ij ht hj=> ?_⟩
 ·have dv:=(bH.1 hj).1
  have Ln:j<len*P.cellsOf e:=by
   rw[iZ] at dv;omega
  have nv:0<len:=by
   rcases Nat.eq_zero_or_pos len with h|h
   ·rw[h] at Ln;simp at Ln
   ·exact h
  rw[fK Ln,iX] at hj
  rw[oJ,cell?_cells hh,ho nv]
  simpa using hj
 ·have hi:i<len:=by rw[←hlen];exact (bH.1 ij).1
  rw[fK hi,iX] at ij
  obtain ⟨u,hu,hp⟩:=hx (off+i) j x t' ij ht hj
  refine ⟨u,?_,hp⟩
  have:i*P.cellsOf e+j<len*P.cellsOf e:=by
   have:(i+1)*P.cellsOf e≤len*P.cellsOf e:=dQ _ hi
   rw[ee] at this
   omega
  rw[fK this,iX]
  rw[ee] at hu
  rw[←pC]
  simpa using hu
theorem Gq (cY: ∀id blk,hp id=some blk→eM P w I β hp (β id) blk) {e:TypeId} {v:Value} {x:V} {k:List V→Rd R} {r:R} {rd:List Nat} (aw:dm P e=true) (hv:aj P w I β hp v x)
  (h:(tR e x k).run C hp=some (r,rd)): ∃xs,(((∃a,v= .slice a 0 0)∧xs=[])∨∃a c news,Row P w I e v xs a c news)∧∃l,(k xs).run C hp=some (r,l):=by
 cases hv with
 | list hp'=>
  obtain ⟨hc,h2⟩:=aI h
  clear h
  rw[ba] at hc
  subst hc
  cases hp' with
  | nil=>exact ⟨[],.inl ⟨⟨_,rfl⟩,rfl⟩,rd,h2⟩
  | @emp a cap=>exact ⟨[],.inr ⟨a,cap,[],⟨rfl,by simp,fun j u hj=>by simp at hj,fun i j x t' hx _ _=>by simp at hx⟩⟩,rd,h2⟩
  | @list b o len cap es g hl cA hI gZ hx=>
   refine ⟨_,.inr ⟨⟨b,o,none⟩,cap,(List.range (len*P.cellsOf e)).map fun k=>g (k/P.cellsOf e) (k %P.cellsOf e),⟨by rw[hl],by rw[hl];simp,fun j u hj=> ?_,fun i j x t' ij ht hj=> ?_⟩⟩,rd,h2⟩
   ·obtain ⟨dv,jm⟩:=bH.1 hj
    simp at dv jm
    have jE:=(lp aw).2
    have hi:j/P.cellsOf e<len:=Nat.div_lt_of_lt_mul (by rw[ic];exact dv)
    have cp:j %P.cellsOf e<P.cellsOf e:=xy _ jE
    rw[oJ,←jm]
    have:=gZ (j/P.cellsOf e) (j %P.cellsOf e) hi cp
    rwa [Nat.div_add_mod'] at this
   ·have hi:i<len:=by rw[←hl];exact (bH.1 ij).1
    have hb:i*P.cellsOf e+j<len*P.cellsOf e:=by
     have:(i+1)*P.cellsOf e≤len*P.cellsOf e:=dQ _ hi
     rw[ee] at this
     omega
    refine ⟨g i j,?_,hx i j x t' ij ht⟩
    have e1:(i*P.cellsOf e+j)/P.cellsOf e=i:=by
     rw[ic,Al (lp aw).2,Am hj,Nat.add_zero]
    have e2:(i*P.cellsOf e+j) %P.cellsOf e=j:=by
     rw[ic,Nat.mul_add_mod];exact Ak hj
    simp[hb,e1,e2]
 | nilS=>
  obtain ⟨hc,h⟩:=aI h
  exact ⟨[],.inl ⟨⟨_,rfl⟩,rfl⟩,rd,h⟩
 | ep ab hb=>
  obtain ⟨l,h⟩:=run_get h
  simp only[ab] at h
  obtain ⟨hc,h⟩:=aI h
  exact ⟨[],.inl ⟨⟨_,rfl⟩,rfl⟩,l,h⟩
 | @whole e' id es fz b cap ab hb bn cA hm=>
  obtain ⟨l,h⟩:=run_get h
  simp only[ab] at h
  obtain ⟨hc,h2⟩:=aI h
  clear h
  simp only[aM,ba] at hc
  obtain ⟨rfl,_⟩:=hc
  have hr:=cY _ _ ab
  cases hr with
  | eu az=>rw[az] at hb;cases hb
  | arr KZ az hh hs hf eU hx=>
   rw[hb] at az;cases az
   have:=RZ (cap:=cap) (off:=0) (len:=es.length) (o:=0) hh hs hx (by omega) (fun _=>by simp)
   exact ⟨es,.inr ⟨_,_,_,by simpa using this⟩,l,h2⟩
 | gG ab hb=>
  obtain ⟨l,h⟩:=run_get h
  simp only[ab] at h
  obtain ⟨hc,h⟩:=aI h
  exact ⟨[],.inl ⟨⟨_,rfl⟩,rfl⟩,l,by simpa using h⟩
 | @sub e' id off len es fz b o cap ab hb j7 cA ho=>
  obtain ⟨l,h⟩:=run_get h
  simp only[ab] at h
  obtain ⟨hc,h2⟩:=aI h
  clear h
  simp only[aM,ba] at hc
  obtain ⟨rfl,_⟩:=hc
  have hr:=cY _ _ ab
  cases hr with
  | eu az=>rw[az] at hb;cases hb
  | arr KZ az hh hs hf eU hx=>
   rw[hb] at az;cases az
   exact ⟨_,.inr ⟨_,_,_,RZ (cap:=cap) hh hs hx j7 ho⟩,l,h2⟩
 | eT ab=>
  obtain ⟨l,h⟩:=run_get h
  simp only[ab] at h
  cases h
 | gY ab=>
  obtain ⟨l,h⟩:=run_get h
  simp only[ab] at h
  cases h
 | undef=>cases h
 | int=>cases h
 | bool=>cases h
 | str=>cases h
 | agg=>cases h
 | bx=>cases h
 | dR=>cases h
 | fn=>cases h
 | pref=>cases h
 | ll=>cases h
 | ptr=>cases h
 | kB=>cases h
 | kC=>cases h
 | row=>cases h
 | cW=>cases h
 | dS=>cases h
 | jk=>cases h
 | cm=>cases h
 | e7 ab=>
  obtain ⟨l,h⟩:=run_get h
  simp only[ab] at h
  cases h
theorem R0 {t ty e:TypeId} {i:TypeInfo} (ht:P.underlying t=some (.slice e)) (hi:P.info? e=some i) (a:Option Addr) (n cap:Nat) (x:Value) (hx: ∃a c,x= .slice a 0 c) (hn:n≤cap):
  (Builtin.append_ #[t,t] ty #[.slice a n cap,x]).run P w= .ok (.slice a n cap) w:=by
 obtain ⟨a',c,rfl⟩:=hx
 cases a' with
 | none=>cases a<;>simp[Builtin.append_,run_underlying ht,sizeOf,typeInfo,hi,Builtin.lenOf,Builtin.firstCells,hn,storeCells]
 | some a'=>cases a<;>simp[Builtin.append_,run_underlying ht,sizeOf,typeInfo,hi,Builtin.lenOf,Builtin.firstCells,hn,storeCells,loadCells,loadCellsFrom]
theorem Gr {e:TypeId} {es xs:List V} {n:Nat} {c:List Value} {news:List Value} (hn:es.length=n)
  (h1: ∀(i j:Nat) (x:V) (t':TypeId),es[i]? =some x→(bd P e)[j]? =some t'→j<P.cellsOf e→∃v,c[i*P.cellsOf e+j]? =some v∧Pure P w I t' v (b7 P e x j))
  (h2: ∀(i j:Nat) (x:V) (t':TypeId),xs[i]? =some x→(bd P e)[j]? =some t'→j<P.cellsOf e→∃v,news[i*P.cellsOf e+j]? =some v∧Pure P w I t' v (b7 P e x j))
  (hb:n*P.cellsOf e≤c.length) (rest:List Value):
  ∀(i j:Nat) (x:V) (t':TypeId),(es++xs)[i]? =some x→(bd P e)[j]? =some t'→j<P.cellsOf e→∃v,(c.take (n*P.cellsOf e)++news++rest)[i*P.cellsOf e+j]? =some v∧Pure P w I t' v (b7 P e x j):=by
 intro i j x t' hx ht hj
 have hl:(c.take (n*P.cellsOf e)).length=n*P.cellsOf e:=by simp;omega
 by_cases hi:i<n
 ·rw[kY (by omega)] at hx
  obtain ⟨v,hv,hp⟩:=h1 i j x t' hx ht hj
  have:i*P.cellsOf e+j<n*P.cellsOf e:=by
   have:(i+1)*P.cellsOf e≤n*P.cellsOf e:=dQ _ hi
   rw[ee] at this
   omega
  exact ⟨v,by rw[dk,kY (by omega),fK this];exact hv,hp⟩
 ·rw[kZ (by omega),hn] at hx
  obtain ⟨v,hv,hp⟩:=h2 (i-n) j x t' hx ht hj
  have iM:i-n<xs.length:=(bH.1 hx).1
  have e1:i*P.cellsOf e+j-n*P.cellsOf e=(i-n)*P.cellsOf e+j:=by
   rw[Nat.sub_mul]
   have:n*P.cellsOf e≤i*P.cellsOf e:=dQ _ (by omega)
   omega
  have h3:(i-n)*P.cellsOf e+j<news.length:=(bH.1 hv).1
  refine ⟨v,?_,hp⟩
  have h4:n*P.cellsOf e≤i*P.cellsOf e+j:=by
   have:n*P.cellsOf e≤i*P.cellsOf e:=dQ _ (by omega)
   omega
  rw[dk,kZ (by omega),hl,e1,kY h3]
  exact hv
theorem Pure.drew {t:TypeId} {v:Value} {x:V} (h:Pure P w I t v x):Pure P w.drew I t v x:=Pure.mono (w:=w) (w':=w.drew) (fun _ h=>h) (fun _ _=>rfl) h
theorem acu (w:World) (t ty e:TypeId) (i:TypeInfo) (z:Value) (ht:P.underlying t=some (.slice e)) (hi:P.info? e=some i) (hz:i.zero=some z)
  (a0:Option Addr) (a:Addr) (n c:Nat) (news:List Value) (hl:news.length=n*i.size) (Gs: ∀j v,news[j]? =some v→w.cell? (a.add j)=some v)
  (h0:0<n) (Gt:(n:Int)≤9223372036854775807) (Gu:n*i.bytes≤281474976710656):
  (Builtin.append_ #[t,t] ty #[.slice a0 0 0,.slice (some a) n c]).run P w=
   .ok (.slice (some ⟨w.heap.size,0,none⟩) n (grownCap w n 0 e)) (w.drew.alloc (.cells (news.toArray++Builtin.zeroCells z.cells (grownCap w n 0 e-n)) e)):=by
 cases a0 with
 | none=>exact run_append_nil w t ty e i z ht hi hz a n c news hl Gs h0 Gt Gu
 | some b=>
  have:=run_append_grow (P:=P) w t ty e i z ht hi hz b 0 0 [] (by simp) (by simp) a n c news hl Gs (by omega) (by omega) (by rw[eh,nextslicecap_zero h0];omega)
  simpa using this
theorem Lo (S:aH P w I β hp B M w0) {t ty e:TypeId} {nb:Nat} {x:Value} {xs:List V} (hu:P.underlying t=some (.slice e)) (aw:dm P e=true) (hn:hp nb=none)
  (fe:xs.length*P.bytesOf e≤bP) {a0:Option Addr} (hx:((∃a,x= .slice a 0 0)∧xs=[])∨∃a c news,Row P w I e x xs a c news):
  ∃v w' aq,(Builtin.append_ #[t,t] ty #[.slice a0 0 0,x]).run P w= .ok v w'∧Le P w I β hp w' I aq (aL hp nb (some (.arr e xs false)))∧aH P w' I aq (aL hp nb (some (.arr e xs false))) B M w0∧
   aj P w' I aq (aL hp nb (some (.arr e xs false))) v (.whole e nb):=by
 obtain ⟨i,z,hi,hz,h3,h4,_⟩:=lr aw
 have vP:=xV aw
 have nC:P.bytesOf e=i.bytes:=by simp[Program.bytesOf,hi]
 have hlen:xs.length≤2^45:=by
  have:xs.length*1≤xs.length*P.bytesOf e:=vb _ vP
  simp only[bP] at fe
  omega
 have empty:xs=[]→(∃a c,x= .slice a 0 c)→∃v w' aq,(Builtin.append_ #[t,t] ty #[.slice a0 0 0,x]).run P w= .ok v w'∧Le P w I β hp w' I aq (aL hp nb (some (.arr e xs false)))∧aH P w' I aq (aL hp nb (some (.arr e xs false))) B M w0∧
   aj P w' I aq (aL hp nb (some (.arr e xs false))) v (.whole e nb):=by
  intro im Lp
  subst im
  obtain ⟨a1,a2⟩:=F4 S e hn
  exact ⟨_,_,_,R0 hu hi a0 0 0 x Lp (ax _),a1,a2,.ep (dt _ _ _) (dt _ _ _)⟩
 rcases hx with ⟨⟨_,rfl⟩,rfl⟩|⟨a,c,news,hr⟩
 ·exact empty rfl ⟨_,_,rfl⟩
 ·by_cases h0:xs.length=0
  ·have im:xs=[]:=oq h0
   refine empty im ⟨some a,c,?_⟩
   rw[hr.val,h0]
  ·have dw:=acu (P:=P) w t ty e i z hu hi hz a0 a xs.length c news (by rw[hr.len,h3]) hr.cell (by omega) (by omega) (by rw[←nC];simp only[bP] at fe;omega)
   have qT:=grownCap_ge w xs.length 0 e
   have vQ:grownCap w xs.length 0 e≤maxLen:=grownCap_le_maxLen w xs.length 0 e (by simp only[maxLen];omega)
   obtain ⟨n1,n2,n3⟩:=yo S.drew (nb:=nb) (cap:=grownCap w xs.length 0 e) (es:=xs) (C0:=news.toArray++Builtin.zeroCells z.cells (grownCap w xs.length 0 e-xs.length)) aw hn
    (by simp only[Ft,rM,size_zeroCells,h4,hr.len,←ee];congr 1;omega) qT vQ
    (fun i' j y t' hy ht hj=>by
     obtain ⟨u,gI,hp⟩:=hr.el i' j y t' hy ht hj
     have a9:=(bH.1 gI).1
     refine ⟨u,?_,Pure.drew hp⟩
     rw[Array.getElem?_append_left (by simpa using a9)]
     simpa using gI)
   rw[hr.val]
   exact ⟨_,_,_,dw,(Le.drew w I β hp).trans n1,n2,n3⟩
theorem acv (S:aH P w I β hp B M w0) {t ty e:TypeId} {nb:Nat} {s x:Value} {sv xv:V} {r:R} {rd:List Nat} (hu:P.underlying t=some (.slice e)) (hs:aj P w I β hp s sv) (hx:aj P w I β hp x xv)
  (h:(xK P nb e sv xv).run C hp=some (r,rd)):dz P ((Builtin.append_ #[t,t] ty #[s,x]).run P w) w I β hp B M w0 r:=by
 unfold xK at h
 obtain ⟨aw,h⟩:=aI h
 obtain ⟨xs,mH,l0,h⟩:=Gq S.h.rel aw hx h
 cases sv with
 | nilS e'=>
  obtain ⟨hc,h⟩:=aI h
  simp only[aM,ba,fy] at hc
  obtain ⟨hn,rfl⟩:=oM h
  obtain ⟨a0,rfl⟩: ∃a0,s= .slice a0 0 0:=by cases hs;exact ⟨_,rfl⟩
  obtain ⟨v,w',aq,a1,a2,a3,a4⟩:=Lo (ty:=ty) S hu aw hn hc.2 mH
  exact ⟨v,w',I,aq,a1,a2,a3,a4⟩
 | whole e' id=>
  obtain ⟨l,h⟩:=run_get h
  cases ab:hp id with
  | none=>rw[ab] at h;cases h
  | some blk=>
   rw[ab] at h
   cases blk with
   | dead=>cases h
   | var _=>cases h
   | nest _ _ _=>cases h
   | map _ _=>cases h
   | arr ej es fz=>
    cases fz with
    | true=>cases h
    | false=>
     obtain ⟨hc,h⟩:=aI h
     obtain ⟨hn,rfl⟩:=oM h
     simp only[aM,ba,fy] at hc
     obtain ⟨Lq,Lr,fe⟩:=hc
     subst Lq
     subst Lr
     have ca:nb≠id:=fun e=>by rw[e,ab] at hn;cases hn
     obtain ⟨k1,k2⟩:=F5 S ab
     have lu:aL hp id (some ai.dead) nb=none:=by rw[eV _ _ ca];exact hn
     cases hs with
     | eT hd=>rw[ab] at hd;cases hd
     | e7 hd=>rw[ab] at hd;cases hd
     | ep hd hb=>
      rw[ab] at hd
      cases hd
      simp only[List.length_nil,eh] at fe
      have acw:((∃a,x= .slice a 0 0)∧xs=[])∨∃a c news,Row P w I e x xs a c news:=mH
      obtain ⟨v,w',aq,a1,a2,a3,a4⟩:=Lo (ty:=ty) k2 hu aw lu fe acw
      exact ⟨v,w',I,aq,a1,k1.trans a2,a3,a4⟩
     | @whole _ _ aQ oB b cap hd hb bn cA hm=>
      rw[ab] at hd
      cases hd
      have hr:=S.h.rel id _ ab
      cases hr with
      | eu az=>rw[az] at hb;cases hb
      | @arr _ _ _ b' Ca _ az hh qV hf eU nD=>
       rw[hb] at az
       cases az
       obtain ⟨i,z,hi,hz,h3,h4,_⟩:=lr aw
       have vP:=xV aw
       have nC:P.bytesOf e=i.bytes:=by simp[Program.bytesOf,hi]
       have hlen:es.length+xs.length≤2^45:=by
        have:(es.length+xs.length)*1≤(es.length+xs.length)*P.bytesOf e:=vb _ vP
        simp only[bP] at fe
        omega
       rw[oE hh] at bn
       have sb: ∀aE blk',aL hp id (some ai.dead) aE=some blk'→¬bK P w (β aE) blk' b:=by
        intro aE blk' h1 h2
        by_cases jH:aE=id
        ·subst jH;rw[dt] at h1;cases h1;exact h2.alive rfl
        ·rw[eV _ _ jH] at h1
         exact jH (S.h.inj aE id blk' _ b h1 ab h2 (.root (by simp) hb))
       have Ls:=S.h.tZ id _ b ab (by simp) hb
       have room: ∀(C':Array Value) (w':World) (ys:List V),w'.heap[b]? =some (.cells C' e (0,0))→C'.size=Ca.size→(∀b',b'≠b→w'.heap[b']? =w.heap[b']?)→w.heap.size≤w'.heap.size→(w'.os=w.os∧w'.output=w.output)→ys.length≤cap→
         (∀(i j:Nat) (y:V) (t':TypeId),ys[i]? =some y→(bd P e)[j]? =some t'→j<P.cellsOf e→∃v,C'[i*P.cellsOf e+j]? =some v∧Pure P w I t' v (b7 P e y j))→
         Le P w I β hp w' I (aL β nb (some b)) (aL (aL hp id (some .dead)) nb (some (.arr e ys false)))∧aH P w' I (aL β nb (some b)) (aL (aL hp id (some .dead)) nb (some (.arr e ys false))) B M w0∧
         aj P w' I (aL β nb (some b)) (aL (aL hp id (some .dead)) nb (some (.arr e ys false))) (.slice (some ⟨b,0,none⟩) ys.length cap) (.whole e nb):=by
        intro C' w' ys hC pT kJ hwz acx vK hy
        obtain ⟨a1,a2⟩:=Bg k2 (blk:= .arr e ys false) (w':=w') lu sb (eU rfl) (fun b' h _=>kJ b' h) hwz acx Ls
         (fun b' h=>(dr (h.flat (by simp))).symm) (fun hle=> .arr aw rfl hC (by rw[pT,←bn];exact dQ _ vK) (fun h=>by cases h) (fun _=>eU rfl) fun i j y t' a b c=>by
          obtain ⟨v,hv,hp⟩:=hy i j y t' a b c
          exact ⟨v,hv,hp.mono hle.dM hle.cE⟩)
        refine ⟨k1.trans a1,a2,.whole (dt _ _ _) (dt _ _ _) ?_ vK hm⟩
        rw[oE hC,pT,bn]
       have same:xs=[]→(∃a c,x= .slice a 0 c)→dz P ((Builtin.append_ #[t,t] ty #[.slice (some ⟨b,0,none⟩) es.length cap,x]).run P w) w I β hp B M w0 ⟨.whole e nb,[(nb,.arr e (es++xs) false),(id,.dead)]⟩:=by
        intro im Lp
        subst im
        rw[iD]
        obtain ⟨a1,a2,a3⟩:=room Ca w es hh rfl (fun _ _=>rfl) (ax _) ⟨rfl,rfl⟩ cA nD
        exact ⟨_,_,_,_,R0 hu hi _ _ _ x Lp cA,a1,a2,a3⟩
       rcases mH with ⟨⟨_,rfl⟩,rfl⟩|⟨a,c,news,cK⟩
       ·exact same rfl ⟨_,_,rfl⟩
       ·have h1:=cK.one aw
        have mF:es.length*P.cellsOf e≤Ca.toList.length:=by simpa using qV
        by_cases uj:es.length+xs.length≤cap
        ·have Bv:es.length*P.cellsOf e+news.length≤Ca.size:=by rw[cK.len,←ee,←bn];exact dQ _ uj
         have dw:=run_append_room (P:=P) w t ty e i hu hi b es.length cap Ca hh a xs.length c news (by rw[cK.len,h3]) cK.cell h1 uj (by rw[h3];exact Bv)
         rw[h3] at dw
         have dq:=Gr (P:=P) (w:=w) (I:=I) (n:=es.length) (c:=Ca.toList) rfl (fun i j y t' a b c=>by
          obtain ⟨v,hv,hp⟩:=nD i j y t' a b c
          exact ⟨v,by simpa using hv,hp⟩) cK.el mF (Ca.toList.drop (es.length*P.cellsOf e+news.length))
         obtain ⟨a1,a2,a3⟩:=room (Ca.toList.take (es.length*P.cellsOf e)++news++Ca.toList.drop (es.length*P.cellsOf e+news.length)).toArray (w.setRow b _) (es++xs)
          (setRow_heap w b Ca _ e _ hh) (by simp;omega) (fun b' az=>setRow_other w b b' _ az) (by simp) ⟨rfl,rfl⟩ (by simpa using uj)
          (fun i j y t' a b c=>by
           obtain ⟨v,hv,hp⟩:=dq i j y t' a b c
           exact ⟨v,by simpa using hv,hp⟩)
         rw[cK.val]
         rw[dd] at a3
         exact ⟨_,_,_,_,dw,a1,a2,a3⟩
        ·have hold: ∀(j:Nat) v,(Ca.toList.take (es.length*P.cellsOf e))[j]? =some v→w.cell? ((⟨b,0,none⟩:Addr).add j)=some v:=by
          intro j v hj
          have dv:=(bH.1 hj).1
          have cp:j<es.length*P.cellsOf e:=by rw[iZ] at dv;omega
          rw[fK cp] at hj
          rw[oJ,cell?_cells hh,eh]
          simpa using hj
         have dw:=run_append_grow (P:=P) w t ty e i z hu hi hz ⟨b,0,none⟩ es.length cap (Ca.toList.take (es.length*P.cellsOf e)) (by rw[h3];simp;omega) hold a xs.length c news (by rw[cK.len,h3]) cK.cell (by omega) (by omega)
          (growslice_fits (by omega) (by rw[←nC];simp only[bP] at fe;omega))
         have qT:=grownCap_ge w (es.length+xs.length) cap e
         have vQ:grownCap w (es.length+xs.length) cap e≤maxLen:=grownCap_le_maxLen w _ cap e (by simp only[maxLen];omega)
         have dq:=Gr (P:=P) (w:=w) (I:=I) (n:=es.length) (c:=Ca.toList) rfl (fun i j y t' a b c=>by
          obtain ⟨v,hv,hp⟩:=nD i j y t' a b c
          exact ⟨v,by simpa using hv,hp⟩) cK.el mF (Builtin.zeroCells z.cells (grownCap w (es.length+xs.length) cap e-(es.length+xs.length))).toList
         obtain ⟨n1,n2,n3⟩:=yo k2.drew (nb:=nb) (cap:=grownCap w (es.length+xs.length) cap e) (es:=es++xs)
          (C0:=(Ca.toList.take (es.length*P.cellsOf e)).toArray++news.toArray++Builtin.zeroCells z.cells (grownCap w (es.length+xs.length) cap e-(es.length+xs.length))) aw lu
          (by
           have e1:(Ca.toList.take (es.length*P.cellsOf e)).length=es.length*P.cellsOf e:=by simp;omega
           simp only[Ft,rM,size_zeroCells,h4,cK.len,e1,←ee];congr 1;omega) (by simpa using qT) vQ
          (fun i j y t' a b c=>by
           obtain ⟨v,hv,hp⟩:=dq i j y t' a b c
           refine ⟨v,?_,Pure.drew hp⟩
           rw[←tG]
           simpa using hv)
         rw[cK.val]
         rw[dd] at n3
         exact ⟨_,_,_,_,dw,(k1.trans (Le.drew w I β _)).trans n1,n2,n3⟩
 | _=>cases h
end
section
variable {P:Program} {w w':World} {I I':Nat→Prop} {β aq:Nat→Option Nat} {hp hp':Nat→Option ai} {C:ae} {B:Nat} {M:Nat→Prop} {w0:Start}
theorem run_copy_none (w:World) {dT sT ty elem:TypeId} {i:TypeInfo} (a0:Option Addr) (R3 acy:Nat) (a1:Option Addr) (R4 acz:Nat) (hu:P.underlying dT=some (.slice elem)) (hi:P.info? elem=some i) (h0:Nat.min R4 R3=0):
  (Builtin.copy_ #[dT,sT] ty #[.slice a0 R3 acy,.slice a1 R4 acz]).run P w= .ok (goInt 0) w:=by
 cases a0<;>cases a1<;>simp[Builtin.copy_,run_underlying hu,Builtin.lenOf,Builtin.firstCells,sizeOf,typeInfo,hi,h0,storeCells,loadCells,loadCellsFrom]
theorem acA (S:aH P w I β hp B M w0) {t u ty e:TypeId} {s x:Value} {sv xv:V} {r:R} {rd:List Nat} (hu:P.underlying t=some (.slice e)) (hs:aj P w I β hp s sv) (hx:aj P w I β hp x xv)
  (h:(Kx P e sv xv).run C hp=some (r,rd)):dz P ((Builtin.copy_ #[t,u] ty #[s,x]).run P w) w I β hp B M w0 r:=by
 unfold Kx at h
 obtain ⟨aw,h'⟩:=aI h
 clear h
 simp only[aM,ba] at aw
 obtain ⟨aw,h1⟩:=aw
 obtain ⟨xs,mH,l0,h⟩:=Gq S.h.rel aw hx h'
 obtain ⟨i,z,hi,hz,bn,_⟩:=lr aw
 cases sv<;>simp only at h<;>first|(cases h;done)|skip
 rename_i e' id
 obtain ⟨l,h2⟩:=run_get h
 clear h
 cases ab:hp id with
 | none=>rw[ab] at h2;cases h2
 | some blk=>
  rw[ab] at h2
  cases blk<;>simp only at h2<;>first|(cases h2;done)|skip
  rename_i e2 es fz
  cases fz with
  | true=>cases h2
  | false=>
  obtain ⟨hc,h3⟩:=aI h2
  simp only[aM,ba] at hc
  obtain ⟨rfl,rfl⟩:=hc
  obtain rfl:=aU h3
  have qW:min xs.length es.length=0→(Builtin.copy_ #[t,u] ty #[s,x]).run P w= .ok (goInt 0) w→dz P ((Builtin.copy_ #[t,u] ty #[s,x]).run P w) w I β hp B M w0 ⟨.int .i64 (min xs.length es.length:Nat),[(id,.arr e (xs.take es.length++es.drop xs.length) false)]⟩:=by
   intro h0 hr
   have he:xs.take es.length++es.drop xs.length=es:=by
    rcases Nat.le_total xs.length es.length with hl|hl
    ·have:xs=[]:=oq (by omega)
     simp[this]
    ·have:es=[]:=oq (by omega)
     simp[this]
   have g9:b9 hp [(id,.arr e (xs.take es.length++es.drop xs.length) false)]=hp:=by
    rw[he];exact KI hp id _ ab
   refine ⟨goInt 0,w,I,β,hr,?_⟩
   simp only[g9,h0]
   exact ⟨Le.refl w I β hp,S,.int⟩
  cases hs with
  | eT hd=>rw[ab] at hd;cases hd
  | e7 hd=>rw[ab] at hd;cases hd
  | @ep _ _ fz a hd hb=>
   rw[ab] at hd
   cases hd
   refine qW (by simp) ?_
   rcases mH with ⟨⟨a',rfl⟩,rfl⟩|⟨a',c,news,cK⟩
   ·exact run_copy_none w _ _ _ _ _ _ hu hi (by simp)
   ·rw[cK.val];exact run_copy_none w _ _ _ _ _ _ hu hi (by simp)
  | @whole _ _ aQ oB b cap hd hb Bw cA hm=>
   have fp:=hd
   rw[ab] at hd
   cases hd
   rcases mH with ⟨⟨a',rfl⟩,rfl⟩|⟨a',c,news,cK⟩
   ·exact qW (by simp) (run_copy_none w _ _ _ _ _ _ hu hi (by simp))
   have hr:=S.h.rel id _ ab
   cases hr with
   | eu az=>rw[az] at hb;cases hb
   | @arr _ _ _ b' Ca _ az hh qV hf eU nD=>
    rw[hb] at az
    cases az
    have nA:news.length=xs.length:=by rw[cK.len,h1,ov]
    rw[h1,ov] at qV
    have lx:(news.take es.length).length=Nat.min xs.length es.length:=by
     rw[iZ,nA,Nat.min_comm]
    have mI:Nat.min xs.length es.length=min xs.length es.length:=rfl
    have dw:=run_copy_row (P:=P) w t u ty e b 0 es.length cap a' xs.length c Ca e (news.take es.length) hu (by rw[hi];simp[bn,h1]) hh lx
     (fun j v hj=>cK.cell j v (by
      have:=(bH.1 hj).1
      rw[iZ] at this
      rwa [fK (by omega)] at hj)) (by rw[lx,mI];omega) (fun v hv=>cK.one aw v (Fu hv))
    rw[cK.val]
    have hq:(goInt (news.take es.length).length)= .int .i64 ((min xs.length es.length:Nat):Int):=by rw[lx];rfl
    have j9:(xs.take es.length++es.drop xs.length).length=es.length:=by simp;omega
    have pT:(Ca.toList.take 0++news.take es.length++Ca.toList.drop (0+(news.take es.length).length)).toArray.size=Ca.size:=by
     simp only[rM,dd,xz,iZ,lx,mI]
     simp
     omega
    obtain ⟨a1,a2⟩:=Gf S (blk':= .arr e (xs.take es.length++es.drop xs.length) false) (Cb:=(Ca.toList.take 0++news.take es.length++Ca.toList.drop (0+(news.take es.length).length)).toArray) ab (by simp) ⟨rfl,j9.symm⟩ hb (eU rfl) (by simp) hh pT
     (fun hle fE=> .arr aw rfl fE (by rw[pT,j9,h1,ov];exact qV) (fun h=>by cases h) (fun _=>eU rfl) fun i j y t' hy ht hj=>by
      rw[h1] at hj⊢
      obtain rfl:j=0:=by omega
      rw[ov,Nat.add_zero]
      have oN:=(bH.1 hy).1
      rw[j9] at oN
      by_cases Bx:i<xs.length
      ·rw[kY (by rw[iZ];omega),fK oN] at hy
       obtain ⟨u',k1,k2⟩:=cK.el i 0 y t' hy ht (by omega)
       rw[h1,ov,Nat.add_zero] at k1
       refine ⟨u',?_,k2.mono hle.dM hle.cE⟩
       simp only[List.take_zero,List.nil_append,ou]
       rw[kY (by rw[iZ];omega),fK oN]
       exact k1
      ·have e1:(xs.take es.length).length=xs.length:=by rw[iZ];omega
       rw[kZ (by omega),e1,iX,show xs.length+(i-xs.length)=i by omega] at hy
       obtain ⟨u',k1,k2⟩:=nD i 0 y t' hy ht (by omega)
       rw[h1,ov,Nat.add_zero] at k1
       refine ⟨u',?_,k2.mono hle.dM hle.cE⟩
       simp only[List.take_zero,List.nil_append,ou,eh]
       have e2:(news.take es.length).length=xs.length:=by rw[iZ];omega
       rw[kZ (by omega),e2,iX,show xs.length+(i-xs.length)=i by omega]
       simpa using k1)
    exact ⟨_,_,_,_,dw,a1,a2,by rw[hq];exact .int⟩
theorem acB (S:aH P w I β hp B M w0) {t ty e:TypeId} {x:Value} {xv:V} {r:R} {rd:List Nat} (hu:P.underlying t=some (.slice e)) (hx:aj P w I β hp x xv)
  (h:(Kw P e xv).run C hp=some (r,rd)):dz P ((Builtin.clear_ #[t] ty #[x]).run P w) w I β hp B M w0 r:=by
 unfold Kw at h
 obtain ⟨dq,h'⟩:=aI h
 clear h
 have aw:dm P e=true:=by
  unfold nq at dq;simp only[aM] at dq;exact dq.1
 obtain ⟨i,z,hi,hz,bn,By,hzp⟩:=Bu (w:=w) (I:=I) dq
 have jE:=(lp aw).2
 cases xv<;>simp only at h'<;>first|(cases h';done)|skip
 rename_i e' id off len
 obtain ⟨l,h2⟩:=run_get h'
 clear h'
 cases ab:hp id with
 | none=>rw[ab] at h2;cases h2
 | some blk=>
  rw[ab] at h2
  cases blk<;>simp only at h2<;>first|(cases h2;done)|skip
  rename_i e2 es fz
  cases fz with
  | true=>cases h2
  | false=>
  obtain ⟨hc,h3⟩:=aI h2
  simp only[aM,ba] at hc
  obtain ⟨rfl,rfl⟩:=hc
  obtain rfl:=aU h3
  have qW:len=0→(Builtin.clear_ #[t] ty #[x]).run P w= .ok (.tuple #[]) w→dz P ((Builtin.clear_ #[t] ty #[x]).run P w) w I β hp B M w0 ⟨.bx [],[(id,.arr e (es.take off++(List.replicate len (cO P e (fl P e))++es.drop (off+len))) false)]⟩:=by
   intro h0 hr
   subst h0
   have g9:b9 hp [(id,.arr e (es.take off++(List.replicate 0 (cO P e (fl P e))++es.drop (off+0))) false)]=hp:=by
    simp only[List.replicate_zero,List.nil_append,Nat.add_zero,List.take_append_drop]
    exact KI hp id _ ab
   refine ⟨.tuple #[],w,I,β,hr,?_⟩
   simp only[g9]
   exact ⟨Le.refl w I β hp,S,.bx rfl fun j v x hj hx=>by simp at hx⟩
  cases hx with
  | gY hd=>rw[ab] at hd;cases hd
  | @gG _ _ _ a0 hd hb=>exact qW rfl (by cases a0<;>simp[Builtin.clear_,run_underlying hu])
  | @sub _ _ _ _ aQ oB b o cap hd hb j7 cA ho=>
   by_cases hlen:len=0
   ·refine qW hlen ?_
    subst hlen
    simp[Builtin.clear_,run_underlying hu]
   have acC:0<len:=by omega
   have fp:=hd
   rw[ab] at hd
   cases hd
   have hr:=S.h.rel id _ ab
   cases hr with
   | eu az=>rw[az] at hb;cases hb
   | @arr _ _ _ b' Ca _ az hh qV hf eU nD=>
    rw[hb] at az
    cases az
    have ho:=ho acC
    subst ho
    have vN:(Builtin.zeroCells z.cells len).toList.length=len*P.cellsOf e:=by rw[Array.length_toList,size_zeroCells,By]
    have hmul:off*P.cellsOf e+len*P.cellsOf e≤es.length*P.cellsOf e:=by rw[←ee];exact dQ _ j7
    have sk: ∀v∈(Builtin.zeroCells z.cells len).toList,v.oneCell'=true:=by
     intro v hv
     obtain ⟨k,hk⟩:=tF hv
     have mG:=(bH.1 hk).1
     rw[vN] at mG
     have hzg:(Builtin.zeroCells z.cells len)[k]? =z.cells[k %z.cells.size]? :=RX (z:=z.cells) (n:=len*z.cells.size) (by rw[By];exact mG) (by rw[By];exact jE)
     rw[tG,hzg] at hk
     have hm:k %z.cells.size<P.cellsOf e:=by rw[By];exact xy _ jE
     have htl:k %z.cells.size<(bd P e).length:=by rw[gp aw];exact hm
     obtain ⟨v',yc,hp'⟩:=hzp (k %z.cells.size) _ (bM htl) hm
     rw[hk] at yc
     cases yc
     generalize b7 P e (cO P e (fl P e)) (k %z.cells.size)=y at hp'
     cases hp'<;>rfl
    have b6:=run_storeCells_at P b (off*P.cellsOf e) e (Builtin.zeroCells z.cells len).toList 0 Ca w hh (by rw[vN];omega) sk
    simp only[Nat.add_zero] at b6
    have dw:(Builtin.clear_ #[t] ty #[.slice (some ⟨b,off*P.cellsOf e,none⟩) len cap]).run P w= .ok (.tuple #[]) (w.setRow b (Ca.toList.take (off*P.cellsOf e)++(Builtin.zeroCells z.cells len).toList++Ca.toList.drop (off*P.cellsOf e+(Builtin.zeroCells z.cells len).toList.length)).toArray):=by
     obtain ⟨n,rfl⟩: ∃n,len=n+1:=⟨len-1,by omega⟩
     simp[Builtin.clear_,run_underlying hu,zeroValue,typeInfo,hi,hz,b6]
    have j9:(es.take off++(List.replicate len (cO P e (fl P e))++es.drop (off+len))).length=es.length:=by simp;omega
    have pT:(Ca.toList.take (off*P.cellsOf e)++(Builtin.zeroCells z.cells len).toList++Ca.toList.drop (off*P.cellsOf e+(Builtin.zeroCells z.cells len).toList.length)).toArray.size=Ca.size:=by
     simp only[rM,dd,xz,iZ,vN,Array.length_toList]
     omega
    obtain ⟨a1,a2⟩:=Gf S (blk':= .arr e (es.take off++(List.replicate len (cO P e (fl P e))++es.drop (off+len))) false) ab (by simp) ⟨rfl,j9.symm⟩ hb (eU rfl) (by simp) hh pT
     (fun hle fE=> .arr aw rfl fE (by rw[pT,j9];exact qV) (fun h=>by cases h) (fun _=>eU rfl) fun i' j y t' hy ht hj=>by
      have lZ:=oK es (List.replicate len (cO P e (fl P e))) off i' (by simp;omega)
      rw[An] at lZ
      rw[lZ] at hy
      have hC:(Ca.toList.take (off*P.cellsOf e)++(Builtin.zeroCells z.cells len).toList++Ca.toList.drop (off*P.cellsOf e+(Builtin.zeroCells z.cells len).toList.length)).toArray[i'*P.cellsOf e+j]? =
        if i'*P.cellsOf e+j<off*P.cellsOf e then Ca.toList[i'*P.cellsOf e+j]? else if i'*P.cellsOf e+j<off*P.cellsOf e+len*P.cellsOf e then (Builtin.zeroCells z.cells len).toList[i'*P.cellsOf e+j-off*P.cellsOf e]? else Ca.toList[i'*P.cellsOf e+j]? :=by
       have:=oK Ca.toList (Builtin.zeroCells z.cells len).toList (off*P.cellsOf e) (i'*P.cellsOf e+j) (by rw[vN,Array.length_toList];omega)
       rw[ou,dk,this,vN]
      by_cases fY:i'<off
      ·rw[af fY] at hy
       have:(i'+1)*P.cellsOf e≤off*P.cellsOf e:=dQ _ fY
       rw[ee] at this
       rw[af (by omega)] at hC
       obtain ⟨u,k1,k2⟩:=nD i' j y t' hy ht hj
       exact ⟨u,hC.trans (by simpa using k1),k2.mono hle.dM hle.cE⟩
      ·rw[ag fY] at hy
       have h1:off*P.cellsOf e≤i'*P.cellsOf e:=dQ _ (by omega)
       rw[ag (by omega)] at hC
       by_cases iM:i'<off+len
       ·rw[af iM] at hy
        have:(i'+1)*P.cellsOf e≤(off+len)*P.cellsOf e:=dQ _ iM
        rw[ee,ee] at this
        rw[af (by omega)] at hC
        obtain ⟨v,k1,k2⟩:=Gp (w:=w) (I:=I) dq hi hz len len (ax _) (i'-off) j y t' hy ht hj
        refine ⟨v,hC.trans ?_,k2.mono hle.dM hle.cE⟩
        rw[show i'*P.cellsOf e+j-off*P.cellsOf e=(i'-off)*P.cellsOf e+j by rw[Nat.sub_mul];omega,tG]
        unfold Builtin.zeroCells
        rw[By] at k1⊢
        exact k1
       ·rw[ag iM] at hy
        have:(off+len)*P.cellsOf e≤i'*P.cellsOf e:=dQ _ (by omega)
        rw[ee] at this
        rw[ag (by omega)] at hC
        obtain ⟨u,k1,k2⟩:=nD i' j y t' hy ht hj
        exact ⟨u,hC.trans (by simpa using k1),k2.mono hle.dM hle.cE⟩)
    exact ⟨_,_,_,_,dw,a1,a2,.bx rfl fun j v x hj hx=>by simp at hx⟩
end
section
variable {P:Program} {w w':World} {I I':Nat→Prop} {β aq:Nat→Option Nat} {hp hp':Nat→Option ai} {C:ae} {B:Nat} {M:Nat→Prop} {w0:Start}
theorem acD (S:aH P w I β hp B M w0) {s:TypeId} {f:Nat} {v:Value} {x:V} {r:R} {rd:List Nat} (hv:aj P w I β hp v x)
  (h:(KA P s f x).run C hp=some (r,rd)):dz P ((Instr.field s v f).run P w) w I β hp B M w0 r:=by
 unfold KA FE at h
 split at h
 ·rename_i fs hu
  cases hf:fs[f]? with
  | none=>rw[hf] at h;cases h
  | some fd=>
   rw[hf] at h
   simp only[xL] at h
   obtain ⟨ht,h⟩:=aI h
   obtain ⟨d,vR⟩:=Bl ht
   obtain ⟨i,hi⟩:=ya vR
   have bn:i.size=P.cellsOf fd.type:=by simp[Program.cellsOf,hi]
   cases x with
   | agg xs=>
    obtain ⟨cs,rfl,h1,h2⟩:=hv.lW
    dsimp only at h
    cases ha:bW P fd.type with
    | true=>
     rw[ha] at h
     simp only[cond_true] at h
     obtain ⟨hc,h⟩:=aI h
     obtain rfl:=aU h
     rw[fy] at hc
     refine .same S (v:= .agg (cs.extract fd.offset (fd.offset+P.cellsOf fd.type))) ?_ (.agg (by simp;omega) fun j u y gI hy=> ?_)
     ·simp[Instr.field,run_underlying hu,hf,part,KX vR,ha,asAgg,sizeOf,typeInfo,hi,bn]
     ·have hj:j<P.cellsOf fd.type:=by
       have:=(iY.1 gI).1
       simp at this;omega
      rw[fK hj,iX] at hy
      refine h2 (fd.offset+j) u y ?_ hy
      rw[Array.getElem?_extract] at gI
      split at gI
      ·exact gI
      ·cases gI
    | false=>
     rw[ha] at h
     simp only[cond_false] at h
     obtain ⟨y,hy,h⟩:=mB h
     obtain rfl:=aU h
     have a9:fd.offset<cs.size:=by rw[h1];exact (bH.1 hy).1
     refine .same S (v:=cs[fd.offset]) ?_ (h2 _ _ _ (lP a9) hy)
     simp[Instr.field,run_underlying hu,hf,part,KX vR,ha,asAgg,a9]
   | _=>cases h
 ·cases h
theorem acE (S:aH P w I β hp B M w0) {i:Nat} {v:Value} {xs:List V} {r:R} {rd:List Nat} (hv:aj P w I β hp v (.bx xs))
  (h:(Rd.opt xs[i]? fun v=> .ret ⟨v,[]⟩).run C hp=some (r,rd)):dz P ((Instr.extract v i).run P w) w I β hp B M w0 r:=by
 obtain ⟨cs,rfl,h1,h2⟩:=hv.vE
 obtain ⟨y,hy,h⟩:=mB h
 obtain rfl:=aU h
 have a9:i<cs.size:=by rw[h1];exact (bH.1 hy).1
 exact .same S (v:=cs[i]) (by simp[Instr.extract,a9]) (h2 _ _ _ (lP a9) hy)
theorem acF (S:aH P w I β hp B M w0) {t:TypeId} {s:ByteArray} {l:List UInt8} {k:IntKind} {i:Int} {r:R} {rd:List Nat} (hu:P.underlying t=some .string) (hs:s.data.toList=l)
  (h:(Rd.opt (bif decide (0≤i) then (l[i.toNat]?).map fun b=>V.int .u8 b.toNat else none) fun v=> .ret ⟨.int .u8 v.toInt,[]⟩).run C hp=some (r,rd)):
  dz P ((Instr.index t (.string s) (.int k i)).run P w) w I β hp B M w0 r:=by
 obtain ⟨v,hv,h⟩:=mB h
 obtain rfl:=aU h
 cases hc:decide (0≤i) with
 | false=>rw[hc] at hv;cases hv
 | true=>
  rw[hc] at hv
  simp only[cond_true] at hv
  have h0:0≤i:=by simpa using hc
  cases hb:l[i.toNat]? with
  | none=>rw[hb] at hv;cases hv
  | some b=>
   rw[hb] at hv
   simp only[Option.map_some,dZ] at hv
   subst hv
   have hsb:s[i.toNat]? =some b:=by
    subst hs
    obtain ⟨a9,he⟩:=bH.1 hb
    have Lt:i.toNat<s.size:=by simpa using a9
    rw[getElem?_pos s i.toNat Lt]
    congr 1
   refine .same S (v:= .int .u8 b.toNat) ?_ .int
   simp[Instr.index,asIntOf,run_underlying hu,h0,hsb]
theorem Lu (S:aH P w I β hp B M w0) (mx:Bool): ∀{vs:List Value} {xs:List V} {v:Value} {x:V} {r:R} {rd:List Nat},aj P w I β hp v x→vs.length=xs.length→
  (∀(j:Nat) u y,vs[j]? =some u→xs[j]? =some y→aj P w I β hp u y)→(xM mx x xs).run C hp=some (r,rd)→
  dz P ((vs.foldlM (if mx then Builtin.max2 else Builtin.min2) v).run P w) w I β hp B M w0 r
 | [],[],v,x,r,rd,hv,_,_,h=>by
  have:r=⟨x,[]⟩:=by
   cases x<;>(simp only[xM] at h;exact (aU h).symm)
  subst this
  exact .same S (by simp) hv
 | [],_::_,v,x,r,rd,hv,hl,_,h=>by simp at hl
 | _::_,[],v,x,r,rd,hv,hl,_,h=>by simp at hl
 | u::vs,y::xs,v,x,r,rd,hv,hl,hx,h=>by
  cases x<;>cases y<;>simp only[xM] at h<;>first|(cases h;done)|skip
  rename_i k a k' b
  obtain ⟨hc,h4⟩:=aI h
  clear h
  obtain rfl:k=k':=by simpa using hc
  have hu:=hx 0 u _ rfl rfl
  rw[hv.e8,hu.e8]
  have ih:=Lu S mx (vs:=vs) (xs:=xs) (v:= .int k (bif mx then (if b>a then b else a) else (if b<a then b else a))) .int (by simpa using hl)
   (fun j u y h1 h2=>hx (j+1) u y (by simpa using h1) (by simpa using h2)) h4
  cases mx with
  | true=>simpa[List.foldlM_cons,Builtin.max2] using ih
  | false=>simpa[List.foldlM_cons,Builtin.min2] using ih
theorem sr {n cap:Nat} {isS:Bool} {lo hi:Option V} {lov hiv:Option Value} {k:Nat→Nat→Rd R} {r:R} {rd:List Nat} (hn:n≤cap)
  (jI: ∀x,lo=some x→∃v,lov=some v∧aj P w I β hp v x) (iN: ∀x,hi=some x→∃v,hiv=some v∧aj P w I β hp v x) (oO:lo=none→lov=none) (pU:hi=none→hiv=none)
  (h:(tS n lo hi k).run C hp=some (r,rd)): ∃l u,l≤u∧u≤n∧(Instr.sliceBounds isS n cap lov hiv none).run P w= .ok (l,u,cap) w∧(k l u).run C hp=some (r,rd):=by
 have ok: ∀(kk:IntKind) (i:Int) (y:Nat) (c:BoundsCode),0≤i→i≤y→(Instr.sliceBound (.int kk i) y c).run P w= .ok i.toNat w:=by
  intro kk i y c h1 h2
  simp[Instr.sliceBound,asIntOf,h1,h2]
 unfold tS at h
 cases lo with
 | none=>
  rw[oO rfl]
  cases hi with
  | none=>
   rw[pU rfl]
   exact ⟨0,n,ku _,ax _,by simp[Instr.sliceBounds],h⟩
  | some x=>
   obtain ⟨v,rfl,hv⟩:=iN x rfl
   cases x<;>simp only at h<;>first|(cases h;done)|skip
   rename_i kk u
   obtain ⟨hc,h⟩:=aI h
   simp only[aM,eE] at hc
   rw[hv.e8]
   have:=ok kk u cap (if isS then .sliceAcap else .sliceAlen) hc.1 (by omega)
   exact ⟨0,u.toNat,ku _,by omega,by simp[Instr.sliceBounds,this],h⟩
 | some x=>
  obtain ⟨v,rfl,hv⟩:=jI x rfl
  cases hi with
  | none=>
   rw[pU rfl]
   cases x<;>simp only at h<;>first|(cases h;done)|skip
   rename_i kk l
   obtain ⟨hc,h⟩:=aI h
   simp only[aM,eE] at hc
   rw[hv.e8]
   have:=ok kk l n .sliceB hc.1 (by omega)
   exact ⟨l.toNat,n,by omega,ax _,by simp[Instr.sliceBounds,this],h⟩
  | some y=>
   obtain ⟨v2,rfl,rY⟩:=iN y rfl
   cases x<;>cases y<;>simp only at h<;>first|(cases h;done)|skip
   rename_i kk l kk2 u
   obtain ⟨hc,h⟩:=aI h
   simp only[aM,eE] at hc
   rw[hv.e8,rY.e8]
   have h1:=ok kk2 u cap (if isS then .sliceAcap else .sliceAlen) (by omega) (by omega)
   have h2:=ok kk l u.toNat .sliceB hc.1 (by omega)
   exact ⟨l.toNat,u.toNat,by omega,by omega,by simp[Instr.sliceBounds,h1,h2],h⟩
theorem Gv {a:Option Addr} {t e:TypeId} {i:TypeInfo} (hu:P.underlying t=some (.slice e)) (hi:P.info? e=some i) {lov hiv:Option Value}
  (hb:(Instr.sliceBounds true 0 0 lov hiv none).run P w= .ok (0,0,0) w):(Instr.sliceAt t (.slice a 0 0) lov hiv none).run P w= .ok (.slice a 0 0) w:=by
 cases a<;>simp[Instr.sliceAt,Instr.slice,run_underlying hu,hb,sizeOf,typeInfo,hi]
theorem Lv {t e:TypeId} {i:TypeInfo} {b o len cap l u:Nat} (hu:P.underlying t=some (.slice e)) (hi:P.info? e=some i) {lov hiv:Option Value} (huc:u≤cap)
  (hb:(Instr.sliceBounds true len cap lov hiv none).run P w= .ok (l,u,cap) w): ∃o',(0<u-l→o'=o+l*i.size)∧(Instr.sliceAt t (.slice (some ⟨b,o,none⟩) len cap) lov hiv none).run P w= .ok (.slice (some ⟨b,o',none⟩) (u-l) (cap-l)) w:=by
 by_cases hc:cap=l
 ·subst hc
  refine ⟨o,fun h=>by omega,?_⟩
  ·simp[Instr.sliceAt,Instr.slice,run_underlying hu,hb,sizeOf,typeInfo,hi]
 ·refine ⟨o+l*i.size,fun _=>rfl,?_⟩
  simp[Instr.sliceAt,Instr.slice,run_underlying hu,hb,sizeOf,typeInfo,hi,hc,oJ]
theorem acG (s:ByteArray) (l:List UInt8) (h:s.data.toList=l) (a b:Nat):(s.extract a b).data.toList=(l.drop a).take (b-a):=by
 subst h
 simp[ByteArray.data_extract]
theorem acH (S:aH P w I β hp B M w0) {t:TypeId} {v:Value} {x:V} {lo hi:Option V} {lov hiv:Option Value} {r:R} {rd:List Nat} (hv:aj P w I β hp v x)
  (jI: ∀x,lo=some x→∃v,lov=some v∧aj P w I β hp v x) (iN: ∀x,hi=some x→∃v,hiv=some v∧aj P w I β hp v x) (oO:lo=none→lov=none) (pU:hi=none→hiv=none)
  (h:(FK P t x lo hi).run C hp=some (r,rd)):dz P ((Instr.sliceAt t v lov hiv none).run P w) w I β hp B M w0 r:=by
 unfold FK at h
 cases hu:P.underlying t with
 | none=>rw[hu] at h;cases h
 | some d=>
  rw[hu] at h
  cases d<;>simp only at h<;>first|(cases h;done)|skip
  case string=>
   cases x<;>simp only at h<;>first|(cases h;done)|skip
   rename_i l
   obtain ⟨s,rfl,hs⟩:=hv.ny
   have bn:l.length=s.size:=by rw[←hs];simp
   obtain ⟨a,u,h1,h2,h3,h4⟩:=sr (isS:=false) (cap:=s.size) (by omega) jI iN oO pU h
   obtain rfl:=aU h4
   rw[bn] at h3
   refine .same S (v:= .string (s.extract a u)) ?_ (.str (acG s l hs a u))
   simp[Instr.sliceAt,Instr.slice,run_underlying hu,h3]
  case slice e=>
   cases x<;>simp only at h<;>first|(cases h;done)|skip
   case list e' es=>
    obtain ⟨hc,h⟩:=aI h
    simp only[aM,ba] at hc
    obtain ⟨ey,aw⟩:=hc
    obtain ⟨i,z,eB,_,bn,_⟩:=lr aw
    cases hv with
    | list hp'=>
     cases hp' with
     | nil=>
      obtain ⟨a,u,h1,h2,h3,h4⟩:=sr (n:=0) (isS:=true) (cap:=0) (ax _) jI iN oO pU h
      obtain rfl:=aU h4
      obtain rfl:u=0:=by omega
      obtain rfl:a=0:=by omega
      exact .same S (Gv hu eB h3) (by simpa using aj.list jD.nil)
     | @emp ad cap=>
      obtain ⟨a,u,h1,h2,h3,h4⟩:=sr (n:=0) (isS:=true) (cap:=cap) (ku _) jI iN oO pU h
      obtain rfl:=aU h4
      obtain rfl:u=0:=by omega
      obtain rfl:a=0:=by omega
      refine .same S (v:= .slice (some ad) 0 cap) ?_ (by simpa using aj.list jD.emp)
      by_cases hc:cap=0
      ·subst hc
       simp[Instr.sliceAt,Instr.slice,run_underlying hu,h3,sizeOf,typeInfo,eB]
      ·simp[Instr.sliceAt,Instr.slice,run_underlying hu,h3,sizeOf,typeInfo,eB,hc,Addr.add]
     | @list b o len cap _ g hl cA hI gZ hx=>
      obtain ⟨a,u,h1,h2,h3,h4⟩:=sr (isS:=true) (cap:=cap) (by omega) jI iN oO pU h
      obtain rfl:=aU h4
      rw[hl] at h2 h3
      obtain ⟨o',nw,dw⟩:=Lv (b:=b) (o:=o) hu eB (by omega) h3
      have iq:e=e':=ey
      refine .same S dw (.list ?_)
      rw[←iq]
      rw[←iq] at gZ hx hI
      have hlen:((es.drop a).take (u-a)).length=u-a:=by simp;omega
      refine .list (fun i j=>g (a+i) j) hlen (by omega) (fun h=>hI (gy h (dQ _ (by omega)))) (fun i j hi hj=> ?_) (fun i j y t' hy ht=> ?_)
      ·have:=gZ (a+i) j (by omega) hj
       rw[ee,pC,←pC o] at this
       rw[nw (by omega),bn]
       exact this
      ·have hi:i<u-a:=by rw[←hlen];exact (bH.1 hy).1
       rw[fK hi,iX] at hy
       exact hx (a+i) j y t' hy ht
   case whole e' id=>
    obtain ⟨l,h⟩:=run_get h
    cases ab:hp id with
    | none=>rw[ab] at h;cases h
    | some blk=>
     rw[ab] at h
     cases blk<;>simp only at h<;>first|(cases h;done)|skip
     rename_i ej es fz
     obtain ⟨hc,h9⟩:=aI h
     clear h
     simp only[aM,ba] at hc
     obtain ⟨ey,kE,aw⟩:=hc
     obtain ⟨i,z,eB,_,bn,_⟩:=lr aw
     cases hv with
     | eT hd=>rw[ab] at hd;cases hd
     | e7 hd=>rw[ab] at hd;cases hd
     | ep hd hb=>
      rw[ab] at hd
      cases hd
      obtain ⟨a,u,h1,h2,h3,h4⟩:=sr (n:=0) (isS:=true) (cap:=0) (ax _) jI iN oO pU h9
      obtain rfl:=aU h4
      obtain rfl:u=0:=by omega
      obtain rfl:a=0:=by omega
      exact .same S (Gv hu eB h3) (.gG ab hb)
     | @whole _ _ aQ oB b cap hd hb Bw cA hm=>
      have fp:=hd
      rw[ab] at hd
      cases hd
      obtain ⟨a,u,h1,h2,h3,h4⟩:=sr (isS:=true) (cap:=cap) cA jI iN oO pU h9
      obtain rfl:=aU h4
      obtain ⟨o',nw,dw⟩:=Lv (b:=b) (o:=0) hu eB (by omega) h3
      have iq:e=e':=ey
      exact .same S dw (.sub fp hb (by omega) (by omega) (fun h=>by rw[nw h,bn,iq,eh]))
   case sub e' id off len=>
    obtain ⟨l,h⟩:=run_get h
    cases ab:hp id with
    | none=>rw[ab] at h;cases h
    | some blk=>
     rw[ab] at h
     cases blk<;>simp only at h<;>first|(cases h;done)|skip
     rename_i ej es fz
     obtain ⟨hc,h⟩:=aI h
     simp only[aM,ba] at hc
     obtain ⟨ey,kE,aw⟩:=hc
     obtain ⟨i,z,eB,_,bn,_⟩:=lr aw
     cases hv with
     | gY hd=>rw[ab] at hd;cases hd
     | gG hd hb=>
      have fp:=hd
      obtain ⟨a,u,h1,h2,h3,h4⟩:=sr (isS:=true) (cap:=0) (ax _) jI iN oO pU h
      obtain rfl:=aU h4
      obtain rfl:u=0:=by omega
      obtain rfl:a=0:=by omega
      exact .same S (Gv hu eB h3) (.gG fp hb)
     | @sub _ _ _ _ aQ oB b o cap hd hb j7 cA ho=>
      have fp:=hd
      obtain ⟨a,u,h1,h2,h3,h4⟩:=sr (isS:=true) (cap:=cap) cA jI iN oO pU h
      obtain rfl:=aU h4
      obtain ⟨o',nw,dw⟩:=Lv (b:=b) (o:=o) hu eB (by omega) h3
      have iq:e=e':=ey
      exact .same S dw (.sub fp hb (by omega) (by omega) (fun h=>by rw[nw h,bn,ho (by omega),iq,ee]))
theorem acI (S:aH P w I β hp B M w0) {t:TypeId} {v:Value} {x:V} {lo hi mx:Option V} {lov hiv R5:Option Value} {r:R} {rd:List Nat} (hv:aj P w I β hp v x)
  (jI:lo=none→lov=none) (iN: ∀y,hi=some y→∃u,hiv=some u∧aj P w I β hp u y) (pN: ∀y,mx=some y→∃u,R5=some u∧aj P w I β hp u y)
  (h:(Ky P t x lo hi mx).run C hp=some (r,rd)):dz P ((Instr.sliceAt t v lov hiv R5).run P w) w I β hp B M w0 r:=by
 unfold Ky at h
 cases hu:P.underlying t with
 | none=>rw[hu] at h;cases h
 | some d=>
  rw[hu] at h
  cases d<;>(try (cases h;done))
  rename_i e
  cases lo<;>(try (cases h;done))
  cases hi<;>(try (cases h;done))
  rename_i yp
  cases yp<;>(try (cases h;done))
  cases mx<;>(try (cases h;done))
  rename_i mv1
  cases mv1<;>(try (cases h;done))
  obtain ⟨hc,h9⟩:=aI h
  clear h
  have h:=h9
  clear h9
  simp only[aM,eE] at hc
  obtain ⟨rfl,rfl,aw⟩:=hc
  obtain ⟨i,z,eB,_,_,_⟩:=lr aw
  obtain ⟨u1,rfl,k1⟩:=iN _ rfl
  obtain ⟨u2,rfl,k2⟩:=pN _ rfl
  rw[k1.e8,k2.e8,jI rfl]
  have run: ∀{k k2:IntKind} (a:Option Addr) (len cap:Nat),(Instr.sliceAt t (.slice a len cap) none (some (.int k 0)) (some (.int k2 0))).run P w= .ok (.slice a 0 0) w:=by
   intro k k2 a len cap
   cases a<;>simp[Instr.sliceAt,Instr.slice,Instr.sliceBounds,Instr.sliceBound,asIntOf,run_underlying hu,sizeOf,typeInfo,eB]
  cases x<;>(try (cases h;done))
  ·simp only at h
   obtain rfl:=aU h
   cases hv with
   | list hp'=>cases hp'<;>exact .same S (run _ _ _) .nilS
  ·simp only at h
   obtain rfl:=aU h
   cases hv
   exact .same S (run _ _ _) .nilS
  ·rename_i e' id
   simp only at h
   obtain ⟨l,h⟩:=run_get h
   cases ab:hp id with
   | none=>rw[ab] at h;cases h
   | some blk=>
    rw[ab] at h
    cases blk<;>simp only at h<;>first|(cases h;done)|skip
    all_goals
     obtain rfl:=aU h
     cases hv with
     | eT hd=>rw[ab] at hd;cases hd
     | e7 hd=>exact .same S (run _ _ _) .nilS
     | ep hd hb=>exact .same S (run _ _ _) .nilS
     | whole hd=>exact .same S (run _ _ _) .nilS
theorem acJ (S:aH P w I β hp B M w0) {t:TypeId} {v ix:Value} {x y:V} {r:R} {rd:List Nat} (hv:aj P w I β hp v x) (hy:aj P w I β hp ix y)
  (h:(KB P t x y).run C hp=some (r,rd)):dz P ((Instr.indexAt t v ix).run P w) w I β hp B M w0 r:=by
 unfold KB at h
 cases hu:P.underlying t with
 | none=>rw[hu] at h;cases h
 | some d=>
  rw[hu] at h
  cases y<;>(try (cases d<;>cases h;done))
  rename_i k i
  rw[hy.e8]
  cases d<;>simp only at h<;>first|(cases h;done)|skip
  case slice e=>
   have run: ∀(b o len cap:Nat) (ie:TypeInfo),P.info? e=some ie→0≤i→i<(len:Int)→(Instr.indexAt t (.slice (some ⟨b,o,none⟩) len cap) (.int k i)).run P w= .ok (.pointer (some ⟨b,o+i.toNat*ie.size,none⟩)) w:=by
    intro b o len cap ie kI h0 h1
    simp[Instr.indexAt,asIntOf,run_underlying hu,h0,h1,sizeOf,typeInfo,kI,oJ]
   cases x<;>simp only at h<;>first|(cases h;done)|skip
   case list e' es=>
    obtain ⟨hc,h⟩:=aI h
    simp only[aM,ba] at hc
    obtain ⟨ey,aw⟩:=hc
    have iq:e=e':=ey
    obtain ⟨ie,z,eB,_,bn,_⟩:=lr aw
    obtain ⟨el,dq,h⟩:=mB h
    obtain rfl:=aU h
    unfold idx at dq
    cases h0:decide (0≤i) with
    | false=>rw[h0] at dq;cases dq
    | true=>
     rw[h0] at dq
     simp only[cond_true] at dq
     have h0':0≤i:=by simpa using h0
     have a9:i.toNat<es.length:=(bH.1 dq).1
     cases hv with
     | list hp'=>
      cases hp' with
      | nil=>simp at a9
      | emp=>simp at a9
      | @list b o len cap _ g hl cA hI gZ hx=>
       rw[←iq] at gZ hx hI
       refine .same S (run b o len cap ie eB h0' (by omega)) ?_
       have fD:=yb (P:=P) e el
       have Lw:=gp aw
       have R6:(bif bW P e then flat P e else [e])=bd P e:=rfl
       rw[R6]
       refine .pref (by rw[fD]) (fun _=>hI ?_) (fun j t' y' ht Bh=> ?_)
       ·have:=Nat.mul_pos (show 0<len by omega) (lp aw).2
        exact this
       ·obtain ⟨t2,a1,a2⟩:=KY Bh
        rw[ht] at a1;cases a1
        have hj:j<P.cellsOf e:=by rw[←Lw];exact (bH.1 ht).1
        have iJ:=hx i.toNat j el t' dq ht
        refine ⟨g i.toNat j,?_,?_⟩
        ·rw[bn,pC];exact gZ i.toNat j (by omega) hj
        ·rw[a2,iJ.ud];exact iJ
   case whole e' id=>
    obtain ⟨l,h⟩:=run_get h
    cases ab:hp id with
    | none=>rw[ab] at h;cases h
    | some blk=>
     rw[ab] at h
     cases blk<;>simp only at h<;>first|(cases h;done)|skip
     rename_i ej es fz
     obtain ⟨hc,h⟩:=aI h
     simp only[aM,ba] at hc
     obtain ⟨ey,kE⟩:=hc
     obtain ⟨fq,h⟩:=aI h
     simp only[aM,eE] at fq
     obtain rfl:=aU h
     cases hv with
     | eT hd=>rw[ab] at hd;cases hd
     | e7 hd=>rw[ab] at hd;cases hd
     | ep hd hb=>rw[ab] at hd;cases hd;simp at fq;omega
     | @whole _ _ aQ oB b cap hd hb Bw cA hm=>
      have fp:=hd
      rw[ab] at hd
      cases hd
      have hr:=S.h.rel id _ ab
      cases hr with
      | eu az=>rw[az] at hb;cases hb
      | arr aw az hh hs hf eU hx=>
       have iq:e=e':=ey
       obtain ⟨ie,z,eB,_,bn,_⟩:=lr aw
       rw[←iq] at eB bn
       refine .same S (run b 0 _ cap ie eB fq.1 fq.2) ?_
       have:=aj.ptr (P:=P) (w:=w) (I:=I) (i:=i.toNat) (c:=0) fp (by simp) hb
       simp only[ai.sz] at this
       rw[eh,bn,iq]
       simpa using this
     rename_i ej es ak
     obtain ⟨hc,h⟩:=aI h
     simp only[aM,ba] at hc
     obtain ⟨ey,kE⟩:=hc
     obtain ⟨fq,h⟩:=aI h
     simp only[aM,eE] at fq
     obtain rfl:=aU h
     cases hv with
     | eT hd=>rw[ab] at hd;cases hd
     | ep hd hb=>rw[ab] at hd;cases hd
     | whole hd=>rw[ab] at hd;cases hd
     | @e7 _ _ aQ vers' b cap hd hb Bw cA hm=>
      have fp:=hd
      rw[ab] at hd
      cases hd
      have aw:=(S.rows fp hb .here).ok
      have iq:e=e':=ey
      obtain ⟨ie,z,eB,_,bn,_⟩:=lr aw
      rw[←iq] at eB bn
      refine .same S (run b 0 _ cap ie eB fq.1 fq.2) ?_
      have:=aj.ptr (P:=P) (w:=w) (I:=I) (i:=i.toNat) (c:=0) fp (by simp) hb
      simp only[ai.sz] at this
      rw[eh,bn,iq]
      simpa using this
   case row e' id ver path=>
    obtain ⟨e0,es,ak,l,ab,h1,h2,h3,h⟩:=pM h
    obtain ⟨e2,v',k1,k2,h⟩:=xW h
    obtain ⟨hc,h⟩:=aI h
    simp only[aM,ba] at hc
    obtain ⟨ey,kE⟩:=hc
    obtain ⟨fq,h⟩:=aI h
    simp only[aM,eE] at fq
    obtain rfl:=aU h
    cases hv with
    | kB hd hp'=>rw[ab] at hd;cases hd;exact absurd hp' (xX h1 h2 h3)
    | @row v _ e0 t1 _ ver b i1 c1 q es l1 ak hd hb hq Ld ht gZ=>
     have acK:=gZ
     obtain ⟨b',e3,aQ,Ca,T,f,x,m1,m2,m3,m4,m5,m6⟩:=gZ
     have oI:=hd
     rw[ab] at oI
     cases oI
     obtain ⟨n1,n2⟩:=F0 m1 m3 m4 ht m5
     rw[n2] at k2
     cases k2
     simp only[V.toList] at fq
     have hR:=S.rows hd hb m1
     obtain ⟨C1,c2,c3,c4⟩:=hR.cells
     rw[m2] at c2
     cases c2
     have hj:c1<P.cellsOf e3:=by
      rw[←gp hR.ok];exact (bH.1 m4).1
     obtain ⟨v2,d1,d2⟩:=c4 _ _ _ _ m3 m4 hj
     rw[m6] at d1
     cases d1
     rw[m5] at d2
     cases d2 with
     | gF a _=>unfold gB at a;rw[ht] at a;cases a
     | emp _ _=>simp at fq;omega
     | @row _ _ b1 cap _ hl _ _ _=>
      have aw:=(S.rows hd hb (m1.snoc m2 m3 m4 ht m5 hl m6)).ok
      have iq:e=e':=ey
      obtain ⟨ie,z,eB,_,bn,_⟩:=lr aw
      rw[←iq] at eB bn
      refine .same S (run b1 0 _ cap ie eB fq.1 fq.2) ?_
      have:=aj.cW (P:=P) (I:=I) (i:=i.toNat) (c:=0) hd hb hq Ld ht hl acK
      rw[eh,bn,iq]
      simpa using this
   case sub e' id off len=>
    obtain ⟨l,h⟩:=run_get h
    cases ab:hp id with
    | none=>rw[ab] at h;cases h
    | some blk=>
     rw[ab] at h
     cases blk<;>simp only at h<;>first|(cases h;done)|skip
     rename_i ej es fz
     obtain ⟨hc,h⟩:=aI h
     simp only[aM,ba] at hc
     obtain ⟨ey,kE⟩:=hc
     obtain ⟨fq,h⟩:=aI h
     simp only[aM,eE] at fq
     obtain rfl:=aU h
     cases hv with
     | gY hd=>rw[ab] at hd;cases hd
     | gG hd hb=>simp at fq;omega
     | @sub _ _ _ _ aQ oB b o cap hd hb j7 cA ho=>
      have fp:=hd
      rw[ab] at hd
      cases hd
      have hr:=S.h.rel id _ ab
      cases hr with
      | eu az=>rw[az] at hb;cases hb
      | arr aw az hh hs hf eU hx=>
       have iq:e=e':=ey
       obtain ⟨ie,z,eB,_,bn,_⟩:=lr aw
       rw[←iq] at eB bn
       refine .same S (run b o _ cap ie eB fq.1 fq.2) ?_
       have:=aj.ptr (P:=P) (w:=w) (I:=I) (i:=off+i.toNat) (c:=0) fp (by simp) hb
       simp only[ai.sz] at this
       rw[ho (by omega),bn,iq,←ee]
       simpa using this
  case array n e=>
   have run: ∀(b o:Nat) (ie:TypeInfo),P.info? e=some ie→0≤i→i<(n:Int)→(Instr.indexAt t (.pointer (some ⟨b,o,none⟩)) (.int k i)).run P w= .ok (.pointer (some ⟨b,o+i.toNat*ie.size,none⟩)) w:=by
    intro b o ie kI h0 h1
    simp[Instr.indexAt,asIntOf,run_underlying hu,h0,h1,sizeOf,typeInfo,kI,oJ,Instr.sureAddr]
   cases x<;>simp only at h<;>first|(cases h;done)|skip
   case ptr id j c=>
    obtain ⟨⟨blk,ab,hd⟩,l,h⟩:=xZ h
    obtain ⟨fq,h⟩:=aI h
    simp only[aM,eE] at fq
    obtain rfl:=aU h
    obtain ⟨b,hb,rfl⟩:=hv.iL ab hd
    obtain ⟨d,vR⟩:=Bl fq.1
    obtain ⟨ie,kI⟩:=ya vR
    have bn:ie.size=P.cellsOf e:=by simp[Program.cellsOf,kI]
    refine .same S (run b _ ie kI fq.2.1 fq.2.2) ?_
    rw[bn,pC]
    exact .ptr ab hd hb
   case pref ts cs=>
    obtain ⟨fq,h⟩:=aI h
    simp only[aM,eE] at fq
    obtain rfl:=aU h
    obtain ⟨b,o,rfl,h1,h2,h3⟩:=hv.F9
    obtain ⟨d,vR⟩:=Bl fq.1
    obtain ⟨ie,kI⟩:=ya vR
    have bn:ie.size=P.cellsOf e:=by simp[Program.cellsOf,kI]
    refine .same S (run b _ ie kI fq.2.1 fq.2.2) ?_
    rw[bn]
    exact aj.Rq h1 h2 h3
end
end Go.AM
namespace Go.AM
open Go.Maps
section
variable {P:Program} {w w':World} {I I':Nat→Prop} {β aq:Nat→Option Nat} {hp hp':Nat→Option ai} {C:ae} {B:Nat} {M:Nat→Prop} {w0:Start}
theorem acL (S:aH P w I β hp B M w0) {nb:Nat} {t:TypeId} {v:Value} {x:V} {lo hi:Option V} {lov hiv:Option Value} {r:R} {rd:List Nat} (hv:aj P w I β hp v x)
  (iN: ∀x,hi=some x→∃v,hiv=some v∧aj P w I β hp v x) (oO:lo=none→lov=none)
  (h:(FL P nb t x lo hi).run C hp=some (r,rd)):dz P ((Instr.sliceAt t v lov hiv none).run P w) w I β hp B M w0 r:=by
 unfold FL at h
 split at h
 case h_2=>cases h
 rename_i e e' id k hh hu
 obtain ⟨l,h1⟩:=run_get h
 cases ab:hp id with
 | none=>rw[ab] at h1;cases h1
 | some blk=>
  rw[ab] at h1
  cases blk<;>simp only at h1<;>first|(cases h1;done)|skip
  rename_i e2 es fz
  cases fz with
  | true=>cases h1
  | false=>
  obtain ⟨hc,h2⟩:=aI h1
  simp only[aM,ba,eE] at hc
  obtain ⟨rfl,rfl,aw,R7,R8⟩:=hc
  obtain ⟨hn,rfl⟩:=oM h2
  have jI:=oO rfl
  subst jI
  obtain ⟨Lx,rfl,hhv⟩:=iN _ rfl
  obtain rfl:=hhv.e8
  obtain ⟨i,z,eB,_,bn,_⟩:=lr aw
  have ca:nb≠id:=fun e=>by rw[e,ab] at hn;cases hn
  obtain ⟨k1,k2⟩:=F5 S ab
  have lu:aL hp id (some ai.dead) nb=none:=by rw[eV _ _ ca];exact hn
  have R9: ∀cap,es.length≤cap→(Instr.sliceBounds true es.length cap none (some (.int k hh)) none).run P w= .ok (0,hh.toNat,cap) w:=by
   intro cap cA
   have hb:(tS es.length none (some (.int k hh)) fun l u=> .aB (decide (l=0∧u=hh.toNat)) (.ret (⟨.undef,[]⟩:R))).run C hp=some (⟨.undef,[]⟩,[]):=by
    simp[tS,Rd.run,R7,R8]
   obtain ⟨l,u,b1,b2,b3,b4⟩:=sr (P:=P) (w:=w) (I:=I) (β:=β) (hp:=hp) (n:=es.length) (isS:=true) (cap:=cap) (lov:=none) (hiv:=some (.int k hh)) cA (by simp) (fun x hx=>by cases hx;exact ⟨_,rfl,.int⟩) (fun _=>rfl) (by simp) hb
   obtain ⟨b5,_⟩:=aI b4
   simp only[eE] at b5
   obtain ⟨rfl,rfl⟩:=b5
   exact b3
  cases hv with
  | eT hd=>rw[ab] at hd;cases hd
  | e7 hd=>rw[ab] at hd;cases hd
  | @ep _ _ _ a0 hd hb=>
   rw[ab] at hd
   cases hd
   have K5:hh=0:=by simpa using Int.le_antisymm R8 R7
   subst K5
   have az:=R9 0 (ax _)
   obtain ⟨a1,a2⟩:=F4 k2 e lu
   refine ⟨_,w,I,_,Gv hu eB az,k1.trans a1,a2,.ep (dt _ _ _) (dt _ _ _)⟩
  | @whole _ _ aQ oB b cap hd hb Bw cA hm=>
   have fp:=hd
   rw[ab] at hd
   cases hd
   have hr:=S.h.rel id _ ab
   cases hr with
   | eu az=>rw[az] at hb;cases hb
   | @arr _ _ _ b' Ca _ az Gw qV hf eU nD=>
    rw[hb] at az
    cases az
    have j9:(es.take hh.toNat).length=hh.toNat:=by rw[iZ];omega
    have dw:(Instr.sliceAt t (.slice (some ⟨b,0,none⟩) es.length cap) none (some (.int k hh)) none).run P w= .ok (.slice (some ⟨b,0,none⟩) hh.toNat cap) w:=by
     have az:=R9 cap cA
     by_cases Gx:cap=0
     ·subst Gx
      simp[Instr.sliceAt,Instr.slice,run_underlying hu,az,sizeOf,typeInfo,eB]
     ·simp[Instr.sliceAt,Instr.slice,run_underlying hu,az,sizeOf,typeInfo,eB,Gx,oJ]
    have sb: ∀aE blk',aL hp id (some ai.dead) aE=some blk'→¬bK P w (β aE) blk' b:=by
     intro aE blk' h1 h2
     by_cases jH:aE=id
     ·subst jH;rw[dt] at h1;cases h1;exact h2.alive rfl
     ·rw[eV _ _ jH] at h1
      exact jH (S.h.inj aE id blk' _ b h1 ab h2 (.root (by simp) hb))
    obtain ⟨a1,a2⟩:=Bg k2 (blk:= .arr e (es.take hh.toNat) false) (w':=w) lu sb (eU rfl) (fun _ _ _=>rfl) (ax _) ⟨rfl,rfl⟩ (S.h.tZ id _ b ab (by simp) hb)
     (fun b' h=>(dr (h.flat (by simp))).symm) (fun hle=> .arr aw rfl Gw (by rw[j9];exact jT (dQ _ (by omega)) qV) (fun h=>by cases h) (fun _=>eU rfl) fun i j y t' hy ht hj=>by
      have oN:=(bH.1 hy).1
      rw[j9] at oN
      rw[fK oN] at hy
      obtain ⟨v,hv,hp⟩:=nD i j y t' hy ht hj
      exact ⟨v,hv,hp.mono hle.dM hle.cE⟩)
    refine ⟨_,w,I,_,dw,k1.trans a1,a2,?_⟩
    have:=aj.whole (P:=P) (w:=w) (I:=I) (β:=aL β nb (some b)) (hp:=aL (aL hp id (some .dead)) nb (some (.arr e (es.take hh.toNat) false))) (cap:=cap) (dt _ _ _) (dt _ _ _) Bw (by rw[j9];omega) hm
    rw[j9] at this
    exact this
theorem su {t:TypeId} {x:V} (h:qG P t x=true):
  (∃q n,P.underlying t=some (.int q)∧x= .int q n∧dp q n=true)∨(∃b,P.underlying t=some .bool∧x= .bool b)∨(∃s,P.underlying t=some .string∧x= .str s∧s.length≤maxLen):=by
 unfold qG at h
 split at h
 ·rename_i q q' n hu
  simp only[aM,eE] at h
  obtain ⟨rfl,h⟩:=h
  exact .inl ⟨_,_,hu,rfl,h⟩
 ·rename_i b hu
  exact .inr (.inl ⟨_,hu,rfl⟩)
 ·rename_i s hu
  exact .inr (.inr ⟨_,hu,rfl,by simpa using h⟩)
 ·cases h
theorem size_data (s:ByteArray):s.data.toList.length=s.size:=by simp
theorem acM {q:IntKind} {n:Int} (h:dp q n=true):(Lit.int q n).wf=true:=h
theorem Sa {t:TypeId} {x:V} {v:Value} (h:qG P t x=true) (hv:j6 v x): ∃l,mapKey P t v=some l∧∀d,P.keyLits (d+1) t [v]=some [l]:=by
 rcases su h with ⟨q,n,hu,rfl,hn⟩|⟨b,hu,rfl⟩|⟨s,hu,rfl,hs⟩
 ·obtain rfl:v= .int q n:=hv
  have hw:=acM hn
  exact ⟨.int q n,by simp[mapKey,hu,hw],fun d=>by simp[Program.keyLits,hu,hw]⟩
 ·obtain rfl:v= .bool b:=hv
  exact ⟨.bool b,by simp[mapKey,hu],fun d=>by simp[Program.keyLits,hu]⟩
 ·obtain ⟨s',rfl,uk⟩:=hv
  have:s'.size≤maxLen:=by rw[←size_data,uk];exact hs
  exact ⟨.string s'.data.toList,by simp[mapKey,hu,this],fun d=>by simp[Program.keyLits,hu,this]⟩
theorem Ly {t:TypeId}: ∀{xs:List V} {j:Nat} {x:V},rR P t xs=true→xs[j]? =some x→qG P t x=true
 | [],j,x,_,h=>by simp at h
 | y::ys,0,x,h,hx=>by
  simp only[rR,aM] at h
  simp at hx;subst hx;exact h.1
 | y::ys,j+1,x,h,hx=>by
  simp only[rR,aM] at h
  exact Ly (j:=j) h.2 (by simpa using hx)
theorem mapM_some {α β:Type} {f:α→Option β}: ∀{l:List α},(∀a∈l,∃b,f a=some b)→∃bs,l.mapM f=some bs
 | [],_=>⟨[],rfl⟩
 | a::l,h=>by
  obtain ⟨b,hb⟩:=h a (tH ..)
  obtain ⟨bs,iK⟩:=mapM_some (l:=l) fun x hx=>h x (nk _ hx)
  exact ⟨b::bs,by simp[List.mapM_cons,hb,iK]⟩
inductive LA (P:Program) (t:TypeId) (x:V):Prop
 | one:qG P t x=true→x.cells=[x]→LA P t x
 | arr {n:Nat} {e:TypeId} {xs:List V}:x= .agg xs→WideMaps.ArrKey P t e n→xs.length=n→0<P.types.size→rR P e xs=true→LA P t x
theorem yq {t:TypeId} {x:V} (h:oA P t x=true):LA P t x:=by
 unfold oA at h
 split at h
 ·rename_i n e xs hu
  simp only[aM,ba] at h
  rw[kW] at h
  exact .arr rfl ⟨hu,h.2.2.2.1,h.2.1,h.2.2.1⟩ h.1 h.2.2.2.2.1 h.2.2.2.2.2
 ·refine .one h ?_
  rcases su h with ⟨q,n,hu,rfl,hn⟩|⟨b,hu,rfl⟩|⟨s,hu,rfl,hs⟩<;>rfl
theorem rW.one {x:V} {v:Value} (h:rW v x) (hx:x.cells=[x]):j6 v x:=by
 cases x<;>first|exact h|skip
 simp only[V.cells] at hx
 rename_i cs
 have:=congrArg List.length hx
 cases cs with
 | nil=>simp at hx
 | cons c cs=>
  simp only[Ao] at hx
  have:=congrArg SizeOf.sizeOf hx.1
  simp at this
  omega
theorem Gy {t:TypeId} {x:V} {v:Value} (h:oA P t x=true) (hv:rW v x): ∃l,Go.keyOf P t v=some l:=by
 cases yq h with
 | one h1 hx=>
  obtain ⟨l,hl,_⟩:=Sa h1 (hv.one hx)
  refine ⟨l,?_⟩
  rcases su h1 with ⟨q,n,hu,_⟩|⟨b,hu,_⟩|⟨s,hu,_⟩<;>simp only[Go.keyOf,hu,hl]
 | @arr n e xs hx A hl hp0 hf=>
  subst hx
  obtain ⟨cs,rfl,hs,hc⟩:=hv
  obtain ⟨m,hm⟩: ∃m,P.types.size=m+1:=⟨P.types.size-1,by omega⟩
  have hkt:=A.keyType ⟨m,hm⟩
  have hlen:cs.toList.length=P.cellsOf t:=by rw[A.size];simp[hs,hl]
  have hfm:(Value.agg cs).formed P t=true:=by simp[Value.formed,A.hu,A.size,hs,hl]
  have hex: ∀i∈List.range n,∃y,P.keyLits (m+1) e (((Value.agg cs).cells.toList.drop (i*P.cellsOf e)).take (P.cellsOf e))=some y:=by
   intro i hi
   have hi:=ja.1 hi
   rw[A.one]
   have hO:i<cs.size:=by omega
   have Bx:i<xs.length:=by omega
   obtain ⟨l,_,h2⟩:=Sa (Ly hf (bM Bx)) (hc i cs[i] xs[i] (lP hO) (bM Bx))
   have e1:((Value.agg cs).cells.toList.drop (i*1)).take 1=[cs[i]]:=by
    show (cs.toList.drop (i*1)).take 1=_
    rw[ov,List.drop_eq_getElem_cons (by simpa using hO)]
    simp
   rw[e1]
   exact ⟨_,h2 m⟩
  obtain ⟨bs,iK⟩:=mapM_some hex
  refine ⟨.string (keyBytes bs.flatten),?_⟩
  have acN:(Value.agg cs).cells.toList.length=P.cellsOf t:=hlen
  unfold Go.keyOf
  rw[A.hu]
  simp only[hkt,hfm,Ap,kz]
  unfold Program.keyLits
  rw[A.hu,hm]
  simp only[acN,kz,iK,Option.map_some]
theorem LB {t:TypeId} {x:V} (h:oA P t x=true):Keyed P t:=by
 cases yq h with
 | one h1 hx=>
  rcases su h1 with ⟨q,n,hu,_⟩|⟨b,hu,_⟩|⟨s,hu,_⟩
  ·exact int_keyed hu
  ·exact bool_keyed hu
  ·exact string_keyed hu
 | arr hx A hl _ hf=>exact Keyed.of_law A.law
theorem Sb {t:TypeId} {x y:V} {v u:Value} (h1:qG P t x=true) (h2:qG P t y=true) (hv:j6 v x) (hu:j6 u y):tQ x y=true↔v=u:=by
 rcases su h1 with ⟨q,n,nE,rfl,_⟩|⟨b,nE,rfl⟩|⟨s,nE,rfl,_⟩<;>
 rcases su h2 with ⟨q',n',qX,rfl,_⟩|⟨b',qX,rfl⟩|⟨s',qX,rfl,_⟩<;>
  (rw[nE] at qX;cases qX)
 ·obtain rfl:v= .int q n:=hv
  obtain rfl:u= .int q n':=hu
  simp[tQ]
 ·obtain rfl:v= .bool b:=hv
  obtain rfl:u= .bool b':=hu
  simp[tQ]
 ·obtain ⟨s1,rfl,e1⟩:=hv
  obtain ⟨s2,rfl,e2⟩:=hu
  simp only[tQ,beq_iff_eq,Value.string.injEq,←e1,←e2]
  constructor
  ·intro h
   have:=Array.toList_inj.1 h
   cases s1;cases s2;simp_all
  ·rintro rfl;rfl
theorem Sd {t:TypeId}: ∀{xs ys:List V} {vs us:List Value},rR P t xs=true→rR P t ys=true→xs.length=ys.length→vs.length=xs.length→us.length=ys.length→
  (∀(j:Nat) v x,vs[j]? =some v→xs[j]? =some x→j6 v x)→(∀(j:Nat) v x,us[j]? =some v→ys[j]? =some x→j6 v x)→(qE xs ys=true↔vs=us)
 | [],[],vs,us,_,_,_,h1,h2,_,_=>by
  have e1:=oq (l:=vs) (by simpa using h1)
  have e2:=oq (l:=us) (by simpa using h2)
  simp[qE,e1,e2]
 | [],_::_,_,_,_,_,h,_,_,_,_=>by simp at h
 | _::_,[],_,_,_,_,h,_,_,_,_=>by simp at h
 | x::xs,y::ys,[],us,_,_,_,h,_,_,_=>by simp at h
 | x::xs,y::ys,v::vs,[],_,_,_,_,h,_,_=>by simp at h
 | x::xs,y::ys,v::vs,u::us,f1,f2,h,h1,h2,r1,r2=>by
  simp only[rR,aM] at f1 f2
  have a:=Sb f1.1 f2.1 (r1 0 v x rfl rfl) (r2 0 u y rfl rfl)
  have b:=Sd (vs:=vs) (us:=us) f1.2 f2.2 (by simpa using h) (by simpa using h1) (by simpa using h2) (fun j v x hj hx=>r1 (j+1) v x (by simpa using hj) (by simpa using hx)) (fun j v x hj hx=>r2 (j+1) v x (by simpa using hj) (by simpa using hx))
  simp only[qE,aM,a,b,Ao]
theorem LC {t:TypeId} {x y:V} {v u:Value} (h1:oA P t x=true) (h2:oA P t y=true) (hv:rW v x) (hu:rW u y):jX x y=true↔v=u:=by
 unfold jX
 cases yq h1 with
 | one f1 c1=>
  cases yq h2 with
  | one f2 c2=>
   rw[c1,c2]
   simp only[qE,Bool.and_true]
   exact Sb f1 f2 (hv.one c1) (hu.one c2)
  | arr hy A hl _ hf=>
   rcases su f1 with ⟨q,n,nE,_⟩|⟨b,nE,_⟩|⟨s,nE,_⟩<;>(rw[A.hu] at nE;cases nE)
 | arr hx A hl _ hf=>
  cases yq h2 with
  | one f2 c2=>
   rcases su f2 with ⟨q,n,nE,_⟩|⟨b,nE,_⟩|⟨s,nE,_⟩<;>(rw[A.hu] at nE;cases nE)
  | arr hy A2 vh _ hf2=>
   have iq:=A.hu.symm.trans A2.hu
   cases iq
   subst hx
   subst hy
   obtain ⟨cs,rfl,s1,r1⟩:=hv
   obtain ⟨ds,rfl,s2,r2⟩:=hu
   have:=Sd (vs:=cs.toList) (us:=ds.toList) hf hf2 (by omega) (by simpa using s1) (by simpa using s2) (fun j v x hj hx=>r1 j v x (by simpa using hj) hx) (fun j v x hj hx=>r2 j v x (by simpa using hj) hx)
   simp only[V.cells,this,Value.agg.injEq]
   exact Array.toList_inj
theorem Se {k:V}: ∀{es:List V},(∀x∈es,jX k (x.comp 0)=false)→gk k es=false∧(∀z,jb k es z=z)∧∀v,fB k v es=es++[.bx [k,v]]
 | [],_=>⟨rfl,fun _=>rfl,fun _=>rfl⟩
 | e::es,h=>by
  have h0:=h e (tH ..)
  obtain ⟨a,b,c⟩:=Se (k:=k) (es:=es) fun x hx=>h x (nk _ hx)
  exact ⟨by simp[gk,h0,a],fun z=>by simp[jb,h0,b],fun v=>by simp[fB,h0,c]⟩
theorem Sf {k:V}: ∀{es:List V} {j:Nat} {k' y:V},es[j]? =some (.bx [k',y])→jX k k'=true→(∀i x,i<j→es[i]? =some x→jX k (x.comp 0)=false)→
  gk k es=true∧(∀z,jb k es z=y)∧∀v,fB k v es=es.set j (.bx [k',v])
 | [],j,k',y,h,_,_=>by simp at h
 | e::es,0,k',y,h,he,_=>by
  simp at h
  subst h
  exact ⟨by simp[gk,V.comp,V.nth,he],fun z=>by simp[jb,V.comp,V.nth,he],fun v=>by simp[fB,V.comp,V.nth,he]⟩
 | e::es,j+1,k',y,h,he,a9=>by
  have h0:=a9 0 e (by omega) rfl
  obtain ⟨a,b,c⟩:=Sf (k:=k) (es:=es) (j:=j) (by simpa using h) he fun i x hi hx=>a9 (i+1) x (by omega) (by simpa using hx)
  exact ⟨by simp[gk,h0,a],fun z=>by simp[jb,h0,b],fun v=>by simp[fB,h0,c]⟩
theorem Sg {kt vt:TypeId} {E:Array MapEntry} {es:List V} {k:V} {kv:Value} (hs:E.size=es.length) (hx: ∀(j:Nat) (e:MapEntry) (x:V),E[j]? =some e→es[j]? =some x→FV P kt vt e x)
  (hn:E.toList.Pairwise (fun a b=>a.key≠b.key)) (hk:oA P kt k=true) (Gz:rW kv k) (w:World):
  ((Instr.findKey kt kv E.toList).run P w= .ok none w∧(∀e∈E.toList,e.key≠kv)∧gk k es=false∧(∀z,jb k es z=z)∧∀v,fB k v es=es++[.bx [k,v]])∨
  ∃j e k' y,(Instr.findKey kt kv E.toList).run P w= .ok (some (j,e.val)) w∧E[j]? =some e∧e.key=kv∧es[j]? =some (.bx [k',y])∧oA P kt k'=true∧rW kv k'∧fb P vt y=true∧j6 e.val y∧
   gk k es=true∧(∀z,jb k es z=y)∧∀v,fB k v es=es.set j (.bx [k',v]):=by
 have K:=LB hk
 obtain ⟨l,hl⟩:=Gy hk Gz
 have Sh: ∀(j:Nat) x,es[j]? =some x→∃e,E[j]? =some e∧FV P kt vt e x:=by
  intro j x hj
  have a9:j<E.size:=by rw[hs];exact (bH.1 hj).1
  exact ⟨E[j],lP a9,hx j _ x (lP a9) hj⟩
 have keys: ∀e∈E.toList,∃l,Go.keyOf P kt e.key=some l:=by
  intro e he
  obtain ⟨j,hj⟩:=tF he
  have il:E[j]? =some e:=by simpa using hj
  have a9:j<es.length:=by rw[←hs];exact (iY.1 il).1
  obtain ⟨k',y,_,h1,h2,_⟩:=hx j e es[j] il (bM a9)
  exact Gy h1 h2
 rcases K.find w hl E.toList keys with ⟨h1,h2⟩|⟨j,e,h1,h2,h3⟩
 ·left
  refine ⟨h1,h2,Se fun x hxm=> ?_⟩
  obtain ⟨j,hj⟩:=tF hxm
  obtain ⟨e,he,k',y,rfl,f1,f2,_⟩:=Sh j x hj
  cases hq:jX k (V.comp (.bx [k',y]) 0) with
  | false=>rfl
  | true=>
   have:=(LC hk f1 Gz f2).1 hq
   exact absurd this.symm (h2 e (jU (by simpa using he)))
 ·right
  have hE:E[j]? =some e:=by simpa using h2
  have a9:j<es.length:=by rw[←hs];exact (iY.1 hE).1
  obtain ⟨k',y,hy,f1,f2,f3,f4⟩:=hx j e es[j] hE (bM a9)
  have hj:=bM a9
  rw[hy] at hj
  rw[h3] at f2
  refine ⟨j,e,k',y,h1,hE,h3,hj,f1,f2,f3,f4,Sf hj ((LC hk f1 Gz f2).2 rfl) fun i x hi ij=> ?_⟩
  obtain ⟨e',vO,k2,y2,rfl,g1,g2,_⟩:=Sh i x ij
  cases hq:jX k (V.comp (.bx [k2,y2]) 0) with
  | false=>rfl
  | true=>
   have:=(LC hk g1 Gz g2).1 hq
   have i1:i<E.toList.length:=by have:=(bH.1 ij).1;simp;omega
   have i2:j<E.toList.length:=by simp;omega
   have:=xA.1 hn i j i1 i2 hi
   have a1:E.toList[i]=e':=by
    have:E.toList[i]? =some e':=by simpa using vO
    rw[bM i1] at this;exact dr this
   have a2:E.toList[j]=e:=by
    have:=h2
    rw[bM i2] at this;exact dr this
   rw[a1,a2,h3] at this
   exact absurd (by rw[← ‹kv=e'.key›]) this
theorem aj.Si {v:Value} {x:V} (h:aj P w I β hp v x) {t:TypeId} (hx:qG P t x=true):j6 v x:=by
 rcases su hx with ⟨q,n,_,rfl,_⟩|⟨b,_,rfl⟩|⟨s,_,rfl,_⟩
 ·exact h.e8
 ·exact h.kG
 ·exact h.ny
theorem aj.Sj {v:Value} {x:V} (h:aj P w I β hp v x) {t:TypeId} (hx:oA P t x=true):rW v x:=by
 cases yq hx with
 | one f c=>
  have:=h.Si f
  cases x<;>first|exact this|cases this
 | arr hx A hl _ hf=>
  subst hx
  obtain ⟨cs,rfl,h1,h2⟩:=h.lW
  exact ⟨cs,rfl,h1,fun j u y hu hy=>(h2 j u y hu hy).Si (Ly hf hy)⟩
theorem Sk {vt:TypeId} {y:V} (h:mapVal P vt=true) (ht:fb P vt y=true):(∃q n,P.underlying vt=some (.int q)∧y= .int q n)∨∃b,P.underlying vt=some .bool∧y= .bool b:=by
 unfold mapVal at h
 unfold fb at ht
 split at h
 ·rename_i q hu
  rw[hu] at ht
  cases y<;>first|(simp at ht;done)|skip
  simp only[eE] at ht
  subst ht
  exact .inl ⟨_,_,hu,rfl⟩
 ·rename_i hu
  rw[hu] at ht
  cases y<;>first|(simp at ht;done)|skip
  exact .inr ⟨_,hu,rfl⟩
 ·cases h
theorem j6.LD {vt:TypeId} {v:Value} {y:V} (h:mapVal P vt=true) (ht:fb P vt y=true) (hv:j6 v y):aj P w I β hp v y:=by
 rcases Sk h ht with ⟨q,n,_,rfl⟩|⟨b,_,rfl⟩
 ·obtain rfl:v= .int q n:=hv;exact .int
 ·obtain rfl:v= .bool b:=hv;exact .bool
theorem aj.acO {vt:TypeId} {v:Value} {y:V} (h:mapVal P vt=true) (ht:fb P vt y=true) (hv:aj P w I β hp v y):j6 v y:=by
 rcases Sk h ht with ⟨q,n,_,rfl⟩|⟨b,_,rfl⟩
 ·exact hv.e8
 ·exact hv.kG
theorem acP {vt:TypeId} {z:V} (h:FG P vt=some z) (w:World): ∃v,(zeroValue vt).run P w= .ok v w∧j6 v z:=by
 unfold FG at h
 cases hi:P.info? vt with
 | none=>rw[hi] at h;cases h
 | some i=>
  rw[hi] at h
  simp only[Option.bind_some] at h
  cases hz:i.zero with
  | none=>rw[hz] at h;cases h
  | some v=>
   rw[hz] at h
   refine ⟨v,by simp[zeroValue,typeInfo,hi,hz],?_⟩
   cases v<;>simp only at h<;>first|(cases h;done)|skip
   ·cases h;rfl
   ·cases h;rfl
theorem LF {t kt vt:TypeId} (h:mz P t=some (kt,vt)):P.underlying t=some (.map kt vt):=by
 unfold mz at h
 split at h
 ·rename_i k e hu;cases h;exact hu
 ·cases h
theorem LG (S:aH P w I β hp B M w0) {ok:Bool} {v:Value} {x:V} {b:Bool} {r:R} {rd:List Nat} {res:Result Value} (hv:aj P w I β hp v x)
  (hr:res= .ok (if ok then .tuple #[v,.bool b] else v) w) (h:(FH ok x b).run C hp=some (r,rd)):dz P res w I β hp B M w0 r:=by
 unfold FH at h
 obtain rfl:=aU h
 cases ok with
 | false=>exact .same S hr hv
 | true=>
  refine .same S hr (.bx rfl fun j u y hu hy=> ?_)
  match j,hu,hy with
  | 0,hu,hy=>simp at hu hy;subst hu;subst hy;exact hv
  | 1,hu,hy=>simp at hu hy;subst hu;subst hy;exact .bool
  | j+2,hu,hy=>simp at hy
theorem acQ (S:aH P w I β hp B M w0) {t kt vt:TypeId} (ht:mz P t=some (kt,vt)) {m k:Value} {mx kx:V} {ok:Bool} {r:R} {rd:List Nat} (hm:aj P w I β hp m mx) (hk:aj P w I β hp k kx)
  (h:(Ku P t mx kx ok).run C hp=some (r,rd)):dz P ((Instr.lookup t m k ok).run P w) w I β hp B M w0 r:=by
 unfold Ku at h
 rw[ht] at h
 simp only at h
 cases hz:FG P vt with
 | none=>rw[hz] at h;cases h
 | some z=>
  rw[hz] at h
  obtain ⟨hc,h'⟩:=aI h
  clear h
  have h:=h'
  clear h'
  simp only[aM] at hc
  obtain ⟨qY,Bz,GA⟩:=hc
  have hu:=LF ht
  have yr:=hk.Sj qY
  have K:=LB qY
  obtain ⟨l,hl⟩:=Gy qY yr
  obtain ⟨zv,Sl,Sm⟩:=acP hz w
  cases mx<;>simp only at h<;>first|(cases h;done)|skip
  ·rename_i t' id
   obtain ⟨lq,h'⟩:=aI h
   clear h
   have h:=h'
   clear h'
   rw[ba] at lq
   subst lq
   obtain ⟨l2,h'⟩:=run_get h
   clear h
   have h:=h'
   clear h'
   cases ab:hp id with
   | none=>rw[ab] at h;cases h
   | some blk=>
    rw[ab] at h
    cases blk<;>simp only at h<;>first|(cases h;done)|skip
    rename_i t2 es
    obtain ⟨lq,h'⟩:=aI h
    clear h
    have h:=h'
    clear h'
    rw[ba] at lq
    subst lq
    cases hm with
    | jk hd=>rw[ab] at hd;cases hd
    | @cm _ _ b aQ hd hb=>
     rw[ab] at hd
     cases hd
     have hr:=S.h.rel id _ ab
     cases hr with
     | @map _ Sn So _ b' clock E gI az hh hs hI hx hn=>
      rw[hb] at az;cases az
      rw[hu] at gI;cases gI
      rcases Sg hs hx hn qY yr w with ⟨h1,_,h3,h4,_⟩|⟨j,e,k',y,h1,_,_,_,_,_,h6,h7,h3,h4,_⟩
      ·rw[h3,h4,Bk GA] at h
       refine LG S (j6.LD Bz GA Sm) ?_ h
       unfold Instr.lookup
       simp only[Sem.run_bind,run_underlying hu,Result.andThen_ok,Go.MapKept.run_getObj_map hh,Sem.run_pure,K.check w E.isEmpty hl,h1,Sl]
      ·rw[h3,h4,Bk h6] at h
       refine LG S (j6.LD Bz h6 h7) ?_ h
       unfold Instr.lookup
       simp only[Sem.run_bind,run_underlying hu,Result.andThen_ok,Go.MapKept.run_getObj_map hh,Sem.run_pure,K.check w E.isEmpty hl,h1]
  ·rename_i t'
   obtain ⟨lq,h⟩:=aI h
   cases hm
   rw[Bk GA] at h
   refine LG S (j6.LD Bz GA Sm) ?_ h
   have hf:(Instr.findKey kt k []).run P w= .ok none w:=by
    rcases K.find w hl [] (by simp) with ⟨h1,_⟩|⟨j,e,_,h2,_⟩
    ·exact h1
    ·simp at h2
   unfold Instr.lookup
   simp[run_underlying hu,K.check w true hl,hf,Sl]
theorem acR (S:aH P w I β hp B M w0) {t:TypeId} {nb:Nat} {r:R} {rd:List Nat} (h:(Rd.aB (mz P t).isSome (jY nb (.map t []) (.cm t nb) [])).run C hp=some (r,rd)):
  dz P ((Instr.makeMap t none).run P w) w I β hp B M w0 r:=by
 obtain ⟨ht,h⟩:=aI h
 obtain ⟨hn,rfl⟩:=oM h
 obtain ⟨⟨kt,vt⟩,ht⟩:=Option.isSome_iff_exists.1 ht
 have hu:=LF ht
 have dj: ¬I w.heap.size:=fun h=>Nat.lt_irrefl _ (S.h.kD _ h)
 have fE:(w.alloc (.map #[] 0)).heap[w.heap.size]? =some (.map #[] 0):=heap_alloc_new w _
 obtain ⟨a1,a2⟩:=Bg S (w':=w.alloc (.map #[] 0)) (blk:= .map t []) (b:=w.heap.size) hn (fun aE blk' h ho=>Nat.lt_irrefl _ (S.h.lt h ho)) dj
  (fun b' _ a9=>heap_alloc_old w _ b' a9) (by simp) ⟨rfl,rfl⟩ (.inr S.size) (fun b' h=>(dr (h.flat (by simp))).symm)
  (fun _=> .map hu rfl fE rfl dj (fun j e x he _=>by simp at he) (by simp))
 exact ⟨_,_,_,_,Go.RowKit.run_makeMap t w,a1,a2,.cm (dt _ _ _) (dt _ _ _)⟩
theorem Sp (S:aH P w I β hp B M w0) {t kt vt:TypeId} (ht:mz P t=some (kt,vt)) {m k v:Value} {mx kx vx:V} {r:R} {rd:List Nat} (hm:aj P w I β hp m mx) (hk:aj P w I β hp k kx) (hv:aj P w I β hp v vx)
  (h:(FI P t mx kx vx).run C hp=some (r,rd)):qP P ((Instr.mapUpdate t m k v).run P w) w I β hp B M w0 r:=by
 unfold FI at h
 rw[ht] at h
 obtain ⟨hc,h'⟩:=aI h
 clear h
 have h:=h'
 clear h'
 simp only[aM] at hc
 obtain ⟨qY,Bz,vS⟩:=hc
 have hu:=LF ht
 have yr:=hk.Sj qY
 have yd:=aj.acO Bz vS hv
 have K:=LB qY
 obtain ⟨l,hl⟩:=Gy qY yr
 cases mx<;>simp only at h<;>first|(cases h;done)|skip
 rename_i t' id
 obtain ⟨lq,h'⟩:=aI h
 clear h
 have h:=h'
 clear h'
 rw[ba] at lq
 subst lq
 obtain ⟨l2,h'⟩:=run_get h
 clear h
 have h:=h'
 clear h'
 cases ab:hp id with
 | none=>rw[ab] at h;cases h
 | some blk=>
  rw[ab] at h
  cases blk<;>simp only at h<;>first|(cases h;done)|skip
  rename_i t2 es
  obtain ⟨lq,h'⟩:=aI h
  clear h
  have h:=h'
  clear h'
  rw[ba] at lq
  subst lq
  obtain rfl:=aU h
  cases hm with
  | jk hd=>rw[ab] at hd;cases hd
  | @cm _ _ b aQ hd hb=>
   rw[ab] at hd
   cases hd
   have hr:=S.h.rel id _ ab
   cases hr with
   | @map _ Sn So _ b' clock E gI az hh hs hI hx hn=>
    rw[hb] at az;cases az
    rw[hu] at gI;cases gI
    have a9:b<w.heap.size:=(iY.1 hh).1
    have fin: ∀(E':Array MapEntry) (BA:Nat),(Instr.mapUpdate t (.map (some b)) k v).run P w= .ok () {w with heap:=w.heap.setIfInBounds b (.map E' BA)}→E'.size=(fB kx vx es).length→
      (∀(j:Nat) (e:MapEntry) (x:V),E'[j]? =some e→(fB kx vx es)[j]? =some x→FV P kt vt e x)→E'.toList.Pairwise (fun a b=>a.key≠b.key)→
      qP P ((Instr.mapUpdate t (.map (some b)) k v).run P w) w I β hp B M w0 ⟨.undef,[(id,.map t (fB kx vx es))]⟩:=by
     intro E' BA dw uk cR LH
     have fE:({w with heap:=w.heap.setIfInBounds b (.map E' BA)}:World).heap[b]? =some (.map E' BA):=by simp[a9]
     obtain ⟨a1,a2⟩:=F6 S (w':={w with heap:=w.heap.setIfInBounds b (.map E' BA)}) (blk':= .map t (fB kx vx es)) ab (by simp) rfl hb hI (by simp)
      (fun b' az=>by simp[Array.getElem?_setIfInBounds,Ne.symm az]) (by simp only[bsize,fE,hh]) (by simp) ⟨rfl,rfl⟩ (fun _=> .map hu rfl fE uk hI cR LH)
     exact ⟨_,I,β,dw,a1,a2,rfl⟩
    rcases Sg hs hx hn qY yr w with ⟨h1,h2,_,_,h5⟩|⟨j,e,k',y,h1,hE,Sq,hes,acS,acT,_,_,_,_,h5⟩
    ·have e5:=h5 vx
     refine fin (E.push {key:=k,val:=v,born:=clock}) (clock+1) ?_ (by rw[e5];simp[hs]) (fun j e x he sd=> ?_) ?_
     ·unfold Instr.mapUpdate
      simp only[Sem.run_bind,run_underlying hu,Result.andThen_ok,Go.MapKept.run_getObj_map hh,K.check w false hl,h1,Go.MapKept.run_setObj_map _ hh]
     ·rw[e5] at sd
      rw[Array.getElem?_push] at he
      split at he
      ·rename_i hj
       rw[kZ (by omega),hj,hs,Nat.sub_self] at sd
       simp at he sd
       subst he;subst sd
       exact ⟨kx,vx,rfl,qY,yr,vS,yd⟩
      ·have hj:j<E.size:=(iY.1 he).1
       rw[kY (by omega)] at sd
       exact hx j e x he sd
     ·rw[Array.toList_push,List.pairwise_append]
      refine ⟨hn,by simp,fun a ha b' az=> ?_⟩
      simp only[gX] at az
      subst az
      exact h2 a ha
    ·have e5:=h5 vx
     have hj:j<E.size:=(iY.1 hE).1
     refine fin (E.modify j fun e=>{e with key:=k,val:=v}) clock ?_ (by rw[e5];simp[hs]) (fun i e' x he ij=> ?_) ?_
     ·have b6:=K.stays w hl
      unfold Instr.mapUpdate
      simp only[Sem.run_bind,run_underlying hu,Result.andThen_ok,Go.MapKept.run_getObj_map hh,K.check w false hl,h1]
      simp only[hE,Option.map_some,Option.getD_some,Sq,b6,Result.andThen_ok,Go.MapKept.run_setObj_map _ hh]
     ·rw[e5] at ij
      rw[Aq] at he
      rw[xx] at ij
      split at he
      ·rename_i vT
       subst vT
       rw[af rfl,af (by omega)] at ij
       rw[hE] at he
       simp at he ij
       subst he;subst ij
       exact ⟨k',vx,rfl,acS,acT,vS,yd⟩
      ·rename_i vT
       rw[ag vT] at ij
       exact hx i e' x he ij
     ·have Sr: ∀i (h1:i<(E.modify j fun e=>{e with key:=k,val:=v}).toList.length) (h2:i<E.toList.length),((E.modify j fun e=>{e with key:=k,val:=v}).toList[i]).key=(E.toList[i]).key:=by
       intro i h1 h2
       simp only[Array.getElem_toList,Array.getElem_modify]
       split
       ·rename_i vT
        subst vT
        have:=(iY.1 hE).2
        rw[this,Sq]
       ·rfl
      rw[xA] at hn⊢
      intro i i' h1 h2 jH
      have g1:i<E.toList.length:=by simpa using h1
      have g2:i'<E.toList.length:=by simpa using h2
      rw[Sr i h1 g1,Sr i' h2 g2]
      exact hn i i' g1 g2 jH
theorem acU (S:aH P w I β hp B M w0) {t ty kt vt:TypeId} {v:Value} {x:V} {r:R} {rd:List Nat} (hu:P.underlying t=some (.map kt vt)) (hv:aj P w I β hp v x)
  (h:(FJ x).run C hp=some (r,rd)):dz P ((Builtin.len_ #[t] ty #[v]).run P w) w I β hp B M w0 r:=by
 unfold FJ at h
 cases x<;>simp only at h<;>first|(cases h;done)|skip
 ·rename_i t' id
  obtain ⟨l2,h'⟩:=run_get h
  clear h
  have h:=h'
  clear h'
  cases ab:hp id with
  | none=>rw[ab] at h;cases h
  | some blk=>
   rw[ab] at h
   cases blk<;>simp only at h<;>first|(cases h;done)|skip
   rename_i t2 es
   obtain rfl:=aU h
   cases hv with
   | jk hd=>rw[ab] at hd;cases hd
   | @cm _ _ b aQ hd hb=>
    rw[ab] at hd
    cases hd
    have hr:=S.h.rel id _ ab
    cases hr with
    | @map _ Sn So _ b' clock E gI az hh hs hI hx hn=>
     rw[hb] at az;cases az
     refine .same S (v:= .int .i64 E.size) (by simp[Builtin.len_,run_underlying hu,Go.MapKept.run_getObj_map hh,goInt]) ?_
     rw[hs]
     exact .int
 ·obtain rfl:=aU h
  cases hv
  exact .same S (v:= .int .i64 0) (by simp[Builtin.len_,run_underlying hu,goInt]) .int
theorem aj.LI {v:Value} {t:TypeId} (h:aj P w I β hp v (.dS t)):v= .map none:=by cases h;rfl
theorem aj.acV {v:Value} {t t':TypeId} {id:Nat} {es:List V} (h:aj P w I β hp v (.cm t id)) (ab:hp id=some (.map t' es)): ∃b,v= .map (some b):=by
 cases h with
 | jk h=>rw[ab] at h;cases h
 | cm h hb=>exact ⟨_,rfl⟩
theorem Ss (S:aH P w I β hp B M w0) {op:BinOp} {t:TypeId} {a:Option Nat} {r:R} {rd:List Nat} (x y:Operand)
  (h:(FD P op t a.isNone).run C hp=some (r,rd)):dz P ((do eqGuard op t x y (.map a) (.map none);binOp op t (.map a) (.map none)).run P w) w I β hp B M w0 r:=by
 unfold FD at h
 split at h
 case h_2=>cases h
 rename_i kt vt hu
 have he:(Op.equal t (.map a) (.map none)).run P w= .ok a.isNone w:=by
  show (Op.equalIn (9999+1) t (.map a) (.map none)).run P w=_
  rw[Op.equalIn]
  cases a<;>simp[Sem.run_bind,run_underlying hu,Result.andThen_ok,Sem.run_pure]
 cases op<;>simp only at h<;>first|(cases h;done)|skip
 ·obtain rfl:=aU h
  exact .same S (by simp[eqGuard,binOp,he]) .bool
 ·obtain rfl:=aU h
  exact .same S (by simp[eqGuard,binOp,he]) .bool
end
end Go.AM
namespace Go.AM
section
variable {P:Program} {w w':World} {I I':Nat→Prop} {β aq:Nat→Option Nat} {hp hp':Nat→Option ai} {C:ae} {B:Nat} {M:Nat→Prop} {w0:Start}
theorem acW {e:TypeId} (he:P.underlying e=some (.int .u8)) (hc:P.cellsOf e=1) (s:ByteArray): ∀(i j:Nat) (x:V) (t':TypeId),(s.data.toList.map AX)[i]? =some x→(bd P e)[j]? =some t'→j<P.cellsOf e→
  ∃u,(Lib.strCells s)[i*P.cellsOf e+j]? =some u∧Pure P w I t' u (b7 P e x j):=by
 intro i j x t' hx ht hj
 have oP:bW P e=false:=by simp[bW,he]
 obtain rfl:j=0:=by omega
 simp only[bd,oP,cond_false,List.getElem?_cons_zero,dZ] at ht
 subst ht
 rw[eZ] at hx
 cases hb:s.data.toList[i]? with
 | none=>rw[hb] at hx;cases hx
 | some b=>
  rw[hb] at hx
  cases hx
  refine ⟨.int .u8 b.toNat,?_,?_⟩
  ·rw[hc,ov,Nat.add_zero]
   simp only[Lib.strCells,eZ,hb,Option.map_some]
  ·simp only[b7,oP,cond_false]
   exact .int he
theorem acX (w:World) (t u ty e:TypeId) (i:TypeInfo) (z:Value) (ht:P.underlying t=some (.slice e)) (hu:P.underlying u=some .string) (hi:P.info? e=some i) (hz:i.zero=some z)
  (s:ByteArray) (h0:0<s.size) (Gt:(s.size:Int)≤9223372036854775807) (Gu:s.size*i.bytes≤281474976710656) (a0:Option Addr):
  (Builtin.append_ #[t,u] ty #[.slice a0 0 0,.string s]).run P w=
   .ok (.slice (some ⟨w.heap.size,0,none⟩) s.size (grownCap w s.size 0 e))
    (w.drew.alloc (.cells (s.data.map (fun b=>Value.int .u8 b.toNat)++Builtin.zeroCells z.cells (grownCap w s.size 0 e-s.size)) e)):=by
 cases a0 with
 | none=>exact run_append_nil_string w t u ty e i z ht hu hi hz s h0 Gt Gu
 | some b=>
  rw[←run_append_nil_string w t u ty e i z ht hu hi hz s h0 Gt Gu]
  have hn:s.size≠0:=by omega
  have acY: ¬(9223372036854775807<(s.size:Int)):=by omega
  have acZ: ¬(281474976710656<Builtin.nextslicecap s.size 0*i.bytes):=by rw[nextslicecap_zero h0];omega
  simp[Builtin.append_,run_underlying ht,run_underlying hu,sizeOf,typeInfo,zeroValue,hi,hz,Builtin.lenOf,Builtin.firstCells,hn,acY,acZ,Question.forced,newRow,grownCap,loadCells,loadCellsFrom]
theorem Su (S:aH P w I β hp B M w0) {t u ty e:TypeId} {nb:Nat} {x:ByteArray} {xs:List V} {i:TypeInfo} {z:Value} (hu:P.underlying t=some (.slice e)) (pV:P.underlying u=some .string) (aw:dm P e=true) (hn:hp nb=none)
 (hi:P.info? e=some i) (hz:i.zero=some z) (h3:i.size=P.cellsOf e) (h4:z.cells.size=P.cellsOf e) (yu:i.size=1) (nC:P.bytesOf e=i.bytes) (fe:xs.length*P.bytesOf e≤bP) (iu:xs.length=x.size) (nA:(Lib.strCells x).length=x.size)
 (dq: ∀(i j:Nat) (y:V) (t':TypeId),xs[i]? =some y→(bd P e)[j]? =some t'→j<P.cellsOf e→∃u,(Lib.strCells x)[i*P.cellsOf e+j]? =some u∧Pure P w I t' u (b7 P e y j)):
 ∀a0,∃v w' aq,(Builtin.append_ #[t,u] ty #[.slice a0 0 0,.string x]).run P w= .ok v w'∧Le P w I β hp w' I aq (aL hp nb (some (.arr e xs false)))∧aH P w' I aq (aL hp nb (some (.arr e xs false))) B M w0∧
  aj P w' I aq (aL hp nb (some (.arr e xs false))) v (.whole e nb):=by
 intro a0
 have vP:=xV aw
 have hlen:xs.length≤2^45:=by
  have:xs.length*1≤xs.length*P.bytesOf e:=vb _ vP
  simp only[bP] at fe
  omega
 by_cases h0:x.size=0
 ·have im:xs=[]:=oq (by omega)
  subst im
  obtain ⟨a1,a2⟩:=F4 S e hn
  have hf:=Lib.run_firstCells_string (P:=P) w 1 x
  rw[h0] at hf
  have si:Lib.strCells x=[]:=oq (by omega)
  exact ⟨.slice a0 0 0,_,_,by cases a0<;>simp[storeCells,si,Builtin.append_,run_underlying hu,run_underlying pV,sizeOf,typeInfo,hi,yu,Builtin.lenOf,h0,hf],a1,a2,.ep (dt _ _ _) (dt _ _ _)⟩
 ·have dw:=acX (P:=P) w t u ty e i z hu pV hi hz x (by omega) (by omega) (by rw[←nC,←iu];simp only[bP] at fe;omega) a0
  have e1:(x.data.map fun b=>Value.int .u8 b.toNat)=(Lib.strCells x).toArray:=by
   apply Array.ext'
   simp[Lib.strCells]
  rw[e1,←iu] at dw
  have qT:=grownCap_ge w xs.length 0 e
  have vQ:grownCap w xs.length 0 e≤maxLen:=grownCap_le_maxLen w xs.length 0 e (by simp only[maxLen];omega)
  obtain ⟨n1,n2,n3⟩:=yo S.drew (nb:=nb) (cap:=grownCap w xs.length 0 e) (es:=xs) (C0:=(Lib.strCells x).toArray++Builtin.zeroCells z.cells (grownCap w xs.length 0 e-xs.length)) aw hn
   (by
    have:(Lib.strCells x).length=xs.length*P.cellsOf e:=by rw[nA,iu,←h3,yu,ov]
    simp only[Ft,rM,size_zeroCells,h4,this,←ee];congr 1;omega) qT vQ
   (fun i' j y t' hy ht hj=>by
    obtain ⟨u,gI,hp⟩:=dq i' j y t' hy ht hj
    have a9:=(bH.1 gI).1
    refine ⟨u,?_,Pure.drew hp⟩
    rw[Array.getElem?_append_left (by simpa using a9)]
    simpa using gI)
  exact ⟨_,_,_,dw,(Le.drew w I β hp).trans n1,n2,n3⟩
theorem ac0 (S:aH P w I β hp B M w0) {t u ty e:TypeId} {nb:Nat} {s:Value} {sv:V} {x:ByteArray} {r:R} {rd:List Nat} (hu:P.underlying t=some (.slice e)) (pV:P.underlying u=some .string) (he:P.underlying e=some (.int .u8)) (hs:aj P w I β hp s sv)
  (h:(xK P nb e sv (.list e (x.data.toList.map AX))).run C hp=some (r,rd)):dz P ((Builtin.append_ #[t,u] ty #[s,.string x]).run P w) w I β hp B M w0 r:=by
 unfold xK at h
 obtain ⟨aw,h⟩:=aI h
 simp only[tR] at h
 obtain ⟨_,h⟩:=aI h
 have oP:bW P e=false:=by simp[bW,he]
 have ey:P.cellsOf e=1:=by rw[←(lp aw).1,Bb oP];rfl
 obtain ⟨i,z,hi,hz,h3,h4,_⟩:=lr aw
 have yu:i.size=1:=by rw[h3,ey]
 have vP:=xV aw
 have nC:P.bytesOf e=i.bytes:=by simp[Program.bytesOf,hi]
 have GB:=acW (P:=P) (w:=w) (I:=I) he ey x
 have iu:(x.data.toList.map AX).length=x.size:=by simp
 have nA:(Lib.strCells x).length=x.size:=Lib.strCells_length x
 have h1:=Lib.strCells_oneCell x
 generalize im:x.data.toList.map AX=xs at*
 cases sv with
 | nilS e'=>
  obtain ⟨hc,h⟩:=aI h
  simp only[aM,ba,fy] at hc
  obtain ⟨hn,rfl⟩:=oM h
  obtain ⟨a0,rfl⟩: ∃a0,s= .slice a0 0 0:=by cases hs;exact ⟨_,rfl⟩
  obtain ⟨v,w',aq,a1,a2,a3,a4⟩:=Su S hu pV aw hn hi hz h3 h4 yu nC hc.2 iu nA GB _
  exact ⟨v,w',I,aq,a1,a2,a3,a4⟩
 | whole e' id=>
  obtain ⟨l,h⟩:=run_get h
  cases ab:hp id with
  | none=>rw[ab] at h;cases h
  | some blk=>
   rw[ab] at h
   cases blk with
   | dead=>cases h
   | var _=>cases h
   | nest _ _ _=>cases h
   | map _ _=>cases h
   | arr ej es fz=>
    cases fz with
    | true=>cases h
    | false=>
     obtain ⟨hc,h⟩:=aI h
     obtain ⟨hn,rfl⟩:=oM h
     simp only[aM,ba,fy] at hc
     obtain ⟨Lq,Lr,fe⟩:=hc
     subst Lq
     subst Lr
     have ca:nb≠id:=fun e=>by rw[e,ab] at hn;cases hn
     obtain ⟨k1,k2⟩:=F5 S ab
     have lu:aL hp id (some ai.dead) nb=none:=by rw[eV _ _ ca];exact hn
     cases hs with
     | eT hd=>rw[ab] at hd;cases hd
     | e7 hd=>rw[ab] at hd;cases hd
     | ep hd hb=>
      rw[ab] at hd
      cases hd
      simp only[List.length_nil,eh] at fe
      obtain ⟨v,w',aq,a1,a2,a3,a4⟩:=Su k2 hu pV aw lu hi hz h3 h4 yu nC fe iu nA GB _
      exact ⟨v,w',I,aq,a1,k1.trans a2,a3,a4⟩
     | @whole _ _ aQ oB b cap hd hb bn cA hm=>
      rw[ab] at hd
      cases hd
      have hr:=S.h.rel id _ ab
      cases hr with
      | eu az=>rw[az] at hb;cases hb
      | @arr _ _ _ b' Ca _ az hh qV hf eU nD=>
       rw[hb] at az
       cases az
       have hlen:es.length+xs.length≤2^45:=by
        have:(es.length+xs.length)*1≤(es.length+xs.length)*P.bytesOf e:=vb _ vP
        simp only[bP] at fe
        omega
       rw[oE hh] at bn
       have sb: ∀aE blk',aL hp id (some ai.dead) aE=some blk'→¬bK P w (β aE) blk' b:=by
        intro aE blk' h1 h2
        by_cases jH:aE=id
        ·subst jH;rw[dt] at h1;cases h1;exact h2.alive rfl
        ·rw[eV _ _ jH] at h1
         exact jH (S.h.inj aE id blk' _ b h1 ab h2 (.root (by simp) hb))
       have Ls:=S.h.tZ id _ b ab (by simp) hb
       have mF:es.length*P.cellsOf e≤Ca.toList.length:=by simpa using qV
       have Sv:(Lib.strCells x).length=xs.length*P.cellsOf e:=by rw[nA,iu,ey,ov]
       by_cases uj:es.length+xs.length≤cap
       ·have Bv:es.length*P.cellsOf e+(Lib.strCells x).length≤Ca.size:=by rw[Sv,←ee,←bn];exact dQ _ uj
        have dw:=Lib.run_append_room_string (P:=P) w t u ty e i hu pV hi yu b es.length cap Ca hh x (by rw[←iu];exact uj) (by rw[←nA];rw[ey,ov] at Bv;exact Bv)
        have dq:=Gr (P:=P) (w:=w) (I:=I) (n:=es.length) (c:=Ca.toList) rfl (fun i j y t' a b c=>by
         obtain ⟨v,hv,hp⟩:=nD i j y t' a b c
         exact ⟨v,by simpa using hv,hp⟩) GB mF (Ca.toList.drop (es.length*P.cellsOf e+(Lib.strCells x).length))
        generalize yk:(Ca.toList.take es.length++Lib.strCells x++Ca.toList.drop (es.length+x.size)).toArray=C' at dw
        have pT:C'.size=Ca.size:=by
         rw[ey,ov] at Bv
         rw[←yk];simp;omega
        have Sw:(w.setRow b C').heap[b]? =some (.cells C' e (0,0)):=setRow_heap w b Ca C' e _ hh
        obtain ⟨a1,a2⟩:=Bg k2 (blk:= .arr e (es++xs) false) (w':=w.setRow b C') lu sb (eU rfl) (fun b' h _=>setRow_other w b b' _ h) (by simp) ⟨rfl,rfl⟩ Ls
         (fun b' h=>(dr (h.flat (by simp))).symm) (fun hle=> .arr aw rfl Sw (by rw[pT,←bn];exact dQ _ (by simpa using uj)) (fun h=>by cases h) (fun _=>eU rfl) fun i j y t' a b c=>by
          obtain ⟨v,hv,hp⟩:=dq i j y t' a b c
          refine ⟨v,?_,hp.mono hle.dM hle.cE⟩
          rw[←yk,ou]
          rw[ey] at hv⊢
          simpa[nA] using hv)
        refine ⟨_,_,_,_,dw,k1.trans a1,a2,?_⟩
        have a3:=aj.whole (P:=P) (w:=w.setRow b C') (I:=I) (β:=aL β nb (some b)) (hp:=aL (aL hp id (some .dead)) nb (some (.arr e (es++xs) false))) (cap:=cap) (b:=b) (es:=es++xs) (fz:=false) (id:=nb) (e:=e) (dt _ _ _) (dt _ _ _) (by rw[oE Sw,pT,bn]) (by simpa using uj) hm
        rw[dd,iu] at a3
        exact a3
       ·have hold: ∀(j:Nat) v,(Ca.toList.take (es.length*P.cellsOf e))[j]? =some v→w.cell? ((⟨b,0,none⟩:Addr).add j)=some v:=by
         intro j v hj
         have dv:=(bH.1 hj).1
         have cp:j<es.length*P.cellsOf e:=by rw[iZ] at dv;omega
         rw[fK cp] at hj
         rw[oJ,cell?_cells hh,eh]
         simpa using hj
        have dw:=Lib.run_append_grow_string (P:=P) w t u ty e i z hu pV hi hz ⟨b,0,none⟩ es.length cap (Ca.toList.take (es.length*P.cellsOf e)) (by rw[h3];simp;omega) hold x (by omega) (by omega)
         (growslice_fits (by omega) (by rw[←nC,←iu];simp only[bP] at fe;omega))
        rw[←iu] at dw
        have qT:=grownCap_ge w (es.length+xs.length) cap e
        have vQ:grownCap w (es.length+xs.length) cap e≤maxLen:=grownCap_le_maxLen w _ cap e (by simp only[maxLen];omega)
        have dq:=Gr (P:=P) (w:=w) (I:=I) (n:=es.length) (c:=Ca.toList) rfl (fun i j y t' a b c=>by
         obtain ⟨v,hv,hp⟩:=nD i j y t' a b c
         exact ⟨v,by simpa using hv,hp⟩) GB mF (Builtin.zeroCells z.cells (grownCap w (es.length+xs.length) cap e-(es.length+xs.length))).toList
        obtain ⟨n1,n2,n3⟩:=yo k2.drew (nb:=nb) (cap:=grownCap w (es.length+xs.length) cap e) (es:=es++xs)
         (C0:=(Ca.toList.take (es.length*P.cellsOf e)).toArray++(Lib.strCells x).toArray++Builtin.zeroCells z.cells (grownCap w (es.length+xs.length) cap e-(es.length+xs.length))) aw lu
         (by
          have e1:(Ca.toList.take (es.length*P.cellsOf e)).length=es.length*P.cellsOf e:=by simp;omega
          simp only[Ft,rM,size_zeroCells,h4,Sv,e1,←ee];congr 1;omega) (by simpa using qT) vQ
         (fun i j y t' a b c=>by
          obtain ⟨v,hv,hp⟩:=dq i j y t' a b c
          refine ⟨v,?_,Pure.drew hp⟩
          rw[←tG]
          simpa using hv)
        rw[dd] at n3
        exact ⟨_,_,_,_,dw,(k1.trans (Le.drew w I β _)).trans n1,n2,n3⟩
 | _=>cases h
end
section
variable {P:Program} {w w':World} {I I':Nat→Prop} {β aq:Nat→Option Nat} {hp hp':Nat→Option ai} {C:ae} {B:Nat} {M:Nat→Prop} {w0:Start}
theorem Sy: ∀(ns:List Int) (s:ByteArray),(ns.foldl (fun r n=>r.push (UInt8.ofNat n.toNat)) s).data.toList=s.data.toList++ns.map fun n=>UInt8.ofNat n.toNat
 | [],s=>by simp
 | n::ns,s=>by
  simp only[List.foldl_cons,Sy ns,jV]
  simp[ByteArray.push]
theorem Sz {e:TypeId} {u:Value} {x:V} (he:P.underlying e=some (.int .u8)) (hp:Pure P w I e u x):u= .int .u8 x.toInt:=by
 cases hp with
 | int hp'=>rw[he] at hp';cases hp';rfl
 | bool hp'=>rw[he] at hp';cases hp'
 | str hp'=>rw[he] at hp';cases hp'
 | nil hp'=>rw[he] at hp';cases hp'
 | emp hp'=>rw[he] at hp';cases hp'
 | list _ hp'=>rw[he] at hp';cases hp'
theorem ac1 (S:aH P w I β hp B M w0) {src dst e:TypeId} {v:Value} {x:V} {r:R} {rd:List Nat} (hs:P.underlying src=some (.slice e)) (he:P.underlying e=some (.int .u8)) (hd:P.underlying dst=some .string)
  (hv:aj P w I β hp v x) (h:(Rd.aB (dm P e) (tR e x fun es=> .ret ⟨.str (jZ es),[]⟩)).run C hp=some (r,rd)):dz P ((convert src dst v).run P w) w I β hp B M w0 r:=by
 obtain ⟨aw,h⟩:=aI h
 obtain ⟨xs,hx,l,h⟩:=Gq S.h.rel aw hv h
 obtain rfl:=aU h
 have oP:bW P e=false:=by simp[bW,he]
 have h1:P.cellsOf e=1:=by rw[←(lp aw).1,Bb oP];rfl
 rcases hx with ⟨⟨a,rfl⟩,rfl⟩|⟨a,c,news,hr⟩
 ·refine .same S (v:= .string .empty) ?_ (.str (by simp[jZ]))
  rw[run_convert_bytes_string w src dst e a 0 0 hs he hd]
  cases a<;>simp[Conv.bytesToString,loadCells,loadCellsFrom]
 ·have Gs:news=(xs.map V.toInt).map (Value.int .u8):=by
   apply Ar
   intro j
   by_cases hj:j<xs.length
   ·obtain ⟨u,hu,hp⟩:=hr.el j 0 xs[j] e (bM hj) (by simp[bd,oP]) (by omega)
    rw[h1] at hu
    simp only[b7,oP,cond_false] at hp
    have gI:news[j]? =some u:=by simpa using hu
    rw[gI]
    have:=Sz he hp
    simp[hj,←this]
   ·have hl:news.length=xs.length:=by rw[hr.len,h1];simp
    rw[tD (by omega),tD (by simp;omega)]
  have LJ:=run_loadCells_list (P:=P) w a news hr.cell
  have hl:news.length=xs.length:=by rw[hr.len,h1];simp
  rw[hl] at LJ
  rw[Gs] at LJ
  refine .same S (v:= .string ((xs.map V.toInt).foldl (fun r n=>r.push (UInt8.ofNat n.toNat)) ByteArray.empty)) ?_ (.str ?_)
  ·rw[hr.val,run_convert_bytes_string w src dst e _ _ _ hs he hd]
   exact run_bytesToString w a xs.length c (xs.map V.toInt) LJ
  ·rw[Sy]
   simp[jZ]
theorem aj.GC {v:Value} (h:aj P w I β hp v .dR):v= .pointer none:=by cases h;rfl
section
variable (w:World)
theorem ac2 (t e:TypeId) (a:Addr) (h:P.underlying t=some (.pointer e)):(binOp .eql t (.pointer (some a)) (.pointer none)).run P w= .ok (.bool false) w:=by
 have h0: ∀d:Nat,(Op.equalIn (d+1) t (.pointer (some a)) (.pointer none)).run P w= .ok false w:=fun d=>by simp[Op.equalIn,run_underlying h]
 simp only[binOp]
 simp[Op.equal,Op.maxDepth,h0 9999]
theorem ac3 (t e:TypeId) (a:Addr) (h:P.underlying t=some (.pointer e)):(binOp .neq t (.pointer (some a)) (.pointer none)).run P w= .ok (.bool (!false)) w:=by
 have h0: ∀d:Nat,(Op.equalIn (d+1) t (.pointer (some a)) (.pointer none)).run P w= .ok false w:=fun d=>by simp[Op.equalIn,run_underlying h]
 simp only[binOp]
 simp[Op.equal,Op.maxDepth,h0 9999]
theorem ac4 (t e:TypeId) (a:Addr) (h:P.underlying t=some (.pointer e)):(binOp .eql t (.pointer none) (.pointer (some a))).run P w= .ok (.bool false) w:=by
 have h0: ∀d:Nat,(Op.equalIn (d+1) t (.pointer none) (.pointer (some a))).run P w= .ok false w:=fun d=>by simp[Op.equalIn,run_underlying h]
 simp only[binOp]
 simp[Op.equal,Op.maxDepth,h0 9999]
theorem ac5 (t e:TypeId) (a:Addr) (h:P.underlying t=some (.pointer e)):(binOp .neq t (.pointer none) (.pointer (some a))).run P w= .ok (.bool (!false)) w:=by
 have h0: ∀d:Nat,(Op.equalIn (d+1) t (.pointer none) (.pointer (some a))).run P w= .ok false w:=fun d=>by simp[Op.equalIn,run_underlying h]
 simp only[binOp]
 simp[Op.equal,Op.maxDepth,h0 9999]
theorem ac6 (t e:TypeId) (h:P.underlying t=some (.pointer e)):(binOp .eql t (.pointer none) (.pointer none)).run P w= .ok (.bool true) w:=by
 have h0: ∀d:Nat,(Op.equalIn (d+1) t (.pointer none) (.pointer none)).run P w= .ok true w:=fun d=>by simp[Op.equalIn,run_underlying h]
 simp only[binOp]
 simp[Op.equal,Op.maxDepth,h0 9999]
theorem ac7 (t e:TypeId) (h:P.underlying t=some (.pointer e)):(binOp .neq t (.pointer none) (.pointer none)).run P w= .ok (.bool (!true)) w:=by
 have h0: ∀d:Nat,(Op.equalIn (d+1) t (.pointer none) (.pointer none)).run P w= .ok true w:=fun d=>by simp[Op.equalIn,run_underlying h]
 simp only[binOp]
 simp[Op.equal,Op.maxDepth,h0 9999]
end
theorem GD (S:aH P w I β hp B M w0) {op:BinOp} {t:TypeId} {b:Bool} {x y:Operand} {v1 v2:Value} {r:R} {rd:List Nat} (h:(ptrEq P op t b).run C hp=some (r,rd)) (hg:(eqGuard op t x y v1 v2).run P w= .ok () w)
  (he: ∀e j,P.underlying t=some (.pointer e)→P.info? e=some j→(binOp .eql t v1 v2).run P w= .ok (.bool b) w∧(binOp .neq t v1 v2).run P w= .ok (.bool (!b)) w):
  dz P ((do eqGuard op t x y v1 v2;binOp op t v1 v2:Sem Value).run P w) w I β hp B M w0 r:=by
 unfold ptrEq at h
 cases hu:P.underlying t with
 | none=>rw[hu] at h;cases h
 | some d=>
  rw[hu] at h
  cases d<;>simp only at h<;>first|(cases h;done)|skip
  rename_i e
  obtain ⟨h1,h2⟩:=aI h
  obtain ⟨j,hj⟩:=Option.isSome_iff_exists.1 h1
  obtain ⟨k1,k2⟩:=he e j hu hj
  cases op<;>simp only at h2<;>first|(cases h2;done)|skip
  ·obtain rfl:=aU h2
   exact .same S (by simp only[Sem.run_bind,hg,Result.andThen_ok,k1]) .bool
  ·obtain rfl:=aU h2
   exact .same S (by simp only[Sem.run_bind,hg,Result.andThen_ok,k2]) .bool
theorem ac8 {b n:Nat}:(∀b',b'≠b→(w.freeze ⟨b,0,none⟩ n).heap[b']? =w.heap[b']?)∧bsize (w.freeze ⟨b,0,none⟩ n) b=bsize w b∧w.heap.size≤(w.freeze ⟨b,0,none⟩ n).heap.size∧(w.freeze ⟨b,0,none⟩ n).os=w.os∧(w.freeze ⟨b,0,none⟩ n).output=w.output:=by
 unfold World.freeze
 split
 ·exact ⟨fun _ _=>rfl,rfl,ax _,rfl,rfl⟩
 ·refine ⟨fun b' hb=> ?_,?_,by simp,rfl,rfl⟩
  ·simp only[Aq]
   rw[ag (fun e=>hb e.symm)]
  ·simp only[bsize,Aq,kz]
   cases w.heap[b]? with
   | none=>rfl
   | some o=>cases o<;>rfl
theorem ac9 {e:TypeId} (hb:isByte P e=true):P.underlying e=some (.int .u8):=by
 unfold isByte at hb
 split at hb
 ·assumption
 ·cases hb
theorem ada (S:aH P w I β hp B M w0) {ts:Array TypeId} {ty e:TypeId} {v:Value} {id:Nat} {es:List V} {fz:Bool} (hv:aj P w I β hp v (.whole e id)) (ab:hp id=some (.arr e es fz)) (h0:0<es.length):
  dz P ((Builtin.unsafeSliceData_ ts ty #[v]).run P w) w I β hp B M w0 ⟨.ptr id 0 0,[]⟩:=by
 cases hv with
 | eT h=>rw[ab] at h;cases h
 | ep h _=>rw[ab] at h;cases h;simp at h0
 | e7 h _ _ _ _=>rw[ab] at h;cases h
 | @whole _ _ aQ oB b cap h hb cA hle hm=>
  rw[ab] at h;cases h
  refine .same S (Lib.run_unsafeSliceData_row w ts ty ⟨b,0,none⟩ es.length cap (by omega)) ?_
  have:=aj.ptr (P:=P) (w:=w) (I:=I) (β:=β) (i:=0) (c:=0) ab (by simp) hb
  simpa using this
theorem adb (S:aH P w I β hp B M w0) {t u ty e:TypeId} {vx:Value} {id:Nat} {n:Int} {es:List V} (hu:P.underlying t=some (.pointer e)) (hb:isByte P e=true) (hv:aj P w I β hp vx (.ptr id 0 0))
  (ab:hp id=some (.arr e es false)) (h0:0<n) (hn:n≤es.length) (hm:n.toNat≤vj) (ez:(es.take n.toNat).all KD=true):dz P ((Builtin.unsafeString_ #[t,u] ty #[vx,.int .i64 n]).run P w) w I β hp B M w0 ⟨.str (jZ (es.take n.toNat)),[(id,.dead)]⟩:=by
 obtain ⟨b,LL,rfl⟩:=hv.iL ab (by simp)
 have he:P.underlying e=some (.int .u8):=by
  unfold isByte at hb
  split at hb
  ·assumption
  ·cases hb
 have oP:bW P e=false:=by simp[bW,he]
 have hr:=S.h.rel id _ ab
 rw[LL] at hr
 cases hr with
 | eu az=>cases az
 | @arr _ _ _ b1 Ca aw mF hh hs hI dj dq=>
  cases mF
  have h1:P.cellsOf e=1:=by rw[←(lp aw).1,Bb oP];rfl
  have a9:=S.abK ab (by simp) LL
  have hl:(jZ (es.take n.toNat)).length=n.toNat:=by simp[jZ];omega
  have LH:n=((jZ (es.take n.toNat)).length:Nat):=by rw[hl];omega
  have dw:=Lib.run_unsafeString_row (P:=P) w t u ty e hu h1 b Ca.size (by simp[World.shape?,hh]) (jZ (es.take n.toNat)) (fun h=>by rw[h] at hl;simp at hl;omega) (by rw[hl];rw[h1] at hs;omega) (by rw[hl];unfold vj at hm;omega) (fun j x hx=>by
   have hj:j<n.toNat:=by
    have:=(bH.1 hx).1
    rw[hl] at this;exact this
   have jm:j<es.length:=by omega
   simp only[jZ,eZ,fK hj,bM jm,Option.map_some,dZ] at hx
   obtain ⟨v,yp,bI⟩:=dq j 0 es[j] e (bM jm) (by simp[bd,oP]) (by omega)
   rw[h1] at yp
   simp only[b7,oP,cond_false] at bI
   have:=Sz he bI
   have hr:=gi.1 ez es[j] (jU (by rw[fK hj];exact bM jm))
   simp only[KD,aM,eE] at hr
   have oL:(x.toNat:Int)=es[j].toInt:=by
    rw[←hx]
    have:es[j].toInt.toNat<256:=by omega
    simp only[UInt8.toNat_ofNat']
    omega
   rw[oJ,cell?_cells hh,oL]
   rw[show 0+j=j*1+0 by omega,yp,this])
  obtain ⟨f1,f2,f3,f4,f5⟩:=ac8 (w:=w) (b:=b) (n:=n.toNat)
  obtain ⟨k1,k2⟩:=F6 (w':=w.freeze ⟨b,0,none⟩ n.toNat) S ab (by simp) (blk':= .dead) (by trivial) LL (dj rfl) (by simp) f1 f2 f3 ⟨f4,f5⟩ (fun _=> .dead)
  rw[←LH,hl] at dw
  refine ⟨.string ⟨(jZ (es.take n.toNat)).toArray⟩,_,I,β,?_,k1,k2,.str ?_⟩
  ·simpa using dw
  ·rfl
def LM:Op→Bool
 | .call {callee:= .value (.func _),..}=>true
 | .call {callee:= .value (.tmp _),..}=>true
 | .defer _=>true
 | _=>false
theorem qM.val {o:Oper} {a:Act} {s:Sem Value} {r:R} (he:execOp a.eval o=(do Pure.pure (Next.value (←s)))) (h:dz P (s.run P w) w I β hp B M w0 r):qM P ((execOp a.eval o).run P w) w I β hp B M w0 r:=by
 rw[he];exact h.op
theorem ade {A:cX} (S:aH P w I β hp B M w0) (hg:iI P A.aF w I) {a:Act} {sl:Nat→V} (hs:lU P w I β hp a sl) {ix nb:Nat} {o:Oper} (LN:LM o.op=false) {r:R} {rd:List Nat}
  (h:(gm P A sl ix nb o).run C hp=some (r,rd)):qM P ((execOp a.eval o).run P w) w I β hp B M w0 r:=by
 obtain ⟨dst,op,ty,pos,after,guard⟩:=o
 cases op<;>simp only[gm] at h<;>first|(cases h;done)|skip
 case move x=>
  obtain rfl:=aU h
  exact ⟨_,w,I,β,.inl (by simp[execOp]),Le.refl w I β hp,S,hs.ev hg ty x⟩
 case assign x=>
  obtain rfl:=aU h
  exact ⟨_,w,I,β,.inl (by simp[execOp]),Le.refl w I β hp,S,hs.ev hg ty x⟩
 case pick c x y=>
  have hc:=hs.ev hg ty c
  cases vM:aV P A.aF ty sl c<;>rw[vM] at h hc<;>simp only at h<;>first|(cases h;done)|skip
  rename_i t
  have adf:=hc.kG
  have hx:=hs.ev hg ty x
  have hy:=hs.ev hg ty y
  have fin: ∀z:V,aj P w I β hp (if t then a.eval x else a.eval y) z→qM P ((execOp a.eval ⟨dst,.pick c x y,ty,pos,after,guard⟩).run P w) w I β hp B M w0 ⟨z,[]⟩:=by
   intro z hz
   exact ⟨_,w,I,β,.inl (by simp[execOp,adf,asBool]),Le.refl w I β hp,S,hz⟩
  cases GF:gone (aV P A.aF ty sl x) with
  | true=>
   rw[GF] at h
   obtain ⟨h1,h⟩:=aI h
   obtain rfl:=aU h
   have:t=false:=by simpa using h1
   subst this
   refine fin _ ?_
   simpa using hy
  | false=>
   rw[GF] at h
   simp only[cond_false] at h
   cases SA:gone (aV P A.aF ty sl y) with
   | true=>
    rw[SA] at h
    obtain ⟨h1,h⟩:=aI h
    obtain rfl:=aU h
    subst h1
    refine fin _ ?_
    simpa using hx
   | false=>
    rw[SA] at h
    obtain rfl:=aU h
    exact fin _ (Ro hx hy)
 case makeFunc fn x y=>
  cases fn<;>simp only[gm] at h<;>first|(cases h;done)|skip
  rename_i f
  obtain rfl:=aU h
  refine ⟨.func (.func f) (x.map a.eval) (y.map a.eval),w,I,β,.inl (by simp[execOp,Instr.makeFunc]),Le.refl w I β hp,S,.fn (by simp) (fun j v z hj hz=> ?_) (by simp) (fun j v z hj hz=> ?_)⟩
  ·rw[Array.getElem?_map] at hj
   rw[eZ,tG] at hz
   cases hx:x[j]? with
   | none=>rw[hx] at hj;cases hj
   | some o1=>
    rw[hx] at hj hz
    cases hj
    cases hz
    exact hs.ev hg ty o1
  ·rw[Array.getElem?_map] at hj
   rw[eZ,tG] at hz
   cases hx:y[j]? with
   | none=>rw[hx] at hj;cases hj
   | some o1=>
    rw[hx] at hj hz
    cases hj
    cases hz
    exact hs.ev hg ty o1
 case defer c=>cases LN
 case makeMap t res=>
  cases res with
  | some x=>cases h
  | none=>exact .val rfl (acR S h)
 case lookup t m k ok=>
  cases ht:mz P t with
  | none=>rw[ht] at h;cases h
  | some q=>
   obtain ⟨kt,vt⟩:=q
   rw[ht] at h
   exact .val (s:=Instr.lookup t (a.eval m) (a.eval k) ok) rfl (acQ S ht (hs.ev hg t m) (hs.ev hg kt k) h)
 case mapUpdate t m k x=>
  cases ht:mz P t with
  | none=>rw[ht] at h;cases h
  | some q=>
   obtain ⟨kt,vt⟩:=q
   rw[ht] at h
   have:=Sp S ht (hs.ev hg t m) (hs.ev hg kt k) (hs.ev hg vt x) h
   exact this.op
 case insert t m k x=>
  cases ht:mz P t with
  | none=>rw[ht] at h;cases h
  | some q=>
   obtain ⟨kt,vt⟩:=q
   rw[ht] at h
   have:=Sp S ht (hs.ev hg t m) (hs.ev hg kt k) (hs.ev hg vt x) h
   exact this.op
 case alloc e=>
  exact .val rfl (acg S h)
 case box e x=>
  exact .val rfl (ach S (hs.ev hg e x) h)
 case build t ps=>exact .val rfl (acj S hs hg h)
 case buildSlice t len ps=>
  cases hu:P.underlying t with
  | none=>rw[hu] at h;cases h
  | some d=>
   rw[hu] at h
   cases d<;>simp only at h<;>first|(cases h;done)|skip
   exact .val rfl (acq S hs hg hu h)
 case load t x=>exact .val rfl (abY S (hs.ev hg ty x) h)
 case store t x y=>
  have:=acf S (hs.ev hg ty x) (hs.ev hg t y) h
  exact this.op
 case nilCheck x=>
  have hx:=hs.ev hg ty x
  cases fZ:aV P A.aF ty sl x<;>rw[fZ] at h hx<;>simp only at h<;>first|(cases h;done)|skip
  ·obtain ⟨⟨blk,ab,hd⟩,l,h⟩:=xZ h
   obtain rfl:=aU h
   have cR:=hx
   obtain ⟨b,hb,he⟩:=hx.iL ab hd
   rw[he] at cR
   exact ⟨_,w,I,β,.inl (by simp only[execOp,he];rfl),Le.refl w I β hp,S,cR⟩
  ·obtain rfl:=aU h
   have cR:=hx
   obtain ⟨b,o,he,_⟩:=hx.F9
   rw[he] at cR
   exact ⟨_,w,I,β,.inl (by simp only[execOp,he];rfl),Le.refl w I β hp,S,cR⟩
  ·obtain ⟨e0,es,ak,l,ab,h1,h2,h3,h⟩:=pM h
   obtain rfl:=aU h
   have cR:=hx
   obtain ⟨b,o,he,_⟩:=hx.Rm ab h1 h2 h3
   rw[he] at cR
   exact ⟨_,w,I,β,.inl (by simp only[execOp,he];rfl),Le.refl w I β hp,S,cR⟩
 case binOp op t x y yt=>
  have hx:=hs.ev hg t x
  have hy:=hs.ev hg t y
  refine .val (s:=do eqGuard op t x y (a.eval x) (a.eval y);binOp op t (a.eval x) (a.eval y)) rfl ?_
  cases fZ:aV P A.aF t sl x<;>cases um:aV P A.aF t sl y<;>rw[fZ,um] at h<;>rw[fZ] at hx<;>rw[um] at hy<;>first|(simp only[lf] at h;cases h;done)|skip
  ·rw[hx.e8,hy.e8]
   have:=abP S h
   simpa[abM] using this
  ·rw[hx.kG,hy.kG]
   have:=abR S h
   simpa[abN] using this
  ·obtain ⟨s1,e1,l1⟩:=hx.ny
   obtain ⟨s2,e2,l2⟩:=hy.ny
   rw[e1,e2]
   rw[←l1,←l2] at h
   have:=abS (t:=t) S h
   simpa[abO] using this
  ·obtain ⟨cs,e1,h1,h2⟩:=hx.lW
   obtain ⟨ds,e2,h3,h4⟩:=hy.lW
   rw[e1,e2]
   exact abT S h1 h3 h2 h4 h
  ·
   simp only[lf] at h
   obtain ⟨h1,h2⟩:=aI h
   clear h
   simp only[aM,ba] at h1
   obtain ⟨rfl,rfl,rfl⟩:=h1
   obtain ⟨⟨blk,ab,hd⟩,l,h⟩:=xZ h2
   obtain ⟨b,hb,e1⟩:=hx.iL ab hd
   obtain ⟨b',az,e2⟩:=hy.iL ab hd
   rw[hb] at az;cases az
   rw[e1,e2]
   exact GD S h (by cases op<;>simp[eqGuard]) fun e j he hj=>⟨run_eql_ptr_same w _ he hj,Lib.run_neq_ptr_same w _ he hj⟩
  ·simp only[lf] at h
   obtain ⟨⟨blk,ab,hd⟩,l,h⟩:=xZ h
   obtain ⟨b,_,e1⟩:=hx.iL ab hd
   rw[e1,hy.GC]
   exact GD S h (by cases op<;>simp[eqGuard]) fun e j he hj=>⟨ac2 w t e _ he,ac3 w t e _ he⟩
  ·simp only[lf] at h
   obtain ⟨⟨blk,ab,hd⟩,l,h⟩:=xZ h
   obtain ⟨b,_,e1⟩:=hy.iL ab hd
   rw[e1,hx.GC]
   exact GD S h (by cases op<;>simp[eqGuard]) fun e j he hj=>⟨ac4 w t e _ he,ac5 w t e _ he⟩
  ·simp only[lf] at h
   rw[hx.GC,hy.GC]
   exact GD S h (by cases op<;>simp[eqGuard]) fun e j he hj=>⟨ac6 w t e he,ac7 w t e he⟩
  ·
   simp only[lf] at h
   obtain ⟨l,h⟩:=run_get h
   split at h
   ·rename_i t2 es ab
    obtain ⟨b,hb⟩:=hx.acV ab
    rw[hy.LI,hb]
    exact Ss (a:=some b) S x y h
   ·cases h
  ·simp only[lf] at h
   rw[hx.LI,hy.LI]
   exact Ss (a:=none) S x y h
 case unOp op t x=>exact .val rfl (abU S (hs.ev hg ty x) h)
 case convert src dst x=>
  have hx:=hs.ev hg ty x
  refine .val (s:=convert src dst (a.eval x)) rfl ?_
  cases kF:P.underlying src with
  | none=>rw[kF] at h;cases h
  | some d1=>
   cases iO:P.underlying dst with
   | none=>rw[kF,iO] at h;cases d1<;>cases h
   | some d2=>
    rw[kF,iO] at h
    have ig: ∀{b:Nat} {T:TypeId} {cs:List V} {id:Nat},hp id=some (.var T cs)→β id=some b→w.shape? b=some (T,cs.length):=by
     intro b T cs id ab hb
     have hr:=S.h.rel id _ ab
     rw[hb] at hr
     cases hr with
     | var az hh bn _ _ _=>cases az;simp[World.shape?,hh,bn]
    cases d1<;>(try (cases d2<;>cases h;done))
    ·cases d2<;>(try (cases h;done))
     rename_i k1 k2
     cases fZ:aV P A.aF ty sl x<;>rw[fZ] at h hx<;>simp only at h<;>first|(cases h;done)|skip
     obtain rfl:=aU h
     rw[hx.e8]
     exact .same S (by simp[convert,run_underlying kF,run_underlying iO,Conv.intToInt]) .int
    ·cases d2<;>(try (cases h;done))
     rename_i u
     cases fZ:aV P A.aF ty sl x<;>rw[fZ] at h hx<;>simp only at h<;>first|(cases h;done)|skip
     rename_i id i c
     obtain ⟨l,h1⟩:=run_get h
     cases ab:hp id with
     | none=>rw[ab] at h1;cases h1
     | some blk=>
      rw[ab] at h1
      cases blk<;>simp only at h1<;>first|(cases h1;done)|skip
      rename_i T cs
      obtain ⟨h2,h3⟩:=aI h1
      simp only[aM,ba] at h2
      obtain ⟨rfl,h4,h5⟩:=h2
      obtain ⟨b,hb,e1⟩:=hx.iL ab (by simp)
      obtain rfl:=aU h3
      obtain ⟨j,hj⟩:=Option.isSome_iff_exists.1 h4
      have cR:=hx
      rw[e1] at cR⊢
      exact .same S (Lib.run_from_unsafe w _ kF iO hj (ig ab hb) (by simpa using h5)) cR
    ·cases d2<;>(try (cases h;done))
     rename_i t
     cases fZ:aV P A.aF ty sl x<;>rw[fZ] at h hx<;>simp only at h<;>first|(cases h;done)|skip
     rename_i id i c
     obtain ⟨l,h1⟩:=run_get h
     cases ab:hp id with
     | none=>rw[ab] at h1;cases h1
     | some blk=>
      rw[ab] at h1
      cases blk<;>simp only at h1<;>first|(cases h1;done)|skip
      rename_i T cs
      obtain ⟨h2,h3⟩:=aI h1
      simp only[aM,ba,kW] at h2
      obtain ⟨rfl,h4,h5⟩:=h2
      obtain ⟨b,hb,e1⟩:=hx.iL ab (by simp)
      obtain rfl:=aU h3
      cases hj:P.info? t with
      | none=>rw[hj] at h5;cases h5
      | some j=>
       rw[hj] at h5
       simp only[ot] at h5
       have h6:j.size≠0:=fun e=>by rw[e] at h5;cases h5
       have cR:=hx
       rw[e1] at cR⊢
       exact .same S (Lib.run_to_unsafe w _ kF iO hj h6 (ig ab hb) (by simpa using h4)) cR
    ·rename_i e
     cases d2<;>(try (cases h;done))
     simp only at h
     cases he:P.underlying e with
     | none=>rw[he] at h;cases h
     | some d3=>
      rw[he] at h
      cases d3<;>(try (cases h;done))
      rename_i k
      cases k<;>(try (cases h;done))
      exact ac1 S kF he iO hx h
 case fieldAddr s x f=>exact .val rfl (abV S (hs.ev hg ty x) h)
 case field s x f=>exact .val rfl (acD S (hs.ev hg ty x) h)
 case indexAddr t x y=>exact .val rfl (acJ S (hs.ev hg ty x) (hs.ev hg 0 y) h)
 case index t x y=>
  have hx:=hs.ev hg ty x
  have hy:=hs.ev hg 0 y
  refine .val (s:=Instr.index t (a.eval x) (a.eval y)) rfl ?_
  cases hu:P.underlying t with
  | none=>rw[hu] at h;cases h
  | some d=>
   rw[hu] at h
   cases d<;>(try (cases h;done))
   cases fZ:aV P A.aF ty sl x<;>rw[fZ] at h hx<;>(try (cases h;done))
   cases um:aV P A.aF 0 sl y<;>rw[um] at h hy<;>(try (cases h;done))
   obtain ⟨s,e1,l1⟩:=hx.ny
   rw[e1,hy.e8]
   exact acF S hu l1 h
 case slice t x lo hi mx=>
  cases mx with
  | some m=>
   simp only at h
   refine .val (s:=Instr.sliceAt t (a.eval x) (lo.map a.eval) (hi.map a.eval) (some (a.eval m))) (by simp[execOp]) (acI S (hs.ev hg ty x) (fun hy=> ?_) (fun y hy=> ?_) (fun y hy=> ?_) h)
   ·cases lo with
    | none=>rfl
    | some l=>cases hy
   ·cases hi with
    | none=>cases hy
    | some l=>cases hy;exact ⟨_,rfl,hs.ev hg 0 l⟩
   ·cases hy;exact ⟨_,rfl,hs.ev hg 0 m⟩
  | none=>
   simp only at h
   have plain:(FK P t (aV P A.aF ty sl x) (lo.map (aV P A.aF 0 sl)) (hi.map (aV P A.aF 0 sl))).run C hp=some (r,rd)→qM P ((execOp a.eval ⟨dst,.slice t x lo hi none,ty,pos,after,guard⟩).run P w) w I β hp B M w0 r:=by
    intro h
    refine .val (s:=Instr.sliceAt t (a.eval x) (lo.map a.eval) (hi.map a.eval) none) (by simp[execOp]) (acH S (hs.ev hg ty x) (fun y hy=> ?_) (fun y hy=> ?_) (fun hy=> ?_) (fun hy=> ?_) h)
    ·cases lo with
     | none=>cases hy
     | some l=>cases hy;exact ⟨_,rfl,hs.ev hg 0 l⟩
    ·cases hi with
     | none=>cases hy
     | some l=>cases hy;exact ⟨_,rfl,hs.ev hg 0 l⟩
    ·cases lo with
     | none=>rfl
     | some l=>cases hy
    ·cases hi with
     | none=>rfl
     | some l=>cases hy
   have tr:(FL P nb t (aV P A.aF ty sl x) (lo.map (aV P A.aF 0 sl)) (hi.map (aV P A.aF 0 sl))).run C hp=some (r,rd)→qM P ((execOp a.eval ⟨dst,.slice t x lo hi none,ty,pos,after,guard⟩).run P w) w I β hp B M w0 r:=by
    intro h
    refine .val (s:=Instr.sliceAt t (a.eval x) (lo.map a.eval) (hi.map a.eval) none) (by simp[execOp]) (acL S (hs.ev hg ty x) (fun y hy=> ?_) (fun hy=> ?_) h)
    ·cases hi with
     | none=>cases hy
     | some l=>cases hy;exact ⟨_,rfl,hs.ev hg 0 l⟩
    ·cases lo with
     | none=>rfl
     | some l=>cases hy
   cases dst with
   | none=>exact plain h
   | some d=>
    simp only at h
    cases yv:lb A.xH d with
    | true=>rw[yv] at h;exact tr h
    | false=>rw[yv] at h;exact plain h
 case extract x i=>
  have hx:=hs.ev hg ty x
  cases fZ:aV P A.aF ty sl x<;>rw[fZ] at h hx<;>simp only at h<;>first|(cases h;done)|skip
  exact .val (s:=Instr.extract (a.eval x) i) rfl (acE S hx h)
 case makeSlice t l c=>
  have hl:=hs.ev hg 0 l
  have hc:=hs.ev hg 0 c
  refine .val (s:=Instr.makeSlice t (a.eval l) (a.eval c)) rfl ?_
  cases hu:P.underlying t with
  | none=>rw[hu] at h;cases h
  | some d=>
   rw[hu] at h
   cases d<;>(try (cases h;done))
   cases LO:aV P A.aF 0 sl l<;>rw[LO] at h hl<;>(try (cases h;done))
   cases vM:aV P A.aF 0 sl c<;>rw[vM] at h hc<;>(try (cases h;done))
   rw[hl.e8,hc.e8]
   cases dst with
   | none=>exact RY S hu h
   | some d=>
    simp only at h
    cases hg:lb A.xH d with
    | true=>rw[hg] at h;exact acs S hu h
    | false=>rw[hg] at h;exact RY S hu h
 case call c=>
  obtain ⟨callee,args,argTypes⟩:=c
  cases callee with
  | invoke r m=>cases h
  | value f=>
   cases f with
   | func f=>cases LN
   | tmp f=>cases LN
   | _=>cases h
  | builtin b=>
   have one: ∀{x:Operand},args.toList=[x]→args= #[x]:=fun h=>by rw[←Array.toArray_toList (xs:=args),h]
   have sw: ∀(s:Array TypeId→TypeId→Array Value→Sem Value),builtin b argTypes ty (args.map fun| .const _=>true|_=>false) (args.map a.eval)=(do Pure.pure (Next.value (←s argTypes ty (args.map a.eval))))→
     execOp a.eval ⟨dst,.call ⟨.builtin b,args,argTypes⟩,ty,pos,after,guard⟩=(do Pure.pure (Next.value (←s argTypes ty (args.map a.eval)))):=by
    intro s hb
    simp only[execOp,resolve,pure_bind,invoke]
    exact hb
   cases b<;>(try (cases h;done))
   case append=>
    simp only at h
    cases ha:args.toList with
    | nil=>rw[ha] at h;cases h
    | cons x l=>
     cases l with
     | nil=>rw[ha] at h;cases h
     | cons y l2=>
      cases l2 with
      | cons _ _=>rw[ha] at h;cases h
      | nil=>
       cases dN:argTypes.toList with
       | nil=>rw[ha,dN] at h;cases h
       | cons t l3=>
        cases l3 with
        | nil=>rw[ha,dN] at h;cases h
        | cons u l4=>
         cases l4 with
         | cons _ _=>rw[ha,dN] at h;cases h
         | nil=>
          rw[ha,dN] at h
          simp only at h
          have e1:args= #[x,y]:=by rw[←Array.toArray_toList (xs:=args),ha]
          have e2:argTypes= #[t,u]:=by rw[←Array.toArray_toList (xs:=argTypes),dN]
          cases hu:P.underlying t with
          | none=>rw[hu] at h;cases h
          | some d=>
           rw[hu] at h
           cases d<;>(try (cases h;done))
           cases hc:Nat.beq t u with
           | true=>
            rw[hc] at h
            rw[ba] at hc
            subst hc
            have:=acv (ty:=ty) S hu (hs.ev hg t x) (hs.ev hg t y) h
            refine .val (sw Builtin.append_ rfl) ?_
            rw[e1,e2]
            simpa using this
           | false=>
            rw[hc] at h
            simp only[cond_false] at h
            have hy:=hs.ev hg u y
            cases pV:P.underlying u with
            | none=>rw[pV] at h;cases h
            | some du=>
             rw[pV] at h
             cases du<;>(try (cases h;done))
             cases um:aV P A.aF u sl y<;>rw[um] at h hy<;>(try (cases h;done))
             simp only at h
             obtain ⟨hb,h⟩:=aI h
             obtain ⟨s1,q1,q2⟩:=hy.ny
             subst q2
             have:=ac0 (ty:=ty) S hu pV (ac9 hb) (hs.ev hg t x) h
             refine .val (sw Builtin.append_ rfl) ?_
             rw[e1,e2]
             simpa[q1] using this
   case len=>
    simp only at h
    cases ha:args.toList with
    | nil=>rw[ha] at h;cases h
    | cons x l=>
     cases l with
     | cons _ _=>rw[ha] at h;cases h
     | nil=>
      cases dN:argTypes.toList with
      | nil=>rw[ha,dN] at h;cases h
      | cons t l3=>
       cases l3 with
       | cons _ _=>rw[ha,dN] at h;cases h
       | nil=>
        rw[ha,dN] at h
        simp only at h
        have e1:args= #[x]:=by rw[←Array.toArray_toList (xs:=args),ha]
        have e2:argTypes= #[t]:=by rw[←Array.toArray_toList (xs:=argTypes),dN]
        have hx:=hs.ev hg ty x
        refine .val (sw Builtin.len_ rfl) ?_
        rw[e1,e2]
        cases hu:P.underlying t with
        | none=>rw[hu] at h;cases h
        | some d=>
         rw[hu] at h
         cases d<;>(try (cases h;done))
         ·cases fZ:aV P A.aF ty sl x<;>rw[fZ] at h hx<;>(try (cases h;done))
          have:=Rp (t:=t) (ty:=ty) S hx (fun l hl=>hu) (fun hn=>absurd rfl (hn _)) h
          simpa using this
         ·have h2:(∀l,aV P A.aF ty sl x≠ .str l)∧(FF P (aV P A.aF ty sl x)).run C hp=some (r,rd):=by
           cases fZ:aV P A.aF ty sl x<;>rw[fZ] at h<;>first|(cases h;done)|exact ⟨fun l=>by simp,h⟩
          have:=Rp (t:=t) (ty:=ty) S hx (fun l hl=>absurd hl (h2.1 l)) (fun _=>⟨_,hu⟩) h2.2
          simpa using this
         ·have h2:(FJ (aV P A.aF ty sl x)).run C hp=some (r,rd):=by
           cases fZ:aV P A.aF ty sl x<;>rw[fZ] at h<;>exact h
          have:=acU (t:=t) (ty:=ty) S hu hx h2
          simpa using this
   case unsafeSliceData=>
    simp only at h
    cases ha:args.toList with
    | nil=>rw[ha] at h;cases h
    | cons x l=>
     cases l with
     | cons _ _=>rw[ha] at h;cases h
     | nil=>
      rw[ha] at h
      simp only at h
      have e1:args= #[x]:=by rw[←Array.toArray_toList (xs:=args),ha]
      have hx:=hs.ev hg ty x
      refine .val (sw Builtin.unsafeSliceData_ rfl) ?_
      rw[e1]
      cases fZ:aV P A.aF ty sl x<;>rw[fZ] at h hx<;>simp only at h<;>first|(cases h;done)|skip
      rename_i e id
      obtain ⟨l2,h1⟩:=run_get h
      cases ab:hp id with
      | none=>rw[ab] at h1;cases h1
      | some blk=>
       rw[ab] at h1
       cases blk<;>simp only at h1<;>first|(cases h1;done)|skip
       rename_i e' es fz
       obtain ⟨h2,h3⟩:=aI h1
       simp only[aM,ba,kW] at h2
       obtain ⟨rfl,h4⟩:=h2
       obtain rfl:=aU h3
       have:=ada (ts:=argTypes) (ty:=ty) S hx ab h4
       simpa using this
   case unsafeString=>
    simp only at h
    cases ha:args.toList with
    | nil=>rw[ha] at h;cases h
    | cons x l=>
     cases l with
     | nil=>rw[ha] at h;cases h
     | cons y l2=>
      cases l2 with
      | cons _ _=>rw[ha] at h;cases h
      | nil=>
       cases dN:argTypes.toList with
       | nil=>rw[ha,dN] at h;cases h
       | cons t l3=>
        cases l3 with
        | nil=>rw[ha,dN] at h;cases h
        | cons u l4=>
         cases l4 with
         | cons _ _=>rw[ha,dN] at h;cases h
         | nil=>
          rw[ha,dN] at h
          simp only at h
          have e1:args= #[x,y]:=by rw[←Array.toArray_toList (xs:=args),ha]
          have e2:argTypes= #[t,u]:=by rw[←Array.toArray_toList (xs:=argTypes),dN]
          have hx:=hs.ev hg ty x
          have hy:=hs.ev hg ty y
          cases hu:P.underlying t with
          | none=>rw[hu] at h;cases h
          | some d=>
           rw[hu] at h
           cases d<;>(try (cases h;done))
           rename_i e
           cases fZ:aV P A.aF ty sl x<;>rw[fZ] at h hx<;>(try (cases h;done))
           cases um:aV P A.aF ty sl y<;>rw[um] at h hy<;>(try (cases h;done))
           rename_i id i c k n
           cases k<;>(try (cases h;done))
           simp only at h
           obtain ⟨l2,h1⟩:=run_get h
           cases ab:hp id with
           | none=>rw[ab] at h1;cases h1
           | some blk=>
            rw[ab] at h1
            cases blk<;>simp only at h1<;>first|(cases h1;done)|skip
            rename_i e' es fz
            cases fz<;>simp only at h1<;>first|(cases h1;done)|skip
            obtain ⟨h2,h3⟩:=aI h1
            simp only[aM,ba,fy,eE] at h2
            obtain ⟨rfl,h4,rfl,rfl,h5,h6,h7,h8⟩:=h2
            obtain rfl:=aU h3
            have:=adb (u:=u) (ty:=ty) S hu h4 hx ab h5 h6 h7 h8
            refine .val (sw Builtin.unsafeString_ rfl) ?_
            rw[e1,e2]
            simpa[hy.e8] using this
   case copy=>
    simp only at h
    cases ha:args.toList with
    | nil=>rw[ha] at h;cases h
    | cons x l=>
     cases l with
     | nil=>rw[ha] at h;cases h
     | cons y l2=>
      cases l2 with
      | cons _ _=>rw[ha] at h;cases h
      | nil=>
       cases dN:argTypes.toList with
       | nil=>rw[ha,dN] at h;cases h
       | cons t l3=>
        cases l3 with
        | nil=>rw[ha,dN] at h;cases h
        | cons u l4=>
         cases l4 with
         | cons _ _=>rw[ha,dN] at h;cases h
         | nil=>
          rw[ha,dN] at h
          simp only at h
          have e1:args= #[x,y]:=by rw[←Array.toArray_toList (xs:=args),ha]
          have e2:argTypes= #[t,u]:=by rw[←Array.toArray_toList (xs:=argTypes),dN]
          cases hu:P.underlying t with
          | none=>rw[hu] at h;cases h
          | some d=>
           rw[hu] at h
           cases d<;>(try (cases h;done))
           have:=acA (u:=u) (ty:=ty) S hu (hs.ev hg t x) (hs.ev hg u y) h
           refine .val (sw Builtin.copy_ rfl) ?_
           rw[e1,e2]
           simpa using this
   case clear=>
    simp only at h
    cases ha:args.toList with
    | nil=>rw[ha] at h;cases h
    | cons x l=>
     cases l with
     | cons _ _=>rw[ha] at h;cases h
     | nil=>
      cases dN:argTypes.toList with
      | nil=>rw[ha,dN] at h;cases h
      | cons t l3=>
       cases l3 with
       | cons _ _=>rw[ha,dN] at h;cases h
       | nil=>
        rw[ha,dN] at h
        simp only at h
        have e1:args= #[x]:=by rw[←Array.toArray_toList (xs:=args),ha]
        have e2:argTypes= #[t]:=by rw[←Array.toArray_toList (xs:=argTypes),dN]
        cases hu:P.underlying t with
        | none=>rw[hu] at h;cases h
        | some d=>
         rw[hu] at h
         cases d<;>(try (cases h;done))
         have:=acB (ty:=ty) S hu (hs.ev hg t x) h
         refine .val (sw Builtin.clear_ rfl) ?_
         rw[e1,e2]
         simpa using this
   case max=>
    simp only at h
    cases ha:args.toList with
    | nil=>rw[ha] at h;cases h
    | cons x l=>
     rw[ha] at h
     simp only at h
     have:=Lu S true (vs:=l.map a.eval) (xs:=l.map (aV P A.aF ty sl)) (hs.ev hg ty x) (by simp) (fun j u y hu hy=>by
      simp only[eZ] at hu hy
      cases hl:l[j]? with
      | none=>rw[hl] at hu;cases hu
      | some z=>rw[hl] at hu hy;cases hu;cases hy;exact hs.ev hg ty z) h
     refine .val (sw Builtin.max_ rfl) ?_
     simpa[Builtin.max_,ha] using this
   case min=>
    simp only at h
    cases ha:args.toList with
    | nil=>rw[ha] at h;cases h
    | cons x l=>
     rw[ha] at h
     simp only at h
     have:=Lu S false (vs:=l.map a.eval) (xs:=l.map (aV P A.aF ty sl)) (hs.ev hg ty x) (by simp) (fun j u y hu hy=>by
      simp only[eZ] at hu hy
      cases hl:l[j]? with
      | none=>rw[hl] at hu;cases hu
      | some z=>rw[hl] at hu hy;cases hu;cases hy;exact hs.ev hg ty z) h
     refine .val (sw Builtin.min_ rfl) ?_
     simpa[Builtin.min_,ha] using this
end
section
variable {P:Program} {A:cX} {w w':World} {I I' I2:Nat→Prop} {μ β aq:Nat→Option Nat} {hp hp':Nat→Option ai} {C:ae} {B:Nat} {M:Nat→Prop} {w0:Start}
theorem yw: ∀{l m:List Nat},fc.pG l m=true→l=m
 | [],[],_=>rfl
 | [],_::_,h=>by cases h
 | _::_,[],h=>by cases h
 | a::l,b::m,h=>by
  simp only[fc.pG,aM,ba] at h
  rw[h.1,yw h.2]
@[simp] theorem SB (n:Nat):lQ (eR n)=n:=by simp[lQ,eR,V.toInt]
theorem GG: ∀(path:List (Nat × Nat)) (rest:List V),AR (path.map (·.2)) ((path.map fun p=>eR p.1)++rest)=path
 | [],_=>rfl
 | p::l,rest=>by
  simp only[jV,List.cons_append,AR,V.nth,SB,nn,kX,GG l rest]
theorem GH {l:LS} {x:V} {ds:List V} (h:fc l x=some ds):ds.length=l.size∧(l= .tK∨∀rest,jB l (ds++rest)=x):=by
 cases l with
 | tK=>simp only[fc,dZ] at h;subst h;exact ⟨rfl,.inl rfl⟩
 | int k=>
  cases x<;>simp only[fc] at h<;>first|(cases h;done)|skip
  rename_i k' n
  by_cases hk:k=k'
  ·subst hk
   simp only[va,cond_true,dZ] at h
   subst h
   exact ⟨rfl,.inr fun _=>rfl⟩
  ·simp[hk] at h
 | bool=>
  cases x<;>simp only[fc] at h<;>first|(cases h;done)|skip
  cases h
  exact ⟨rfl,.inr fun _=>rfl⟩
 | str=>
  cases x<;>simp only[fc] at h<;>first|(cases h;done)|skip
  cases h
  exact ⟨rfl,.inr fun _=>rfl⟩
 | list e=>
  cases x<;>simp only[fc] at h<;>first|(cases h;done)|skip
  rename_i e' es
  cases hb:Nat.beq e e' with
  | false=>rw[hb] at h;cases h
  | true=>
   rw[hb] at h
   rw[ba] at hb
   subst hb
   cases h
   exact ⟨rfl,.inr fun _=>rfl⟩
 | whole e j=>
  cases x<;>simp only[fc] at h<;>first|(cases h;done)|skip
  rename_i e' id
  cases hb:(Nat.beq e e'&&Nat.beq j id) with
  | false=>rw[hb] at h;cases h
  | true=>
   rw[hb] at h
   simp only[aM,ba] at hb
   obtain ⟨rfl,rfl⟩:=hb
   cases h
   exact ⟨rfl,.inr fun _=>rfl⟩
 | sub e j=>
  cases x<;>simp only[fc] at h<;>first|(cases h;done)|skip
  rename_i e' id o n
  cases hb:(Nat.beq e e'&&Nat.beq j id) with
  | false=>rw[hb] at h;cases h
  | true=>
   rw[hb] at h
   simp only[aM,ba] at hb
   obtain ⟨rfl,rfl⟩:=hb
   cases h
   exact ⟨rfl,.inr fun _=>by simp[jB,V.nth]⟩
 | ptr j=>
  cases x<;>simp only[fc] at h<;>first|(cases h;done)|skip
  rename_i id i c
  cases hb:(Nat.beq j id) with
  | false=>rw[hb] at h;cases h
  | true=>
   rw[hb] at h
   rw[ba] at hb
   subst hb
   cases h
   exact ⟨rfl,.inr fun _=>by simp[jB,V.nth]⟩
 | eK j i c=>
  cases x<;>simp only[fc] at h<;>first|(cases h;done)|skip
  rename_i id i' c'
  cases hb:(Nat.beq j id&&(Nat.beq i i'&&Nat.beq c c')) with
  | false=>rw[hb] at h;cases h
  | true=>
   rw[hb] at h
   simp only[aM,ba] at hb
   obtain ⟨rfl,rfl,rfl⟩:=hb
   cases h
   exact ⟨rfl,.inr fun _=>rfl⟩
 | nilS e=>
  cases x<;>simp only[fc] at h<;>first|(cases h;done)|skip
  rename_i e'
  cases hb:Nat.beq e e' with
  | false=>rw[hb] at h;cases h
  | true=>
   rw[hb] at h
   rw[ba] at hb
   subst hb
   cases h
   exact ⟨rfl,.inr fun _=>rfl⟩
 | dR=>
  cases x<;>simp only[fc] at h<;>first|(cases h;done)|skip
  cases h
  exact ⟨rfl,.inr fun _=>rfl⟩
 | cm e j=>
  cases x<;>simp only[fc] at h<;>first|(cases h;done)|skip
  rename_i e' id
  cases hb:(Nat.beq e e'&&Nat.beq j id) with
  | false=>rw[hb] at h;cases h
  | true=>
   rw[hb] at h
   simp only[aM,ba] at hb
   obtain ⟨rfl,rfl⟩:=hb
   cases h
   exact ⟨rfl,.inr fun _=>rfl⟩
 | dS e=>
  cases x<;>simp only[fc] at h<;>first|(cases h;done)|skip
  rename_i e'
  cases hb:Nat.beq e e' with
  | false=>rw[hb] at h;cases h
  | true=>
   rw[hb] at h
   rw[ba] at hb
   subst hb
   cases h
   exact ⟨rfl,.inr fun _=>rfl⟩
 | xG k n=>
  cases x<;>simp only[fc] at h<;>first|(cases h;done)|skip
  rename_i k' m
  cases hb:(decide (k=k')&&decide (m=n)) with
  | false=>rw[hb] at h;cases h
  | true=>
   rw[hb] at h
   simp only[aM,eE] at hb
   obtain ⟨rfl,rfl⟩:=hb
   cases h
   exact ⟨rfl,.inr fun _=>rfl⟩
 | row e j cs=>
  cases x<;>simp only[fc] at h<;>first|(cases h;done)|skip
  rename_i e' id ver path
  cases hb:(Nat.beq e e'&&(Nat.beq j id&&(Nat.beq ver 0&&fc.pG cs (path.map (·.2))))) with
  | false=>rw[hb] at h;cases h
  | true=>
   rw[hb] at h
   simp only[aM,ba] at hb
   obtain ⟨rfl,rfl,rfl,pQ⟩:=hb
   have:=yw pQ
   subst this
   cases h
   exact ⟨by simp[LS.size],.inr fun rest=>by simp only[jB,GG]⟩
 | cW j cs c=>
  cases x<;>simp only[fc] at h<;>first|(cases h;done)|skip
  rename_i id ver path i c'
  cases hb:(Nat.beq j id&&(Nat.beq ver 0&&(Nat.beq c c'&&fc.pG cs (path.map (·.2))))) with
  | false=>rw[hb] at h;cases h
  | true=>
   rw[hb] at h
   simp only[aM,ba] at hb
   obtain ⟨rfl,rfl,rfl,pQ⟩:=hb
   have:=yw pQ
   subst this
   cases h
   exact ⟨by simp[LS.size],.inr fun rest=>by simp only[jB,List.cons_append,V.nth,SB,nn,kX,GG]⟩
def LS.below (n:Nat) (x:V):Prop:= ∀id∈e6 x,id<n
def SC:V→Prop
 | .agg _=>False
 | .bx _=>False
 | .fn .. =>False
 | .pref .. =>False
 | _=>True
theorem vU {c:Bool} {a d:List V} (h:(bif c then some a else none)=some d):c=true:=by
 cases c with
 | true=>rfl
 | false=>cases h
theorem adg {l:LS} {x:V} {ds:List V} {n:Nat} (h:fc l x=some ds) (hl:l≠ .tK) (aw:l.ok n=true):SC x∧LS.below n x:=by
 cases l<;>cases x<;>simp only[fc] at h<;>first|(cases h;done)|(exact absurd rfl hl)|skip
 all_goals refine ⟨trivial,fun id ab=> ?_⟩
 all_goals simp only[e6,gX,List.not_mem_nil] at ab
 all_goals subst ab
 all_goals simp only[LS.ok,kW] at aw
 all_goals
  have hb:=vU h
  simp only[aM,ba] at hb
  omega
theorem aj.adh {v:Value} {x:V} (h:aj P w I β hp v x) (hx:SC x) (hs: ∀id∈e6 x,hp' id=hp id∧aq id=β id):aj P w I aq hp' v x:=by
 have one: ∀{id},id∈e6 x→hp' id=hp id∧aq id=β id:=fun h=>hs _ h
 cases h with
 | undef=>exact .undef
 | int=>exact .int
 | bool=>exact .bool
 | str h=>exact .str h
 | list h=>exact .list h
 | nilS=>exact .nilS
 | agg=>exact hx.elim
 | bx=>exact hx.elim
 | dR=>exact .dR
 | fn=>exact hx.elim
 | pref=>exact hx.elim
 | eT h=>exact .eT ((one (by simp[e6])).1.trans h)
 | gY h=>exact .gY ((one (by simp[e6])).1.trans h)
 | ll h=>exact .ll ((one (by simp[e6])).1.trans h)
 | ep h hb=>exact .ep ((one (by simp[e6])).1.trans h) ((one (by simp[e6])).2.trans hb)
 | whole h hb a b c=>exact .whole ((one (by simp[e6])).1.trans h) ((one (by simp[e6])).2.trans hb) a b c
 | e7 h hb a b c=>exact .e7 ((one (by simp[e6])).1.trans h) ((one (by simp[e6])).2.trans hb) a b c
 | gG h hb=>exact .gG ((one (by simp[e6])).1.trans h) ((one (by simp[e6])).2.trans hb)
 | sub h hb a b c=>exact .sub ((one (by simp[e6])).1.trans h) ((one (by simp[e6])).2.trans hb) a b c
 | ptr h hd hb=>exact .ptr ((one (by simp[e6])).1.trans h) hd ((one (by simp[e6])).2.trans hb)
 | kB h sq=>exact .kB ((one (by simp[e6])).1.trans h) sq
 | kC h sq=>exact .kC ((one (by simp[e6])).1.trans h) sq
 | row h hb a b c d=>exact .row ((one (by simp[e6])).1.trans h) ((one (by simp[e6])).2.trans hb) a b c d
 | cW h hb a b c d e=>exact .cW ((one (by simp[e6])).1.trans h) ((one (by simp[e6])).2.trans hb) a b c d e
 | dS=>exact .dS
 | jk h=>exact .jk ((one (by simp[e6])).1.trans h)
 | cm h hb=>exact .cm ((one (by simp[e6])).1.trans h) ((one (by simp[e6])).2.trans hb)
theorem oQ {a b:List V} {n:Nat} (h:a.length=n):(a++b).drop n=b:=by subst h;simp
def BB (n:Nat) (β:Nat→Option Nat) (hp:Nat→Option ai) (aq:Nat→Option Nat) (hp':Nat→Option ai):Prop:= ∀id,id<n→hp' id=hp id∧aq id=β id
theorem SD {l:LS} {x:V} {ds:List V} {n:Nat} {v:Value} (h:fc l x=some ds) (aw:l.ok n=true) (jJ:BB n β hp aq hp') (hv:aj P w I β hp v x) (rest:List V):
  aj P w I aq hp' v (jB l (ds++rest)):=by
 rcases (GH h).2 with e|e
 ·subst e;exact .undef
 ·rw[e rest]
  by_cases hu:l= .tK
  ·subst hu
   have:x= .undef:=(e rest).symm
   subst this
   exact .undef
  ·obtain ⟨h1,h2⟩:=adg h hu aw
   exact hv.adh h1 fun id ab=>jJ id (h2 id ab)
theorem BC {n:Nat} (jJ:BB n β hp aq hp'): ∀{ls:List LS} {xs:List V} {ds:List V},qH ls xs=some ds→ls.all (LS.ok n)=true→
  ds.length=lg ls∧(∀rest,(jc ls (ds++rest)).length=xs.length)∧
  ∀(rest:List V) (j:Nat) (v:Value) (y:V),(∀x,xs[j]? =some x→aj P w I β hp v x)→(jc ls (ds++rest))[j]? =some y→aj P w I aq hp' v y
 | [],[],ds,h,_=>by cases h;exact ⟨rfl,fun _=>rfl,fun rest j v y _ hy=>by simp[jc] at hy⟩
 | [],_::_,ds,h,_=>by cases h
 | _::_,[],ds,h,_=>by cases h
 | l::ls,x::xs,ds,h,aw=>by
  simp only[qH] at h
  obtain ⟨a,h1,h⟩:=bind_some h
  obtain ⟨b,h2,h⟩:=bind_some h
  cases h
  simp only[List.all_cons,aM] at aw
  obtain ⟨i1,i2,i3⟩:=BC jJ h2 aw.2
  have cF:=(GH h1).1
  have hd: ∀rest,(a++b++rest).drop l.size=b++rest:=fun rest=>by rw[dk];exact oQ cF
  refine ⟨by simp only[dd,lg];omega,fun rest=>by simp only[jc,List.length_cons,hd,i2],fun rest j v y hv hy=> ?_⟩
  simp only[jc,hd] at hy
  cases j with
  | zero=>
   simp at hy
   subst hy
   exact SD h1 aw.1 jJ (hv x rfl) _
  | succ j=>exact i3 rest j v y (fun x hx=>hv x (by simpa using hx)) (by simpa using hy)
theorem LP: ∀{ls:List LS} {xs:List V} {ds:List V},qH ls xs=some ds→ls.all LS.plain=true→ds.length=lg ls∧∀rest,jc ls (ds++rest)=xs
 | [],[],ds,h,_=>by cases h;exact ⟨rfl,fun _=>rfl⟩
 | [],_::_,ds,h,_=>by cases h
 | _::_,[],ds,h,_=>by cases h
 | l::ls,x::xs,ds,h,aw=>by
  simp only[qH] at h
  obtain ⟨a,h1,h⟩:=bind_some h
  obtain ⟨b,h2,h⟩:=bind_some h
  cases h
  simp only[List.all_cons,aM] at aw
  obtain ⟨i1,i2⟩:=LP h2 aw.2
  obtain ⟨cF,hm⟩:=GH h1
  refine ⟨by simp only[dd,lg];omega,fun rest=> ?_⟩
  simp only[jc]
  rw[show (a++b++rest).drop l.size=b++rest by rw[dk];exact oQ cF,i2,dk]
  rcases hm with e|e
  ·subst e;cases aw.1
  ·rw[e]
theorem LQ {n:Nat} (jJ:BB n β hp aq hp') {s:VS} {x:V} {ds:List V} (h:qI s x=some ds) (aw:s.ok n=true):
  ds.length=s.size∧∀(rest:List V) (v:Value),aj P w I β hp v x→aj P w I aq hp' v (lS s (ds++rest)):=by
 cases s with
 | one l=>exact ⟨(GH h).1,fun rest v hv=>SD h aw jJ hv rest⟩
 | agg ls=>
  cases x<;>simp only[qI] at h<;>first|(cases h;done)|skip
  rename_i xs
  obtain ⟨i1,i2,i3⟩:=BC (P:=P) (w:=w) (I:=I) jJ h aw
  refine ⟨i1,fun rest v hv=> ?_⟩
  obtain ⟨cs,rfl,e1,e2⟩:=hv.lW
  exact .agg (by rw[i2];exact e1) fun j v y hj hy=>i3 rest j v y (fun x hx=>e2 j v x hj hx) hy
 | bx ls=>
  cases x<;>simp only[qI] at h<;>first|(cases h;done)|skip
  rename_i xs
  obtain ⟨i1,i2,i3⟩:=BC (P:=P) (w:=w) (I:=I) jJ h aw
  refine ⟨i1,fun rest v hv=> ?_⟩
  obtain ⟨cs,rfl,e1,e2⟩:=hv.vE
  exact .bx (by rw[i2];exact e1) fun j v y hj hy=>i3 rest j v y (fun x hx=>e2 j v x hj hx) hy
 | fn f a b=>
  cases x<;>simp only[qI] at h<;>first|(cases h;done)|skip
  rename_i f' xs ys
  cases hb:Nat.beq f f' with
  | false=>rw[hb] at h;cases h
  | true=>
   rw[hb] at h
   rw[ba] at hb
   subst hb
   simp only[cond_true] at h
   obtain ⟨p,h1,h⟩:=bind_some h
   obtain ⟨q,h2,h⟩:=bind_some h
   cases h
   simp only[VS.ok,aM] at aw
   obtain ⟨i1,i2,i3⟩:=BC (P:=P) (w:=w) (I:=I) jJ h1 aw.1
   obtain ⟨j1,j2,j3⟩:=BC (P:=P) (w:=w) (I:=I) jJ h2 aw.2
   refine ⟨by simp only[dd,VS.size];omega,fun rest v hv=> ?_⟩
   cases hv with
   | fn a1 a2 b1 b2=>
    simp only[lS]
    rw[show (p++q++rest).drop (lg a)=q++rest by rw[dk];exact oQ i1,dk]
    exact .fn (by rw[i2];exact a1) (fun j v y hj hy=>i3 _ j v y (fun x hx=>a2 j v x hj hx) hy) (by rw[j2];exact b1) (fun j v y hj hy=>j3 _ j v y (fun x hx=>b2 j v x hj hx) hy)
 | pref ts ls=>
  cases x<;>simp only[qI] at h<;>first|(cases h;done)|skip
  rename_i xN xs
  cases hb:fc.pG ts xN with
  | false=>rw[hb] at h;cases h
  | true=>
   rw[hb] at h
   have:=yw hb
   subst this
   simp only[cond_true] at h
   refine ⟨?_,fun rest v hv=> ?_⟩
   ·exact (LP h aw).1
   ·simp only[lS]
    rw[(LP h aw).2]
    cases hv with
    | pref hl hI hc=>exact .pref hl hI hc
theorem BD {n:Nat} (jJ:BB n β hp aq hp'): ∀{ls:List VS} {xs:List V} {ds:List V},tC ls xs=some ds→ls.all (VS.ok n)=true→
  ds.length=tT ls∧(∀rest,(gl ls (ds++rest)).length=xs.length)∧
  ∀(rest:List V) (j:Nat) (v:Value) (y:V),(∀x,xs[j]? =some x→aj P w I β hp v x)→(gl ls (ds++rest))[j]? =some y→aj P w I aq hp' v y
 | [],[],ds,h,_=>by cases h;exact ⟨rfl,fun _=>rfl,fun rest j v y _ hy=>by simp[gl] at hy⟩
 | [],_::_,ds,h,_=>by cases h
 | _::_,[],ds,h,_=>by cases h
 | l::ls,x::xs,ds,h,aw=>by
  simp only[tC] at h
  obtain ⟨a,h1,h⟩:=bind_some h
  obtain ⟨b,h2,h⟩:=bind_some h
  cases h
  simp only[List.all_cons,aM] at aw
  obtain ⟨i1,i2,i3⟩:=BD jJ h2 aw.2
  obtain ⟨cF,yp⟩:=LQ (P:=P) (w:=w) (I:=I) jJ h1 aw.1
  have hd: ∀rest,(a++b++rest).drop l.size=b++rest:=fun rest=>by rw[dk];exact oQ cF
  refine ⟨by simp only[dd,tT];omega,fun rest=>by simp only[gl,List.length_cons,hd,i2],fun rest j v y hv hy=> ?_⟩
  simp only[gl,hd] at hy
  cases j with
  | zero=>
   simp at hy
   subst hy
   exact yp _ v (hv x rfl)
  | succ j=>exact i3 rest j v y (fun x hx=>hv x (by simpa using hx)) (by simpa using hy)
end
section
variable {P:Program} {A:cX} {w w':World} {I I' I2:Nat→Prop} {μ β aq:Nat→Option Nat} {hp hp' hp0:Nat→Option ai} {C:ae} {B:Nat} {M:Nat→Prop} {w0:Start}
theorem iP: ∀{l:List ai} {j:Nat},kA l j=l[j]?
 | [],j=>by simp[kA]
 | b::l,0=>rfl
 | b::l,j+1=>by simp only[kA,iP,List.getElem?_cons_succ]
theorem LR {sl:Nat→V} {k:Nat} {y:V}: ∀{l:List (Nat × VS)} {ds:List V},AP sl l=some ds→(∀p∈l,∀d,qI p.2 (sl p.1)=some d→d.length=p.2.size)→
  ds.length=pH l∧∀rest,eo (fW l (ds++rest)) k=some y→∃s d hY,(k,s)∈l∧qI s (sl k)=some d∧y=lS s (d++hY)
 | [],ds,h,_=>by cases h;exact ⟨rfl,fun rest h=>by cases h⟩
 | (q,s)::l,ds,h,hz=>by
  simp only[AP] at h
  obtain ⟨a,h1,h⟩:=bind_some h
  obtain ⟨b,h2,h⟩:=bind_some h
  cases h
  obtain ⟨i1,i2⟩:=LR (k:=k) (y:=y) h2 fun p hp=>hz p (nk _ hp)
  have cF:=hz (q,s) (tH ..) a h1
  refine ⟨by simp only[dd,pH];simp only at cF;omega,fun rest hl=> ?_⟩
  simp only[fW,eo] at hl
  rw[show (a++b++rest).drop s.size=b++rest by rw[dk];exact oQ cF] at hl
  cases hb:Nat.beq k q with
  | true=>
   rw[hb] at hl
   rw[ba] at hb
   subst hb
   cases hl
   exact ⟨s,a,b++rest,tH ..,h1,by rw[dk]⟩
  | false=>
   rw[hb] at hl
   obtain ⟨s',d,hY,m1,m2,m3⟩:=i2 rest hl
   exact ⟨s',d,hY,nk _ m1,m2,m3⟩
theorem LU {α:Type} {c:Bool} {x:Option α} {a:α} (h:(bif c then x else none)=some a):c=true∧x=some a:=by
 cases c with
 | true=>exact ⟨rfl,h⟩
 | false=>cases h
theorem adi {n:Nat} {b:BS} {o:Option ai} {ds:List V} (h:lR b o=some ds) (aw:b.ok n=true):ds.length=b.size:=by
 cases b with
 | dead=>cases o<;>(cases h;rfl)
 | var T0 ls=>
  cases o with
  | none=>cases h
  | some blk=>
   cases blk<;>simp only[lR] at h<;>first|(cases h;done)|skip
   exact (BD (P:=default) (w:=default) (I:=fun _=>False) (β:=fun _=>none) (hp:=fun _=>none) (fun _ _=>⟨rfl,rfl⟩) (LU h).2 aw).1
 | arr e fz=>
  cases o with
  | none=>cases h
  | some blk=>
   cases blk<;>simp only[lR] at h<;>first|(cases h;done)|skip
   rw[vU h] at h
   cases h
   rfl
 | nest e=>
  cases o with
  | none=>cases h
  | some blk=>
   cases blk<;>simp only[lR] at h<;>first|(cases h;done)|skip
   rw[vU h] at h
   cases h
   rfl
 | map t=>
  cases o with
  | none=>cases h
  | some blk=>
   cases blk<;>simp only[lR] at h<;>first|(cases h;done)|skip
   rw[vU h] at h
   cases h
   rfl
theorem SE {n:Nat}: ∀{l:List BS} {j:Nat} {ds:List V},AQ hp j l=some ds→l.all (BS.ok n)=true→
  (∀rest,(fo l (ds++rest)).length=l.length)∧∀(rest:List V) (i:Nat) (blk:ai),(fo l (ds++rest))[i]? =some blk→∃b d hY,l[i]? =some b∧b.ok n=true∧lR b (hp (j+i))=some d∧blk=gC b (d++hY)
 | [],j,ds,h,_=>by cases h;exact ⟨fun _=>rfl,fun rest i blk hb=>by simp[fo] at hb⟩
 | b::l,j,ds,h,aw=>by
  simp only[AQ] at h
  obtain ⟨a,h1,h⟩:=bind_some h
  obtain ⟨c,h2,h⟩:=bind_some h
  cases h
  simp only[List.all_cons,aM] at aw
  obtain ⟨i1,i2⟩:=SE h2 aw.2
  have cF:=adi h1 aw.1
  have hd: ∀rest,(a++c++rest).drop b.size=c++rest:=fun rest=>by rw[dk];exact oQ cF
  refine ⟨fun rest=>by simp only[fo,List.length_cons,hd,i1],fun rest i blk hb=> ?_⟩
  simp only[fo,hd] at hb
  cases i with
  | zero=>
   simp at hb
   exact ⟨b,a,c++rest,rfl,aw.1,h1,by rw[←hb]⟩
  | succ i=>
   obtain ⟨b',d,hY,m1,m2,m3,m4⟩:=i2 rest i blk (by simpa using hb)
   exact ⟨b',d,hY,by simpa using m1,m2,by rw[show j+(i+1)=j+1+i by omega];exact m3,m4⟩
theorem adj {n:Nat} {b:BS} {blk:ai} {ds rest:List V} (h:lR b (some blk)=some ds) (aw:b.ok n=true):
  blk.le (gC b (ds++rest))∧(gC b (ds++rest)= .dead∨gC b (ds++rest)=blk∨∃T ls cs,b= .var T ls∧blk= .var T cs∧tC ls cs=some ds∧gC b (ds++rest)= .var T (gl ls (ds++rest))):=by
 cases b with
 | dead=>exact ⟨by cases blk<;>trivial,.inl rfl⟩
 | var T0 ls=>
  cases blk<;>simp only[lR] at h<;>first|(cases h;done)|skip
  obtain ⟨hT,h0⟩:=LU h
  clear h
  rw[ba] at hT
  subst hT
  exact ⟨rfl,.inr (.inr ⟨_,_,_,rfl,rfl,h0,rfl⟩)⟩
 | arr e fz=>
  cases blk<;>simp only[lR] at h<;>first|(cases h;done)|skip
  rename_i e' es oB
  have hb:=vU h
  simp only[aM,ba,beq_iff_eq] at hb
  obtain ⟨rfl,rfl⟩:=hb
  simp only[ky,beq_self_eq_true,Ap,cond_true,dZ] at h
  subst h
  exact ⟨⟨rfl,rfl⟩,.inr (.inl rfl)⟩
 | nest e=>
  cases blk<;>simp only[lR] at h<;>first|(cases h;done)|skip
  rename_i e' es ak
  have hb:=vU h
  simp only[aM,ba] at hb
  obtain ⟨rfl,hv⟩:=hb
  have:=yw hv
  subst this
  simp only[ky,xB] at h
  cases h
  exact ⟨⟨rfl,rfl,rfl,fun _=>ax _⟩,.inr (.inl rfl)⟩
 | map t=>
  cases blk<;>simp only[lR] at h<;>first|(cases h;done)|skip
  rename_i t' es
  have hb:=vU h
  rw[ba] at hb
  subst hb
  simp only[ky,cond_true,dZ] at h
  subst h
  exact ⟨rfl,.inr (.inl rfl)⟩
theorem SF {m:Nat} {S:Shape} {st:St} {ds:List V} (h:jC m S st=some ds):
  S.ok=true∧m≤S.bj.length∧∃a b,AP st.sl S.bX=some a∧AQ st.hp 0 S.bj=some b∧ds=a++b:=by
 unfold jC at h
 cases hc:(S.ok&&Nat.ble m S.bj.length) with
 | false=>rw[hc] at h;cases h
 | true=>
  rw[hc] at h
  simp only[cond_true] at h
  simp only[aM,fy] at hc
  obtain ⟨a,h1,h⟩:=bind_some h
  obtain ⟨b,h2,h⟩:=bind_some h
  cases h
  exact ⟨hc.1,hc.2,a,b,h1,h2,rfl⟩
theorem reshape {m:Nat} {S:Shape} {st:St} {ds:List V} (h:jC m S st=some ds) (hS:aH P w I β st.hp B M w0):
  aH P w I β (bE S ds).hp B M w0∧(∀(k:Nat) (v:Value),aj P w I β st.hp v (st.sl k)→aj P w I β (bE S ds).hp v ((bE S ds).sl k))∧
  (∀(μ:Nat→Option Nat) (hp0:Nat→Option ai),(∀id blk,hp0 id=some blk→id<m)→Le P w0.w w0.I μ hp0 w I β st.hp→Le P w0.w w0.I μ hp0 w I β (bE S ds).hp)∧
  ∀j blk',(bE S ds).hp j=some blk'→blk'≠ .dead→∃blk,st.hp j=some blk∧blk.le blk'∧∀o b,bK P w o blk' b→bK P w o blk b:=by
 obtain ⟨aw,hm,a,b,h1,h2,rfl⟩:=SF h
 unfold Shape.ok at aw
 rw[aM] at aw
 obtain ⟨SG,Lw⟩:=aw
 have bn: ∀p∈S.bX,∀d,qI p.2 (st.sl p.1)=some d→d.length=p.2.size:=fun p hp d hd=>
  (LQ (P:=P) (w:=w) (I:=I) (β:=β) (hp:=st.hp) (fun _ _=>⟨rfl,rfl⟩) hd (gi.1 SG p hp)).1
 have cF:a.length=pH S.bX:=(LR (k:=0) (y:= .undef) h1 bn).1
 have Gw:(bE S (a++b)).hp=kA (fo S.bj (b++[])):=by
  simp only[bE,mk,iD]
  rw[oQ cF]
 obtain ⟨bl,bg⟩:=SE h2 Lw
 have get: ∀j blk',(bE S (a++b)).hp j=some blk'→j<S.bj.length∧∃bs d hY,bs.ok S.bj.length=true∧lR bs (st.hp j)=some d∧blk'=gC bs (d++hY):=by
  intro j blk' hj
  rw[Gw,iP] at hj
  obtain ⟨bs,d,hY,m1,m2,m3,m4⟩:=bg [] j blk' hj
  rw[eh] at m3
  exact ⟨(bH.1 m1).1,bs,d,hY,m2,m3,m4⟩
 have have': ∀j,j<S.bj.length→∃blk',(bE S (a++b)).hp j=some blk':=by
  intro j hj
  rw[Gw,iP]
  exact ⟨_,bM (by rw[bl];exact hj)⟩
 generalize iJ:(bE S (a++b)).hp=vV at*
 let bI:Nat→Option ai:=fun id=>if id<S.bj.length then vV id else st.hp id
 have back: ∀j blk',vV j=some blk'→blk'≠ .dead→∃blk,st.hp j=some blk∧blk.le blk'∧(blk'=blk∨∃T ls cs d hY,ls.all (VS.ok S.bj.length)=true∧blk= .var T cs∧tC ls cs=some d∧blk'= .var T (gl ls (d++hY))):=by
  intro j blk' hj hd
  obtain ⟨dv,bs,d,hY,m1,m2,m3⟩:=get j blk' hj
  cases b6:st.hp j with
  | none=>
   rw[b6] at m2
   cases bs<;>simp only[lR] at m2<;>first|(cases m2;done)|skip
   exact absurd m3 hd
  | some blk=>
   rw[b6] at m2
   obtain ⟨n1,n2⟩:=adj (rest:=hY) m2 m1
   rw[←m3] at n1 n2
   refine ⟨blk,rfl,n1,?_⟩
   rcases n2 with e|e|⟨T,ls,cs,e1,e2,e3,e4⟩
   ·exact absurd e hd
   ·exact .inl e
   ·subst e1
    exact .inr ⟨T,ls,cs,d,hY,m1,e2,e3,e4⟩
 have le1: ∀j blk,st.hp j=some blk→j<S.bj.length→∃blk',vV j=some blk'∧blk.le blk':=by
  intro j blk hj dv
  obtain ⟨blk',az⟩:=have' j dv
  refine ⟨blk',az,?_⟩
  by_cases hd:blk'= .dead
  ·subst hd;cases blk<;>trivial
  ·obtain ⟨cv,e1,e2,_⟩:=back j blk' az hd
   rw[hj] at e1;cases e1
   exact e2
 have adk: ∀j e es ak e' aQ vers',st.hp j=some (.nest e es ak)→vV j=some (.nest e' aQ vers')→e'=e∧aQ=es∧vers'=ak:=by
  intro j e es ak e' aQ vers' hj il
  obtain ⟨blk,e1,_,e3⟩:=back j _ il (by simp)
  rw[hj] at e1;cases e1
  rcases e3 with e3|⟨_,_,_,_,_,_,e3,_⟩
  ·cases e3;exact ⟨rfl,rfl,rfl⟩
  ·cases e3
 have hle:Le P w I β st.hp w I β bI:=by
  refine ⟨fun _ h=>h,fun _ _=>rfl,fun id blk ab=> ?_,fun _ _ _ _ _ _ _ _=>rfl,Le.ua (fun _ _ _ _ _ _=>rfl) fun id e es ak e' aQ vers' ab bR=> ?_⟩
  ·by_cases hl:id<S.bj.length
   ·obtain ⟨blk',e1,e2⟩:=le1 id blk ab hl
    exact ⟨blk',by simp only[bI,af hl];exact e1,e2,fun _=>rfl⟩
   ·exact ⟨blk,by simp only[bI,ag hl];exact ab,ai.le_refl _,fun _=>rfl⟩
  ·by_cases hl:id<S.bj.length
   ·simp only[bI,af hl] at bR
    exact adk _ _ _ _ _ _ _ ab bR
   ·simp only[bI,ag hl] at bR
    rw[ab] at bR;cases bR
    exact ⟨rfl,rfl,rfl⟩
 have jJ:BB S.bj.length β bI β vV:=fun id ab=>⟨by simp only[bI,af ab],rfl⟩
 have yi: ∀j blk' blk o b,vV j=some blk'→st.hp j=some blk→bK P w o blk' b→bK P w o blk b:=by
  intro j blk' blk o b il hj ho
  obtain ⟨cv,e1,_,e3⟩:=back j blk' il ho.alive
  rw[hj] at e1;cases e1
  rcases e3 with e3|⟨T,ls,cs,d,hY,_,e3,_,e5⟩
  ·subst e3;exact ho
  ·subst e3;subst e5
   exact .root (by simp) (ho.flat (by simp))
 refine ⟨⟨⟨fun j blk' hj=> ?_,fun j1 j2 b1 b2 b' e1 e2 o1 o2=> ?_,fun j blk b' hj ho=> ?_,hS.h.kD⟩,hS.cE,hS.size,hS.new,hS.io⟩,fun k v hv=> ?_,fun μ hp0 a9 hE=> ?_,fun j blk' hj hd=> ?_⟩
 ·by_cases hd:blk'= .dead
  ·subst hd;exact .dead
  ·obtain ⟨blk,e1,_,e3⟩:=back j blk' hj hd
   have hr:=hS.h.rel j blk e1
   generalize β j=o at hr
   rcases e3 with e3|⟨T0,ls,cs,d,hY,q1,e3,e4,e5⟩
   ·subst e3
    cases hr with
    | @var xs b' Ca T hb hh hs dj hx g9=>
     obtain ⟨dv,bs,d,hY,m1,m2,m3⟩:=get j _ hj
     rw[e1] at m2
     cases bs<;>simp only[lR] at m2<;>first|(cases m2;done)|skip
     ·rename_i T0 ls
      simp only[gC] at m3
      obtain ⟨hT,m2⟩:=LU m2
      obtain ⟨i1,i2,i3⟩:=BD (P:=P) (w:=w) (I:=I) jJ m2 m1
      injection m3 with m4 m3
      rw[m3]
      exact .var hb hh (by rw[i2];exact hs) dj (fun i v y hi hy=>i3 hY i v y (fun x cR=>(hx i v x hi cR).mono hle) hy) g9
     ·simp only[gC] at m3
      cases m3
    | eu hb=>exact .eu hb
    | arr a1 a2 a3 a4 a5 a6 a7=>exact .arr a1 a2 a3 a4 a5 a6 a7
    | dead=>exact absurd rfl hd
    | nest a1 a2 a3=>exact .nest a1 a2 a3
    | map a1 a2 a3 a4 a5 a6 a7=>exact .map a1 a2 a3 a4 a5 a6 a7
   ·subst e3
    subst e5
    cases hr with
    | @var xs b' Ca T hb hh hs dj hx g9=>
     obtain ⟨i1,i2,i3⟩:=BD (P:=P) (w:=w) (I:=I) jJ e4 q1
     exact .var hb hh (by rw[i2];exact hs) dj (fun i v y hi hy=>i3 hY i v y (fun x cR=>(hx i v x hi cR).mono hle) hy) g9
 ·obtain ⟨c1,x1,_,_⟩:=back j1 b1 e1 o1.alive
  obtain ⟨c2,x2,_,_⟩:=back j2 b2 e2 o2.alive
  exact hS.h.inj j1 j2 c1 c2 b' x1 x2 (yi _ _ _ _ _ e1 x1 o1) (yi _ _ _ _ _ e2 x2 o2)
 ·obtain ⟨c1,x1,_,_⟩:=back j blk hj ho.alive
  exact hS.h.own j c1 b' x1 (yi _ _ _ _ _ hj x1 ho)
 ·change aj P w I β vV v (j4 (fW S.bX (a++b)) k)
  unfold j4
  cases LV:eo (fW S.bX (a++b)) k with
  | none=>exact .undef
  | some y=>
   obtain ⟨s,d,hY,n1,n2,n3⟩:=(LR h1 bn).2 b LV
   simp only[Option.getD_some,n3]
   exact (LQ (P:=P) (w:=w) (I:=I) jJ n2 (gi.1 SG _ n1)).2 hY v (hv.mono hle)
 ·have h3:=hE.trans hle
  refine ⟨h3.dM,h3.cE,fun id blk ab=> ?_,fun id blk blk' b' ab bR hd hb=> ?_,fun id e es ak e' aQ vers' b2 q i c t v e1 l ab bR=> ?_⟩
  ·have hl:=a9 id blk ab
   obtain ⟨blk',k1,k2,k3⟩:=h3.blk id blk ab
   simp only[bI,af (show id<S.bj.length by omega)] at k1
   exact ⟨blk',k1,k2,k3⟩
  ·have hl:=a9 id blk ab
   exact h3.size id blk blk' b' ab (by simp only[bI,af (show id<S.bj.length by omega)];exact bR) hd hb
  ·have hl:=a9 id _ ab
   exact h3.row id e es ak e' aQ vers' b2 q i c t v e1 l ab (by simp only[bI,af (show id<S.bj.length by omega)];exact bR)
 ·obtain ⟨blk,e1,e2,_⟩:=back j blk' hj hd
  exact ⟨blk,e1,e2,fun o b' ho=>yi _ _ _ _ _ hj e1 ho⟩
end
section
variable {P:Program} {A:cX} {w w':World} {I I' I2:Nat→Prop} {μ β aq:Nat→Option Nat} {hp hp' hp0:Nat→Option ai} {C:ae} {B:Nat} {M:Nat→Prop} {w0:Start}
inductive eN (P:Program) (w:World) (β:Nat→Option Nat) (hp:Nat→Option ai):Place→Option Nat→ai→Prop
 | var {id:Nat} {T:TypeId} {cs LW:List V}:hp id=some (.var T cs)→eN P w β hp (.blk id) (β id) (.var T LW)
 | arr {id:Nat} {e:TypeId} {es:List V}:hp id=some (.arr e es false)→eN P w β hp (.blk id) (β id) (.arr e es false)
 | nest {id:Nat} {e:TypeId} {es:List V} {ak:List Nat}:hp id=some (.nest e es ak)→eN P w β hp (.blk id) (β id) (.nest e es [0,0,0])
 | row {id ver b b':Nat} {path:Path} {e0 e':TypeId} {es l:List V} {ak:List Nat}:hp id=some (.nest e0 es ak)→β id=some b→At P w b e0 es path b' e' l→AO P e'=true→
   0<path.length→path.length≤ak.length→bQ ak (path.length-1)=ver→0<l.length→eN P w β hp (.row id ver path) (some b') (.arr e' l false)
 | map {id:Nat} {t:TypeId} {es:List V}:hp id=some (.map t es)→eN P w β hp (.blk id) (β id) (.map t es)
def BE (P:Program) (w:World) (β:Nat→Option Nat) (hp:Nat→Option ai) (ρ:List Place) (μ:Nat→Option Nat) (hp0:Nat→Option ai):Prop:=
 ∀j p,eS ρ j=some p→∃blk,hp0 j=some blk∧eN P w β hp p (μ j) blk
theorem pW: ∀{l m:List Place} {j:Nat} {p:Place},eS l j=some p→eS (l++m) j=some p
 | [],m,j,p,h=>by cases h
 | a::l,m,0,p,h=>h
 | a::l,m,j+1,p,h=>pW (l:=l) h
theorem mJ: ∀{l:List Place} {j:Nat},eS l j=l[j]?
 | [],j=>by simp[eS]
 | a::l,0=>rfl
 | a::l,j+1=>by simp only[eS,mJ,List.getElem?_cons_succ]
structure Ext (P:Program) (w:World) (I:Nat→Prop) (β:Nat→Option Nat) (hp:Nat→Option ai) (h h':Hand) (d:List V) (u:List (Nat × ai)):Prop where
 ds:h'.ds=h.ds++d
 upd:h'.upd=h.upd++u
 GI: ∀q∈u,A9 hp q
 pl: ∃m,h'.pl=h.pl++m
 nodup:(h.pl.map Place.id).Nodup→(h'.pl.map Place.id).Nodup
theorem Ext.refl (h:Hand):Ext P w I β hp h h [] []:=⟨by simp,by simp,by simp,⟨[],by simp⟩,id⟩
theorem Ext.trans {h1 h2 h3:Hand} {d1 d2:List V} {u1 u2:List (Nat × ai)} (a:Ext P w I β hp h1 h2 d1 u1) (b:Ext P w I β hp h2 h3 d2 u2):Ext P w I β hp h1 h3 (d1++d2) (u1++u2):=by
 obtain ⟨m1,e1⟩:=a.pl
 obtain ⟨m2,e2⟩:=b.pl
 exact ⟨by rw[b.ds,a.ds,dk],by rw[b.upd,a.upd,dk],fun q hq=>(eP.1 hq).elim (a.GI q) (b.GI q),⟨m1++m2,by rw[e2,e1,dk]⟩,fun h=>b.nodup (a.nodup h)⟩
theorem Ext.look {h h':Hand} {d:List V} {u:List (Nat × ai)} (a:Ext P w I β hp h h' d u) {j:Nat} {p:Place} (hj:eS h.pl j=some p):eS h'.pl j=some p:=by
 obtain ⟨m,e⟩:=a.pl
 rw[e]
 exact pW hj
theorem Ext.leaf (h:Hand) (x:V):Ext P w I β hp h {h with ds:=h.ds++[x]} [x] []:=⟨rfl,by simp,by simp,⟨[],by simp⟩,id⟩
theorem adl {α:Type} {ρ:List Place} {j:Nat} {p:Place} {k:List Place→Rd α} {r:α} {rd:List Nat} (h:(unify ρ j p k).run C hp=some (r,rd)) (hb: ∃id,p= .blk id∨∃ver path,p= .row id ver path):
  ∃kK,(k kK).run C hp=some (r,rd)∧(∃m,kK=ρ++m)∧eS kK j=some p∧((ρ.map Place.id).Nodup→(kK.map Place.id).Nodup):=by
 unfold unify at h
 cases hc:Nat.blt j ρ.length with
 | true=>
  rw[hc] at h
  obtain ⟨h1,h2⟩:=aI h
  refine ⟨ρ,h2,⟨[],by simp⟩,?_,id⟩
  unfold Rc at h1
  split at h1
  ·rename_i a b he
   rw[ba] at h1
   subst h1
   exact he
  ·cases h1
 | false=>
  rw[hc] at h
  obtain ⟨h1,h2⟩:=aI h
  simp only[aM,ba,ot] at h1
  obtain ⟨rfl,h3⟩:=h1
  refine ⟨ρ++[p],h2,⟨[p],rfl⟩,?_,fun hn=> ?_⟩
  ·rw[mJ];simp
  ·rw[qz,Fv]
   refine ⟨hn,by simp,fun a ha b hb=> ?_⟩
   simp only[jV,List.map_nil,gX] at hb
   subst hb
   intro e
   subst e
   rw[ye ha] at h3
   cases h3
theorem vW {α:Type} {h:Hand} {j:Nat} {p:Place} {k:List Place→Rd α} {r:α} {rd:List Nat} (hr:(unify h.pl j p k).run C hp=some (r,rd)) (ds:List V):
  ∃kK,(k kK).run C hp=some (r,rd)∧eS kK j=some p∧Ext P w I β hp h {h with pl:=kK,ds:=h.ds++ds} ds []:=by
 obtain ⟨kK,a,b,c,d⟩:=adl hr (by cases p with|blk id=>exact ⟨id,.inl rfl⟩|row id ver path=>exact ⟨id,.inr ⟨ver,path,rfl⟩⟩)
 exact ⟨kK,a,c,⟨rfl,by simp,by simp,b,d⟩⟩
theorem adm {o:Option Nat} {blk:ai} {e:TypeId} {id j:Nat} {v:Value} (hv:aj P w I β hp v (.whole e id)) (hl:eN P w β hp (.blk id) o blk) (hj:hp0 j=some blk) (kL:μ j=o):aj P w I' μ hp0 v (.whole e j):=by
 cases hl with
 | var h=>
  cases hv with
  | eT h2=>rw[h] at h2;cases h2
  | ep h2=>rw[h] at h2;cases h2
  | whole h2=>rw[h] at h2;cases h2
  | e7 h2=>rw[h] at h2;cases h2
 | arr h=>
  cases hv with
  | eT h2=>rw[h] at h2;cases h2
  | ep h2 hb=>rw[h] at h2;cases h2;exact .ep hj (kL.trans hb)
  | whole h2 hb a b c=>rw[h] at h2;cases h2;exact .whole hj (kL.trans hb) a b c
  | e7 h2=>rw[h] at h2;cases h2
 | nest h=>
  cases hv with
  | eT h2=>rw[h] at h2;cases h2
  | ep h2=>rw[h] at h2;cases h2
  | whole h2=>rw[h] at h2;cases h2
  | e7 h2 hb a b c=>rw[h] at h2;cases h2;exact .e7 hj (kL.trans hb) a b c
 | map h=>
  cases hv with
  | eT h2=>rw[h] at h2;cases h2
  | ep h2=>rw[h] at h2;cases h2
  | whole h2=>rw[h] at h2;cases h2
  | e7 h2=>rw[h] at h2;cases h2
theorem adn {o:Option Nat} {blk:ai} {t:TypeId} {id j:Nat} {v:Value} (hv:aj P w I β hp v (.cm t id)) (hl:eN P w β hp (.blk id) o blk) (hj:hp0 j=some blk) (kL:μ j=o):aj P w I' μ hp0 v (.cm t j):=by
 cases hv with
 | jk h2=>cases hl<;>(rename_i h;rw[h] at h2;cases h2)
 | cm h2 hb=>
  cases hl<;>(rename_i h;rw[h] at h2;cases h2)
  exact .cm hj (kL.trans hb)
theorem ado {o:Option Nat} {blk:ai} {e:TypeId} {id off n j:Nat} {v:Value} (hv:aj P w I β hp v (.sub e id off n)) (hl:eN P w β hp (.blk id) o blk) (hj:hp0 j=some blk) (kL:μ j=o):aj P w I' μ hp0 v (.sub e j off n):=by
 cases hl with
 | var h=>
  cases hv with
  | gY h2=>rw[h] at h2;cases h2
  | gG h2=>rw[h] at h2;cases h2
  | sub h2=>rw[h] at h2;cases h2
 | arr h=>
  cases hv with
  | gY h2=>rw[h] at h2;cases h2
  | gG h2 hb=>rw[h] at h2;cases h2;exact .gG hj (kL.trans hb)
  | sub h2 hb a b c=>rw[h] at h2;cases h2;exact .sub hj (kL.trans hb) a b c
 | nest h=>
  cases hv with
  | gY h2=>rw[h] at h2;cases h2
  | gG h2=>rw[h] at h2;cases h2
  | sub h2=>rw[h] at h2;cases h2
 | map h=>
  cases hv with
  | gY h2=>rw[h] at h2;cases h2
  | gG h2=>rw[h] at h2;cases h2
  | sub h2=>rw[h] at h2;cases h2
theorem SH {o:Option Nat} {blk:ai} {id i c j:Nat} {v:Value} (hv:aj P w I β hp v (.ptr id i c)) (hl:eN P w β hp (.blk id) o blk) (hj:hp0 j=some blk) (kL:μ j=o):aj P w I' μ hp0 v (.ptr j i c):=by
 cases hl with
 | @var _ T0 cs LW h=>
  obtain ⟨b,hb,rfl⟩:=hv.iL h (by simp)
  exact aj.ptr (blk:= .var T0 LW) hj (by simp) (kL.trans hb)
 | @arr _ e es h=>
  obtain ⟨b,hb,rfl⟩:=hv.iL h (by simp)
  exact aj.ptr (blk:= .arr e es false) hj (by simp) (kL.trans hb)
 | @nest _ e es ak h=>
  obtain ⟨b,hb,rfl⟩:=hv.iL h (by simp)
  exact aj.ptr (blk:= .nest e es [0,0,0]) hj (by simp) (kL.trans hb)
 | @map _ t es h=>
  obtain ⟨b,hb,rfl⟩:=hv.iL h (by simp)
  exact aj.ptr (blk:= .map t es) hj (by simp) (kL.trans hb)
theorem adp (cY: ∀id blk,hp id=some blk→eM P w I β hp (β id) blk) {id b i c:Nat} {e0 t:TypeId} {es l:List V} {ak:List Nat} {q:Path} {e:TypeId} {v:Value} (ab:hp id=some (.nest e0 es ak)) (hb:β id=some b)
  (ht:P.underlying t=some (.slice e)) (hc:nt P w b e0 es q i c t v (.list e l)) (hl:0<l.length): ∃b1 cap,v= .slice (some ⟨b1,0,none⟩) l.length cap∧cap*P.cellsOf e=bsize w b1∧l.length≤cap∧cap≤maxLen∧At P w b e0 es (q++[(i,c)]) b1 e l:=by
 obtain ⟨b2,e1,m,Ca,T,f,x,n1,n2,n3,n4,n5,n6⟩:=hc
 have hr:=cY _ _ ab
 cases hr with
 | nest az hr hn=>
  rw[hb] at az;cases az
  have hR:=hr _ _ _ _ n1
  obtain ⟨Bd,c1,c2,c3⟩:=hR.cells
  rw[n2] at c1
  cases c1
  have vD:c<P.cellsOf e1:=by rw[←gp hR.ok];exact (bH.1 n4).1
  obtain ⟨v',d1,d2⟩:=c3 i c x t n3 n4 vD
  rw[n6] at d1
  cases d1
  rw[n5] at d2
  generalize hy:V.list e l=y at d2
  cases d2 with
  | gF a p=>unfold gB at a;rw[ht] at a;cases a
  | emp hu ha=>cases hy;simp at hl
  | row hu nv bn cA pN=>
   cases hy
   exact ⟨_,_,rfl,bn,cA,pN,n1.snoc n2 n3 n4 ht n5 nv n6⟩
theorem adq (S:aH P w I β hp B M w0) {o:Option Nat} {blk:ai} {e:TypeId} {id ver j:Nat} {path:Path} {v:Value} (hv:aj P w I β hp v (.row e id ver path)) (hl:eN P w β hp (.row id ver path) o blk) (hj:hp0 j=some blk) (kL:μ j=o):aj P w I' μ hp0 v (.whole e j):=by
 cases hl with
 | row h hb ha hf h1 h2 h3 h4=>
  obtain ⟨b2,q,i,c,t,l2,rfl,hG,ht,hc⟩:=hv.Rk h h1 h2 h3
  rw[hb] at hG;cases hG
  obtain ⟨p1,p2⟩:=KT ha
  have kE:=hc
  obtain ⟨b3,e3,m3,Ca,T,f,x,n1,n2,n3,n4,n5,n6⟩:=kE
  obtain ⟨q1,q2⟩:=F0 n1 n3 n4 ht n5
  rw[p1] at q1
  rw[p2] at q2
  cases q1
  cases q2
  obtain ⟨b1,cap,rfl,m1,m2,m4,m5⟩:=adp S.h.rel h hb ht hc h4
  have:=adr ha m5
  subst this
  exact .whole hj kL m1 m2 m4
where
 adr {b b1 b2:Nat} {e e1 e2:TypeId} {es l l2:List V} {q:Path} (h:At P w b e es q b1 e1 l) (h2:At P w b e es q b2 e2 l2):b2=b1:=(h.fun h2).1
theorem SI (S:aH P w I β hp B M w0) {α:Type} {l:LS} {x:V} {h:Hand} {k:Hand→Rd α} {r:α} {rd:List Nat} {v:Value} (hr:(FN P l x h k).run C hp=some (r,rd)) (hv:aj P w I β hp v x):
  ∃h' fF d u,(k h').run C hp=some (r,fF)∧Ext P w I β hp h h' d u∧d.length=l.size∧
   ∀(I':Nat→Prop) (μ:Nat→Option Nat) (hp0:Nat→Option ai),(∀b,I b→I' b)→(∀q∈u,∀b,ub P w β hp q.1 b→I' b)→∀ρ m,ρ=h'.pl++m→BE P w β hp ρ μ hp0→∀rest,aj P w I' μ hp0 v (jB l (d++rest)):=by
 have plain: ∀{x':V} {ka:List Nat},(k {h with ds:=h.ds++[x']}).run C hp=some (r,ka)→l.size=1→(∀I' μ hp0 rest,aj P w I' μ hp0 v (jB l ([x']++rest)))→∃h' fF d u,(k h').run C hp=some (r,fF)∧Ext P w I β hp h h' d u∧d.length=l.size∧
   ∀(I':Nat→Prop) (μ:Nat→Option Nat) (hp0:Nat→Option ai),(∀b,I b→I' b)→(∀q∈u,∀b,ub P w β hp q.1 b→I' b)→∀ρ m,ρ=h'.pl++m→BE P w β hp ρ μ hp0→∀rest,aj P w I' μ hp0 v (jB l (d++rest)):=
  fun hk hs hx=>⟨_,_,_,_,hk,Ext.leaf h _,hs.symm,fun I' μ hp0 _ _ _ _ _ _ rest=>hx I' μ hp0 rest⟩
 have qW: ∀{ka:List Nat},(k h).run C hp=some (r,ka)→l.size=0→(∀I' μ hp0 rest,aj P w I' μ hp0 v (jB l rest))→∃h' fF d u,(k h').run C hp=some (r,fF)∧Ext P w I β hp h h' d u∧d.length=l.size∧
   ∀(I':Nat→Prop) (μ:Nat→Option Nat) (hp0:Nat→Option ai),(∀b,I b→I' b)→(∀q∈u,∀b,ub P w β hp q.1 b→I' b)→∀ρ m,ρ=h'.pl++m→BE P w β hp ρ μ hp0→∀rest,aj P w I' μ hp0 v (jB l (d++rest)):=
  fun hk hs hx=>⟨_,_,_,_,hk,Ext.refl h,by simp[hs],fun I' μ hp0 _ _ _ _ _ _ rest=>hx I' μ hp0 rest⟩
 unfold FN at hr
 cases l with
 | tK=>exact qW hr rfl fun _ _ _ _=> .undef
 | int kd=>
  cases x<;>simp only at hr<;>first|(cases hr;done)|skip
  obtain ⟨h1,h2⟩:=aI hr
  simp only[eE] at h1
  subst h1
  obtain rfl:=hv.e8
  exact plain h2 rfl fun _ _ _ _=> .int
 | bool=>
  cases x<;>simp only at hr<;>first|(cases hr;done)|skip
  obtain rfl:=hv.kG
  exact plain hr rfl fun _ _ _ _=> .bool
 | str=>
  cases x<;>simp only at hr<;>first|(cases hr;done)|skip
  obtain ⟨s,rfl,hl⟩:=hv.ny
  exact plain hr rfl fun _ _ _ _=> .str hl
 | nilS e=>
  cases x<;>simp only at hr<;>first|(cases hr;done)|skip
  obtain ⟨h1,h2⟩:=aI hr
  cases hv with
  | nilS=>exact qW h2 rfl fun _ _ _ _=> .nilS
 | dR=>
  cases x<;>simp only at hr<;>first|(cases hr;done)|skip
  cases hv with
  | dR=>exact qW hr rfl fun _ _ _ _=> .dR
 | row e j cs=>
  cases x<;>simp only at hr<;>first|(cases hr;done)|skip
  rename_i e' id ver path
  obtain ⟨e0,es,ak,l0,ab,p1,p2,p3,hr⟩:=pM hr
  obtain ⟨h1,h2⟩:=aI hr
  simp only[aM,ba,fy] at h1
  obtain ⟨rfl,pQ,hp3⟩:=h1
  have:=yw pQ
  subst this
  obtain ⟨kK,a,b,c⟩:=vW (P:=P) (w:=w) (I:=I) (β:=β) h2 (path.map fun p=>eR p.1)
  refine ⟨_,_,path.map fun p=>eR p.1,[],a,c,by simp[LS.size],fun I' μ hp0 i1 i2 ρ m dW dD rest=> ?_⟩
  obtain ⟨blk,k1,k2⟩:=dD j _ (by rw[dW];exact pW b)
  obtain ⟨bb,q,i,cc,t,l,rfl,hb,ht,hc⟩:=hv.Rk ab p1 p2 p3
  have sc:blk= .nest e0 es [0,0,0]∧μ j=β id:=by
   generalize μ j=o at k2
   cases k2 with
   | var h=>rw[ab] at h;cases h
   | arr h=>rw[ab] at h;cases h
   | map h=>rw[ab] at h;cases h
   | nest h=>rw[ab] at h;cases h;exact ⟨rfl,rfl⟩
  obtain ⟨rfl,kL⟩:=sc
  simp only[jB,GG]
  have hq:q.length<3:=by rw[dd,List.length_singleton] at hp3;omega
  refine .row k1 (kL.trans hb) (by simpa using hq) ?_ ht hc
  match q.length,hq with
  | 0,_=>rfl
  | 1,_=>rfl
  | 2,_=>rfl
 | cW j cs c=>cases hr
 | xG k n=>cases hr
 | dS t=>
  cases x<;>simp only at hr<;>first|(cases hr;done)|skip
  obtain ⟨h1,h2⟩:=aI hr
  cases hv with
  | dS=>exact qW h2 rfl fun _ _ _ _=> .dS
 | cm t j=>
  cases x<;>simp only at hr<;>first|(cases hr;done)|skip
  rename_i t' id
  obtain ⟨h1,h2⟩:=aI hr
  rw[ba] at h1
  subst h1
  obtain ⟨kK,a,b,c⟩:=vW (P:=P) (w:=w) (I:=I) (β:=β) h2 []
  refine ⟨_,_,[],[],a,by simpa using c,rfl,fun I' μ hp0 i1 i2 ρ m dW dD rest=> ?_⟩
  obtain ⟨blk,k1,k2⟩:=dD j _ (by rw[dW];exact pW b)
  exact adn hv k2 k1 rfl
 | list e=>
  obtain ⟨⟨y,u⟩,l1,l2,h1,h2⟩:=lV hr
  cases y<;>simp only at h2<;>first|(cases h2;done)|skip
  rename_i e' es
  obtain ⟨h3,h4⟩:=aI h2
  rw[ba] at h3
  subst h3
  obtain ⟨p1,p2⟩:=F3 S.h.rel h1 hv
  exact ⟨_,_,[.list e es],u,h4,⟨rfl,rfl,p1,⟨[],by simp⟩,id⟩,rfl,fun I' μ hp0 i1 i2 _ _ _ _ rest=> .list (p2 I' i1 i2)⟩
 | whole e j=>
  cases x<;>simp only at hr<;>first|(cases hr;done)|skip
  ·rename_i e' id
   obtain ⟨h1,h2⟩:=aI hr
   rw[ba] at h1
   subst h1
   obtain ⟨kK,a,b,c⟩:=vW (P:=P) (w:=w) (I:=I) (β:=β) h2 []
   refine ⟨_,_,[],[],a,by simpa using c,rfl,fun I' μ hp0 i1 i2 ρ m dW dD rest=> ?_⟩
   obtain ⟨blk,k1,k2⟩:=dD j _ (by rw[dW];exact pW b)
   exact adm hv k2 k1 rfl
  ·rename_i e' id ver path
   obtain ⟨h1,h2⟩:=aI hr
   rw[ba] at h1
   subst h1
   obtain ⟨kK,a,b,c⟩:=vW (P:=P) (w:=w) (I:=I) (β:=β) h2 []
   refine ⟨_,_,[],[],a,by simpa using c,rfl,fun I' μ hp0 i1 i2 ρ m dW dD rest=> ?_⟩
   obtain ⟨blk,k1,k2⟩:=dD j _ (by rw[dW];exact pW b)
   exact adq S hv k2 k1 rfl
 | sub e j=>
  cases x<;>simp only at hr<;>first|(cases hr;done)|skip
  rename_i e' id o n
  obtain ⟨h1,h2⟩:=aI hr
  rw[ba] at h1
  subst h1
  obtain ⟨kK,a,b,c⟩:=vW (P:=P) (w:=w) (I:=I) (β:=β) h2 [eR o,eR n]
  refine ⟨_,_,[eR o,eR n],[],a,c,rfl,fun I' μ hp0 i1 i2 ρ m dW dD rest=> ?_⟩
  obtain ⟨blk,k1,k2⟩:=dD j _ (by rw[dW];exact pW b)
  simpa[jB,V.nth] using ado (I':=I') hv k2 k1 rfl
 | ptr j=>
  cases x<;>simp only at hr<;>first|(cases hr;done)|skip
  rename_i id i c
  obtain ⟨kK,a,b,c'⟩:=vW (P:=P) (w:=w) (I:=I) (β:=β) hr [eR i,eR c]
  refine ⟨_,_,[eR i,eR c],[],a,c',rfl,fun I' μ hp0 i1 i2 ρ m dW dD rest=> ?_⟩
  obtain ⟨blk,k1,k2⟩:=dD j _ (by rw[dW];exact pW b)
  simpa[jB,V.nth] using SH (I':=I') hv k2 k1 rfl
 | eK j i c=>
  cases x<;>simp only at hr<;>first|(cases hr;done)|skip
  rename_i id i' c'
  obtain ⟨h1,h2⟩:=aI hr
  simp only[aM,ba] at h1
  obtain ⟨rfl,rfl⟩:=h1
  obtain ⟨kK,a,b,c'⟩:=vW (P:=P) (w:=w) (I:=I) (β:=β) h2 []
  refine ⟨_,_,[],[],a,by simpa using c',rfl,fun I' μ hp0 i1 i2 ρ m dW dD rest=> ?_⟩
  obtain ⟨blk,k1,k2⟩:=dD j _ (by rw[dW];exact pW b)
  exact SH hv k2 k1 rfl
end
section
variable {P:Program} {A:cX} {w w':World} {I I' I2:Nat→Prop} {μ β aq:Nat→Option Nat} {hp hp' hp0:Nat→Option ai} {C:ae} {B:Nat} {M:Nat→Prop} {w0:Start}
def nF (P:Program) (w:World) (I:Nat→Prop) (β:Nat→Option Nat) (hp:Nat→Option ai) (h':Hand) (u:List (Nat × ai)) (K:(Nat→Prop)→(Nat→Option Nat)→(Nat→Option ai)→Prop):Prop:=
 ∀(I':Nat→Prop) (μ:Nat→Option Nat) (hp0:Nat→Option ai),(∀b,I b→I' b)→(∀q∈u,∀b,ub P w β hp q.1 b→I' b)→∀ρ m,ρ=h'.pl++m→BE P w β hp ρ μ hp0→K I' μ hp0
theorem nF.later {h h':Hand} {d:List V} {u u':List (Nat × ai)} {K:(Nat→Prop)→(Nat→Option Nat)→(Nat→Option ai)→Prop} (t:nF P w I β hp h u K) (e:Ext P w I β hp h h' d u'):nF P w I β hp h' (u++u') K:=by
 obtain ⟨m1,e1⟩:=e.pl
 exact fun I' μ hp0 i1 i2 ρ m dW dD=>t I' μ hp0 i1 (fun q hq=>i2 q (eP.2 (.inl hq))) ρ (m1++m) (by rw[dW,e1,dk]) dD
theorem nF.more {h:Hand} {u u':List (Nat × ai)} {K:(Nat→Prop)→(Nat→Option Nat)→(Nat→Option ai)→Prop} (t:nF P w I β hp h u K):nF P w I β hp h (u'++u) K:=
 fun I' μ hp0 i1 i2 ρ m dW dD=>t I' μ hp0 i1 (fun q hq=>i2 q (eP.2 (.inr hq))) ρ m dW dD
theorem GJ (S:aH P w I β hp B M w0) {α:Type}: ∀{ls:List LS} {xs:List V} {h:Hand} {k:Hand→Rd α} {r:α} {rd:List Nat} {vs:List Value},(xO P ls xs h k).run C hp=some (r,rd)→vs.length=xs.length→
  (∀(j:Nat) v x,vs[j]? =some v→xs[j]? =some x→aj P w I β hp v x)→
  ∃h' fF d u,(k h').run C hp=some (r,fF)∧Ext P w I β hp h h' d u∧d.length=lg ls∧ls.length=xs.length∧
   nF P w I β hp h' u fun I' μ hp0=> ∀rest,(jc ls (d++rest)).length=xs.length∧∀(j:Nat) v y,vs[j]? =some v→(jc ls (d++rest))[j]? =some y→aj P w I' μ hp0 v y
 | [],[],h,k,r,rd,vs,hr,hl,hv=>⟨h,rd,[],[],hr,Ext.refl h,rfl,rfl,fun I' μ hp0 _ _ _ _ _ _ rest=>⟨rfl,fun j v y _ hy=>by simp[jc] at hy⟩⟩
 | [],_::_,h,k,r,rd,vs,hr,hl,hv=>by cases hr
 | _::_,[],h,k,r,rd,vs,hr,hl,hv=>by cases hr
 | l::ls,x::xs,h,k,r,rd,vs,hr,hl,hv=>by
  cases vs with
  | nil=>simp at hl
  | cons v vs=>
   simp only[xO] at hr
   obtain ⟨h1,ka,d1,u1,a1,a2,a3,a4⟩:=SI S hr (hv 0 v x rfl rfl)
   obtain ⟨h2,uo,d2,u2,b1,b2,b3,b5,b4⟩:=GJ S a1 (by simpa using hl) (vs:=vs) (fun j v x hj hx=>hv (j+1) v x (by simpa using hj) (by simpa using hx))
   have a4':nF P w I β hp h1 u1 fun I' μ hp0=> ∀rest,aj P w I' μ hp0 v (jB l (d1++rest)):=a4
   refine ⟨h2,uo,d1++d2,u1++u2,b1,a2.trans b2,by simp only[dd,lg];omega,by simp[b5],fun I' μ hp0 i1 i2 ρ m dW dD rest=> ?_⟩
   have k1:=(a4'.later b2) I' μ hp0 i1 i2 ρ m dW dD (d2++rest)
   obtain ⟨k2,k3⟩:=b4.more I' μ hp0 i1 i2 ρ m dW dD rest
   simp only[jc]
   rw[show (d1++d2++rest).drop l.size=d2++rest by rw[dk];exact oQ a3,dk]
   refine ⟨by simp[k2],fun j v' y hj hy=> ?_⟩
   cases j with
   | zero=>simp at hj hy;subst hj;subst hy;exact k1
   | succ j=>exact k3 j v' y (by simpa using hj) (by simpa using hy)
theorem ads (S:aH P w I β hp B M w0) {α:Type} {s:VS} {x:V} {h:Hand} {k:Hand→Rd α} {r:α} {rd:List Nat} {v:Value} (hr:(AS P s x h k).run C hp=some (r,rd)) (hv:aj P w I β hp v x):
  ∃h' fF d u,(k h').run C hp=some (r,fF)∧Ext P w I β hp h h' d u∧d.length=s.size∧
   nF P w I β hp h' u fun I' μ hp0=> ∀rest,aj P w I' μ hp0 v (lS s (d++rest)):=by
 cases s with
 | one l=>
  simp only[AS] at hr
  obtain ⟨h1,ka,d1,u1,a1,a2,a3,a4⟩:=SI S hr hv
  exact ⟨h1,ka,d1,u1,a1,a2,a3,a4⟩
 | agg ls=>
  cases x<;>simp only[AS] at hr<;>first|(cases hr;done)|skip
  rename_i xs
  obtain ⟨cs,rfl,e1,e2⟩:=hv.lW
  obtain ⟨h1,ka,d1,u1,a1,a2,a3,a5,a4⟩:=GJ S hr (vs:=cs.toList) (by simpa using e1) (fun j v x hj hx=>e2 j v x (by simpa using hj) hx)
  refine ⟨h1,ka,d1,u1,a1,a2,a3,fun I' μ hp0 i1 i2 ρ m dW dD rest=> ?_⟩
  obtain ⟨k1,k2⟩:=a4 I' μ hp0 i1 i2 ρ m dW dD rest
  exact .agg (by rw[k1];exact e1) fun j v y hj hy=>k2 j v y (by simpa using hj) hy
 | bx ls=>cases x<;>cases hr
 | pref ts ls=>cases x<;>cases hr
 | fn f a b=>
  cases x<;>simp only[AS] at hr<;>first|(cases hr;done)|skip
  rename_i f' xs ys
  obtain ⟨hc,pX⟩:=aI hr
  clear hr
  rw[ba] at hc
  subst hc
  cases hv with
  | @fn _ fs cs _ _ q1 q2 q3 q4=>
   obtain ⟨h1,ka,d1,u1,a1,a2,a3,a5,a4⟩:=GJ S pX (vs:=fs.toList) (by simpa using q1) (fun j v x hj hx=>q2 j v x (by simpa using hj) hx)
   obtain ⟨h2,uo,d2,u2,b1,b2,b3,b5,b4⟩:=GJ S a1 (vs:=cs.toList) (by simpa using q3) (fun j v x hj hx=>q4 j v x (by simpa using hj) hx)
   refine ⟨h2,uo,d1++d2,u1++u2,b1,a2.trans b2,by simp only[dd,VS.size];omega,fun I' μ hp0 i1 i2 ρ m dW dD rest=> ?_⟩
   obtain ⟨k1,k2⟩:=(a4.later b2) I' μ hp0 i1 i2 ρ m dW dD (d2++rest)
   obtain ⟨k3,k4⟩:=b4.more I' μ hp0 i1 i2 ρ m dW dD rest
   simp only[lS]
   rw[show (d1++d2++rest).drop (lg a)=d2++rest by rw[dk];exact oQ a3,dk]
   exact .fn (by rw[k1];exact q1) (fun j v y hj hy=>k2 j v y (by simpa using hj) hy) (by rw[k3];exact q3) (fun j v y hj hy=>k4 j v y (by simpa using hj) hy)
theorem LX (S:aH P w I β hp B M w0) {α:Type}: ∀{ls:List VS} {xs:List V} {h:Hand} {k:Hand→Rd α} {r:α} {rd:List Nat} {vs:List Value},(AT P ls xs h k).run C hp=some (r,rd)→vs.length=xs.length→
  (∀(j:Nat) v x,vs[j]? =some v→xs[j]? =some x→aj P w I β hp v x)→
  ∃h' fF d u,(k h').run C hp=some (r,fF)∧Ext P w I β hp h h' d u∧d.length=tT ls∧ls.length=xs.length∧
   nF P w I β hp h' u fun I' μ hp0=> ∀rest,(gl ls (d++rest)).length=xs.length∧∀(j:Nat) v y,vs[j]? =some v→(gl ls (d++rest))[j]? =some y→aj P w I' μ hp0 v y
 | [],[],h,k,r,rd,vs,hr,hl,hv=>⟨h,rd,[],[],hr,Ext.refl h,rfl,rfl,fun I' μ hp0 _ _ _ _ _ _ rest=>⟨rfl,fun j v y _ hy=>by simp[gl] at hy⟩⟩
 | [],_::_,h,k,r,rd,vs,hr,hl,hv=>by cases hr
 | _::_,[],h,k,r,rd,vs,hr,hl,hv=>by cases hr
 | l::ls,x::xs,h,k,r,rd,vs,hr,hl,hv=>by
  cases vs with
  | nil=>simp at hl
  | cons v vs=>
   simp only[AT] at hr
   obtain ⟨h1,ka,d1,u1,a1,a2,a3,a4⟩:=ads S hr (hv 0 v x rfl rfl)
   obtain ⟨h2,uo,d2,u2,b1,b2,b3,b5,b4⟩:=LX S a1 (by simpa using hl) (vs:=vs) (fun j v x hj hx=>hv (j+1) v x (by simpa using hj) (by simpa using hx))
   refine ⟨h2,uo,d1++d2,u1++u2,b1,a2.trans b2,by simp only[dd,tT];omega,by simp[b5],fun I' μ hp0 i1 i2 ρ m dW dD rest=> ?_⟩
   have k1:=(a4.later b2) I' μ hp0 i1 i2 ρ m dW dD (d2++rest)
   obtain ⟨k2,k3⟩:=b4.more I' μ hp0 i1 i2 ρ m dW dD rest
   simp only[gl]
   rw[show (d1++d2++rest).drop l.size=d2++rest by rw[dk];exact oQ a3,dk]
   refine ⟨by simp[k2],fun j v' y hj hy=> ?_⟩
   cases j with
   | zero=>simp at hj hy;subst hj;subst hy;exact k1
   | succ j=>exact k3 j v' y (by simpa using hj) (by simpa using hy)
def GK:List BS→Nat
 | []=>0
 | b::l=>b.size+GK l
theorem SJ: ∀{b:Nat} {e e':TypeId} {es:List V} {v:V},(∀q b' e' m,At P w b e es q b' e' m→j5 P w I b' e' m)→∀(path:Path),ld P e path=some e'→jA P e es path=some v→0<v.toList.length→
  ∃b1,At P w b e es path b1 e' v.toList
 | b,e,e',es,v,cK,[],ht,hv,hl=>by
  simp only[ld,dZ] at ht
  simp only[jA,dZ] at hv
  subst ht;subst hv
  exact ⟨b,.here⟩
 | b,e,e',es,v,cK,(i,c)::q,ht,hv,hl=>by
  simp only[ld] at ht
  simp only[jA] at hv
  obtain ⟨x,hx,hv⟩:=bind_some hv
  cases LY:(ld.AI P e)[c]? with
  | none=>rw[LY] at ht;cases ht
  | some t=>
   rw[LY] at ht
   simp only at ht
   have GL:(bd P e)[c]? =some t:=LY
   cases hu:P.underlying t with
   | none=>rw[hu] at ht;cases ht
   | some d=>
    rw[hu] at ht
    cases d<;>simp only at ht<;>first|(cases ht;done)|skip
    rename_i e1
    rw[oF GL] at hv
    have hR:=cK _ _ _ _ .here
    obtain ⟨Ca,c1,c2,c3⟩:=hR.cells
    have vD:c<P.cellsOf e:=by rw[←gp hR.ok];exact (bH.1 GL).1
    obtain ⟨u,d1,d2⟩:=c3 i c x t hx GL vD
    rw[d2.ud] at hv
    generalize hy:b7 P e x c=y at d2 hv
    cases d2 with
    | gF a p=>unfold gB at a;rw[hu] at a;cases a
    | @emp e2 a cap qX ha=>
     rw[hu] at qX;cases qX
     simp only at hv
     cases q with
     | nil=>simp only[jA,dZ] at hv;subst hv;simp[V.toList] at hl
     | cons a q=>simp[jA] at hv
    | @row e2 cz b2 cap qX nv bn cA pN=>
     rw[hu] at qX;cases qX
     simp only at hv
     have jl: ∀{q b' e' aQ},At P w b2 e1 cz q b' e' aQ→At P w b e es ((i,c)::q) b' e' aQ:=fun h=> .step c1 hx GL hu hy nv d1 h
     obtain ⟨b1,mF⟩:=SJ (fun q b' e' m h=>cK _ _ _ _ (jl h)) q ht hv hl
     exact ⟨b1,jl mF⟩
theorem SK (S:aH P w I β hp B M w0) {α:Type}: ∀{bs:List BS} {j:Nat} {h:Hand} {k:Hand→Rd α} {r:α} {rd:List Nat},(rS P bs j h k).run C hp=some (r,rd)→
  ∃h' fF d u,(k h').run C hp=some (r,fF)∧Ext P w I β hp h h' d u∧d.length=GK bs∧
   ∀rest,(fo bs (d++rest)).length=bs.length∧∃o:Nat→Option Nat,
    (∀(i:Nat) blk,(fo bs (d++rest))[i]? =some blk→∃p,eS h'.pl (j+i)=some p∧eN P w β hp p (o i) blk)∧
    nF P w I β hp h' u fun I' μ hp0=> ∀(i:Nat) blk,(fo bs (d++rest))[i]? =some blk→(∀b,bK P w (o i) blk b→¬I' b)→eM P w I' μ hp0 (o i) blk
 | [],j,h,k,r,rd,hr=>⟨h,rd,[],[],hr,Ext.refl h,rfl,fun rest=>⟨rfl,fun _=>none,fun i blk hb=>by simp[fo] at hb,fun I' μ hp0 _ _ _ _ _ _ i blk hb=>by simp[fo] at hb⟩⟩
 | b::bs,j,h,k,r,rd,hr=>by
  simp only[rS] at hr
  have fin: ∀{h1:Hand} {ka:List Nat} {d1:List V} {u1:List (Nat × ai)} {o1:Option Nat} {p:Place},(rS P bs (j+1) h1 k).run C hp=some (r,ka)→Ext P w I β hp h h1 d1 u1→d1.length=b.size→eS h.pl j=some p→
    (∀rest,eN P w β hp p o1 (gC b (d1++rest)))→(∀rest,nF P w I β hp h1 u1 fun I' μ hp0=>(∀bb,bK P w o1 (gC b (d1++rest)) bb→¬I' bb)→eM P w I' μ hp0 o1 (gC b (d1++rest)))→
    ∃h' fF d u,(k h').run C hp=some (r,fF)∧Ext P w I β hp h h' d u∧d.length=GK (b::bs)∧
     ∀rest,(fo (b::bs) (d++rest)).length=(b::bs).length∧∃o:Nat→Option Nat,
      (∀(i:Nat) blk,(fo (b::bs) (d++rest))[i]? =some blk→∃p,eS h'.pl (j+i)=some p∧eN P w β hp p (o i) blk)∧
      nF P w I β hp h' u fun I' μ hp0=> ∀(i:Nat) blk,(fo (b::bs) (d++rest))[i]? =some blk→(∀b,bK P w (o i) blk b→¬I' b)→eM P w I' μ hp0 (o i) blk:=by
   intro h1 ka d1 u1 o1 p hk he hd bI hl ht
   obtain ⟨h2,uo,d2,u2,b1,b2,b3,b4⟩:=SK S hk
   refine ⟨h2,uo,d1++d2,u1++u2,b1,he.trans b2,by simp only[dd,GK];omega,fun rest=> ?_⟩
   obtain ⟨c1,o,c2,c3⟩:=b4 rest
   simp only[fo]
   rw[show (d1++d2++rest).drop b.size=d2++rest by rw[dk];exact oQ hd,dk]
   refine ⟨by simp[c1],fun i=>match i with|0=>o1|i+1=>o i,fun i blk hb=> ?_,fun I' μ hp0 i1 i2 ρ m dW dD i blk hb dj=> ?_⟩
   ·cases i with
    | zero=>
     simp at hb
     subst hb
     exact ⟨p,b2.look (he.look bI),hl _⟩
    | succ i=>
     obtain ⟨q,e1,e2⟩:=c2 i blk (by simpa using hb)
     exact ⟨q,by rw[show j+(i+1)=j+1+i by omega];exact e1,e2⟩
   ·cases i with
    | zero=>
     simp at hb
     subst hb
     exact ((ht _).later b2) I' μ hp0 i1 i2 ρ m dW dD dj
    | succ i=>exact c3.more I' μ hp0 i1 i2 ρ m dW dD i blk (by simpa using hb) dj
  cases bI:eS h.pl j with
  | none=>rw[bI] at hr;cases hr
  | some p=>
   rw[bI] at hr
   cases p with
   | blk id=>
    obtain ⟨l1,hr⟩:=run_get hr
    cases ab:hp id with
    | none=>rw[ab] at hr;cases hr
    | some blk=>
     rw[ab] at hr
     cases blk with
     | dead=>cases hr
     | var T0 cs=>
      cases b<;>simp only at hr<;>first|(cases hr;done)|skip
      rename_i T1 ss
      obtain ⟨hT,hr1⟩:=aI hr
      clear hr
      rw[ba] at hT
      subst hT
      have cY:=S.h.rel id _ ab
      generalize ho:β id=o at cY
      cases cY with
      | @var _ bb Ca T hb hh hs hI hx g9=>
       obtain ⟨h1,ka,d1,u1,a1,a2,a3,a5,a4⟩:=LX S hr1 (vs:=Ca.toList) (by simpa using hs) (fun j v x hj cR=>hx j v x (by simpa using hj) cR)
       refine fin (o1:=β id) a1 a2 a3 bI (fun rest=> .var ab) fun rest I' μ hp0 i1 i2 ρ m dW dD dj=> ?_
       obtain ⟨k1,k2⟩:=a4 I' μ hp0 i1 i2 ρ m dW dD rest
       exact .var (ho.trans hb) hh (by rw[k1];exact hs) (dj _ (.root (by simp[gC]) (ho.trans hb))) (fun i v y hi hy=>k2 i v y (by simpa using hi) hy) g9
     | arr e' es fz=>
      cases fz with
      | true=>cases hr
      | false=>
       cases b with
       | arr e fz=>
        cases fz with
        | true=>cases hr
        | false=>
         obtain ⟨hc,pX⟩:=aI hr
         clear hr
         rw[ba] at hc
         subst hc
         refine fin (d1:=[.list e es]) (o1:=β id) pX (Ext.leaf h _) rfl bI (fun rest=>eN.arr ab) fun rest I' μ hp0 i1 i2 ρ m dW dD dj=> ?_
         change eM P w I' μ hp0 (β id) (.arr e es false)
         have cY:=S.h.rel id _ ab
         generalize ho:β id=o at cY dj⊢
         cases cY with
         | eu hb=>exact .eu hb
         | arr a1 a2 a3 a4 a5 a6 a7=>
          refine .arr a1 a2 a3 a4 (fun h=>by cases h) (fun _=>dj _ (.root (by simp[gC]) a2)) fun i j x t' y1 y2 y3=> ?_
          obtain ⟨v,z1,z2⟩:=a7 i j x t' y1 y2 y3
          exact ⟨v,z1,z2.mono i1 fun _ _=>rfl⟩
       | _=>cases hr
     | nest e' es ak=>
      cases b with
      | nest e=>
       obtain ⟨hc,pX⟩:=aI hr
       clear hr
       rw[ba] at hc
       subst hc
       refine fin (d1:=[.list e es]) (o1:=β id) pX (Ext.leaf h _) rfl bI (fun rest=>eN.nest ab) fun rest I' μ hp0 i1 i2 ρ m dW dD dj=> ?_
       have SM: ∀bb,bK P w (β id) (.nest e es [0,0,0]) bb→¬I' bb:=dj
       change eM P w I' μ hp0 (β id) (.nest e es [0,0,0])
       have cY:=S.h.rel id _ ab
       generalize ho:β id=o at cY SM⊢
       cases cY with
       | nest hb cK pR=>
        refine .nest hb (fun q b' e1 m1 hq=> ?_) pR
        obtain ⟨ok,⟨Ca,c1,c2,c3⟩,nI⟩:=cK q b' e1 m1 hq
        refine ⟨ok,⟨Ca,c1,c2,fun i j x t' y1 y2 y3=> ?_⟩,SM _ (.row hb hq)⟩
        obtain ⟨v,z1,z2⟩:=c3 i j x t' y1 y2 y3
        exact ⟨v,z1,z2.mono i1 (fun _ _=>rfl) fun _ _ _ _ _=>rfl⟩
      | _=>cases hr
     | map t' es=>
      cases b with
      | map t=>
       obtain ⟨hc,pX⟩:=aI hr
       clear hr
       rw[ba] at hc
       subst hc
       refine fin (d1:=[.list t es]) (o1:=β id) pX (Ext.leaf h _) rfl bI (fun rest=>eN.map ab) fun rest I' μ hp0 i1 i2 ρ m dW dD dj=> ?_
       change eM P w I' μ hp0 (β id) (.map t es)
       have cY:=S.h.rel id _ ab
       generalize ho:β id=o at cY dj⊢
       cases cY with
       | map a1 a2 a3 a4 a5 a6 a7=>exact .map a1 a2 a3 a4 (dj _ (.root (by simp[gC]) a2)) a6 a7
      | _=>cases hr
   | row id ver path=>
    obtain ⟨e0,es,ak,l1,k1,k2,k3,k4,k5⟩:=pM hr
    obtain ⟨e',vv,m1,m2,m3⟩:=xW k5
    cases b with
    | arr e fz=>
     cases fz with
     | true=>cases m3
     | false=>
      obtain ⟨hc,m4⟩:=aI m3
      clear m3
      simp only[aM,ba,kW] at hc
      obtain ⟨rfl,BF,nv⟩:=hc
      have cY:=S.h.rel id _ k1
      cases hb:β id with
      | none=>
       rw[hb] at cY
       cases cY with
       | nest az _ _=>cases az
      | some b0=>
       rw[hb] at cY
       cases cY with
       | nest az cK pR=>
        cases az
        obtain ⟨b1,dN⟩:=SJ cK path m1 m2 nv
        refine fin (d1:=[.list e vv.toList]) (o1:=some b1) m4 (Ext.leaf h _) rfl bI (fun rest=>eN.row k1 hb dN BF k2 k3 k4 nv) fun rest I' μ hp0 i1 i2 ρ m dW dD dj=> ?_
        change eM P w I' μ hp0 (some b1) (.arr e vv.toList false)
        obtain ⟨ok,⟨Ca,c1,c2,c3⟩,nI⟩:=cK _ _ _ _ dN
        refine .arr ok rfl c1 c2 (fun h=>by cases h) (fun _=>dj _ (.root (by simp[gC]) rfl)) fun i j x t' y1 y2 y3=> ?_
        obtain ⟨v,z1,z2⟩:=c3 i j x t' y1 y2 y3
        refine ⟨v,z1,?_⟩
        generalize b7 P e x j=y at z2⊢
        cases z2 with
        | gF _ p=>exact p.mono i1 fun _ _=>rfl
        | emp hu _=>exact absurd hu (SN BF y2 _)
        | row hu _ _ _ _=>exact absurd hu (SN BF y2 _)
    | _=>cases m3
where
 SN {e t:TypeId} {j:Nat} (h:AO P e=true) (ht:(bd P e)[j]? =some t) (e':TypeId):P.underlying t≠some (.slice e'):=by
  intro hu
  have h2:=gi.1 h t (jU ht)
  rw[hu] at h2
  cases h2
end
end Go.AM
