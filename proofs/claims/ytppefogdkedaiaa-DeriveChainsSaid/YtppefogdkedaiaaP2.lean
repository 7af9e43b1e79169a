/-
  Functions of the program, lifted to plain data.
-/
import Derived.Great.BuildSlice
import Derived.Maps.Keyed
import Derived.WideKeyArr
import Derived.MapKept
import Derived.ChangeMaps4
import Derived.Carry
import Derived.Lib.AppendStr
import Derived.Laws.BytesString
import Derived.Lib.Builder
import Derived.Lib.UnsafeStr
import Derived.Test.YtppefogdkedaiaaP1
set_option linter.unusedVariables false
set_option linter.unusedSimpArgs false
namespace Go.AM
section
variable {P:Program} {w w':World} {I I':Nat→Prop} {β β':Nat→Option Nat} {hp hp':Nat→Option an} {C:ag} {B:Nat} {M:Nat→Prop} {w0:Start}
theorem UM (S:aE P w I β hp B M w0) {t:TypeId} {a v:Value} {xa x:V} {r:R} {rd:List Nat} (ha:ao P w I β hp a xa) (hv:ao P w I β hp v x)
  (h:(Fm P t xa x).run C hp=some (r,rd)):oI P ((Instr.storeAt t a v).run P w) w I β hp B M w0 r:=by
 unfold Fm at h
 obtain ⟨h0,h⟩:=aF h
 simp only[aI,aP] at h0
 obtain ⟨ht,hn⟩:=h0
 cases xa with
 | ptr id i c=>
  obtain ⟨l,h⟩:=run_get h
  cases ab:hp id with
  | none=>rw[ab] at h;cases h
  | some blk=>
   rw[ab] at h
   cases blk with
   | dead=>cases h
   | var T0 cs=>
    obtain ⟨Lh,h⟩:=aF h
    have lG:oz P T0=true→0<c:=fun bL=>by
     rw[bL] at Lh
     simpa using Lh
    obtain ⟨b,hb,rfl⟩:=ha.gv ab (by simp)
    simp only[an.sz,Nat.mul_zero,gi]
    cases oH:(xC P t cs&&eu P t x) with
    | true=>
     dsimp only at h
     rw[oH] at h
     simp only[cond_true] at h
     obtain ⟨hc,h⟩:=aF h
     obtain rfl:=aM h
     simp only[aI,jw] at hc oH
     obtain ⟨o1,o2⟩:=K9 hv oH.2
     have kU:=Ur oH.2
     refine K8 S ab hb ht hn (by rw[o2,kU];rfl) lG (fun j u y hu hy=> ?_) (by rw[o2];simp[o1]) (by rw[kU];simp;omega) (K7 _ _ _ _) (fun j y hy hj u hu=> ?_) (fun j y hy hj u hu=> ?_)
     ·rw[o2] at hu
      rw[kU] at hy
      cases j with
      | zero=>simp at hu hy;subst hu;subst hy;exact hv
      | succ j=>simp at hy
     ·rw[F2] at hy
      cases va:cs[j]? with
      | none=>rw[va] at hy;cases hy
      | some y0=>
       rw[va] at hy
       simp only[Option.map_some,dD] at hy
       rw[kU] at hj
       simp only[List.length_singleton] at hj
       have bw:Nat.beq c (0+j)=false:=by
        cases hq:Nat.beq c (0+j) with
        | false=>rfl
        | true=>rw[aP] at hq;omega
       rw[bw] at hy
       have:=KW (c:=false) hv (hu y0 va)
       rw[←hy]
       simpa using this
     ·rw[kU] at hj hu
      have UN:j=0:=by simpa using hj
      subst UN
      rw[F2] at hy
      cases va:cs[c+0]? with
      | none=>rw[va] at hy;cases hy
      | some y0=>
       rw[va] at hy
       simp only[Option.map_some,dD] at hy
       have heq:Nat.beq c (0+(c+0))=true:=by rw[aP];omega
       rw[heq] at hy
       have U:ao P w I β hp u x:=hu x rfl
       have:qQ true x y0=x:=Us x y0
       rw[←hy,this]
       exact U
    | false=>
     dsimp only at h
     rw[oH] at h
     simp only[cond_false] at h
     obtain ⟨hc,h⟩:=aF h
     simp only[aI,dC] at hc
     obtain ⟨e1,e2⟩:=F0 hv h
     obtain ⟨h1,l2,h⟩:=B0 h (vs:=v.cells.toList) (by simpa using e1) (fun j u y a b=>e2 j u y (by simpa using a) b)
     obtain rfl:=aM h
     refine K8 S ab hb ht hn e1 lG e2 h1 hc.2 (yj _ _ _ hc.2) (fun j y hy hj u hu=> ?_) (fun j y hy hj u hu=> ?_)
     ·unfold fg at hy
      rw[mG _ _ _ _ hc.2] at hy
      rcases hj with hj|hj
      ·rw[aj hj] at hy;exact hu y hy
      ·rw[ai (by omega),ai (by omega)] at hy;exact hu y hy
     ·unfold fg at hy
      rw[mG _ _ _ _ hc.2,ai (by omega),aj (by omega)] at hy
      rw[show c+j-c=j by omega] at hy
      exact hu y hy
   | arr e es fz=>
    cases fz with
    | true=>cases h
    | false=>
    obtain ⟨b,hb,rfl⟩:=ha.gv ab (by simp)
    obtain ⟨au,h⟩:=aF h
    obtain ⟨⟨ys,fr⟩,l1,l2,bh,h⟩:=kb h
    obtain ⟨hc,h⟩:=aF h
    obtain ⟨x0,pZ,h⟩:=kS h
    obtain rfl:=aM h
    simp only[aI,mh,dC] at hc
    obtain ⟨dq,UO,ig⟩:=hc
    have oK:v.cells.size=x.cells.length∧∀(j:Nat) u y,v.cells.toList[j]? =some u→x.cells[j]? =some y→ao P w I β hp u y:=by
     cases x with
     | agg xs=>
      obtain ⟨cs,rfl,h1,U⟩:=hv.kf
      exact ⟨h1,fun j u y a b=>U j u y (by simpa[Value.cells] using a) b⟩
     | _=>
      simp only[V.cells] at bh ig⊢
      simp only[qP] at bh
      obtain ⟨⟨y1,u1⟩,l3,l4,hq,bh⟩:=kb bh
      obtain ⟨q1,q2⟩:=BN S.h.rel hq hv
      obtain ⟨⟨y2,u2⟩,l5,l6,yr,bh⟩:=kb bh
      cases yr
      have:=aM bh
      cases this
      obtain ⟨tl,tg⟩:=sK ig
      have e9:=tg 0 _ y1 (bE (by rw[tl];exact Nat.one_pos)) rfl
      have bK:=q2 (ik P w I β hp u1) (fun _ h=> .inl h) (fun p hp b h=> .inr ⟨p,hp,h⟩)
      have ho:=bK.pure e9
      have Gg:v.cells= #[v]:=by cases ho<;>rfl
      rw[Gg]
      refine ⟨rfl,fun j u y hu hy=> ?_⟩
      cases j with
      | zero=>simp at hu hy;subst hu;subst hy;exact hv
      | succ j=>simp at hy
    obtain ⟨k1,k2,k3⟩:=FT S.h.rel bh (vs:=v.cells.toList) (by simpa using oK.1) oK.2
    obtain ⟨pX,S1⟩:=yd S k2
    have yq:bA hp fr id=some (.arr e es false):=by
     rcases sE (hp:=hp) (l:=fr) (id:=id) with h|⟨b',hm,_⟩
     ·exact h.trans ab
     ·exfalso
      have UP:jz (fr.map (·.1)) id=true:=u3 (gj.2 ⟨_,hm,rfl⟩)
      rw[UP] at dq;cases dq
    have Li:=k3 (ik P w I β hp fr) (fun _ h=> .inl h) (fun p hp b h=> .inr ⟨p,hp,h⟩)
    obtain ⟨tl,tg⟩:=sK ig
    have uV:=(jH au).1
    have sN:ys.length=v.cells.size:=by rw[k1,oK.1]
    have hcn:c+v.cells.size≤P.cellsOf e:=by rw[oK.1];exact UO
    have hr:=S1.h.rel id _ yq
    cases hr with
    | dp az=>simp at pZ
    | @arr _ _ _ b' Ca FZ az hh hs hf dQ hx=>
     rw[hb] at az
     cases az
     have kV:i<es.length:=(bj.1 pZ).1
     have hbound:i*P.cellsOf e+P.cellsOf e≤Ca.size:=by
      have:(i+1)*P.cellsOf e≤es.length*P.cellsOf e:=di _ kV
      rw[cZ] at this
      omega
     simp only[an.sz]
     have rj:i*P.cellsOf e+c+v.cells.size≤Ca.size:=by omega
     have cC: ¬ik P w I β hp fr b:=dQ rfl
     have h1: ∀u∈v.cells.toList,u.oneCell'=true:=by
      intro u hu
      obtain ⟨j,hj⟩:=qJ hu
      have bV:j<ys.length:=by rw[sN];simpa using (bj.1 hj).1
      have nG:j<(((flat P e).drop c).take x.cells.length).length:=by rw[tl];exact bV
      exact (Li j u ys[j] hj (bE bV)).one (tg j _ ys[j] (bE nG) (bE bV))
     have cI:=F1 (t:=t) (o:=i*P.cellsOf e+c) (v:=v) ht (by rw[oK.1];exact hn.symm) hh rj h1
     have hlen:(Ca.toList.take (i*P.cellsOf e+c)++(v.cells.toList++Ca.toList.drop (i*P.cellsOf e+c+v.cells.toList.length))).length=Ca.size:=by
      rw[yj _ _ _ (by simpa using rj)];simp
     have bK:(parts P e x0).length=P.cellsOf e:=by rw[uY];exact e8 au
     have yk:=B1 S1 (blk':= .arr e (es.set i (cd P e (fg (parts P e x0) c ys))) false)
      (Cb:=(Ca.toList.take (i*P.cellsOf e+c)++(v.cells.toList++Ca.toList.drop (i*P.cellsOf e+c+v.cells.toList.length))).toArray) yq (by simp) ⟨rfl,by simp⟩ hb cC (by simp) hh (by simpa using hlen)
      (fun hle ey=> .arr au rfl ey (by simp only[pn,nk];omega) (fun h=>by cases h) (fun _=>cC) fun i' j z t' hz nG hj=>by
       simp only[mi]
       rw[mG _ _ _ _ (by simpa using rj)]
       simp only[Array.length_toList]
       rw[List.getElem?_set] at hz
       by_cases iu:i=i'
       ·subst iu
        rw[aj rfl,aj kV] at hz
        cases hz
        have Cf:j<(parts P e x0).length:=by omega
        have sO:(fg (parts P e x0) c ys)[j]? =if j<c then (parts P e x0)[j]? else if j<c+ys.length then ys[j-c]? else (parts P e x0)[j]? :=by
         unfold fg;exact mG _ _ _ _ (by omega)
        by_cases pS:j<c
        ·rw[aj (by omega)]
         rw[aj pS] at sO
         obtain ⟨u,t2,a1,a2,a3⟩:=BX hx au pZ (bE Cf)
         rw[nG] at a1;cases a1
         refine ⟨u,by simpa using a2,?_⟩
         rw[pT (sO.trans (bE Cf)) nG]
         exact a3.mono hle.cV hle.bU
        ·rw[ai pS] at sO
         by_cases fH:j<c+ys.length
         ·rw[aj fH] at sO
          rw[ai (by omega),aj (by omega)]
          have oL:j-c<ys.length:=by omega
          have Lj:j-c<v.cells.toList.length:=by simp;omega
          have af5:j-c<v.cells.size:=by omega
          refine ⟨v.cells.toList[j-c],?_,?_⟩
          ·rw[show i*P.cellsOf e+j-(i*P.cellsOf e+c)=j-c by omega]
           exact bE Lj
          ·rw[pT (sO.trans (bE oL)) nG]
           have UQ:(((flat P e).drop c).take x.cells.length)[j-c]? =some t':=by
            rw[eD (by omega),gI,show c+(j-c)=j by omega,←rf]
            exact nG
           exact ((Li (j-c) _ ys[j-c] (bE Lj) (bE oL)).pure (tg (j-c) t' ys[j-c] UQ (bE oL))).mono hle.cV hle.bU
         ·rw[ai fH] at sO
          rw[ai (by omega),ai (by omega)]
          obtain ⟨u,t2,a1,a2,a3⟩:=BX hx au pZ (bE Cf)
          rw[nG] at a1;cases a1
          refine ⟨u,by simpa using a2,?_⟩
          rw[pT (sO.trans (bE Cf)) nG]
          exact a3.mono hle.cV hle.bU
       ·rw[ai iu] at hz
        obtain ⟨u,a2,a3⟩:=hx i' j z t' hz nG hj
        have bw:i'*P.cellsOf e+j<i*P.cellsOf e+c∨i*P.cellsOf e+c+v.cells.size≤i'*P.cellsOf e+j:=by
         rcases ou i' i with aO|oM
         ·left
          have:(i'+1)*P.cellsOf e≤i*P.cellsOf e:=di _ aO
          rw[cZ] at this
          omega
         ·right
          have:(i+1)*P.cellsOf e≤i'*P.cellsOf e:=di _ (by omega)
          rw[cZ] at this
          omega
        refine ⟨u,?_,a3.mono hle.cV hle.bU⟩
        rcases bw with bw|bw
        ·rw[aj bw];simpa using a2
        ·rw[ai (by omega),ai (by omega)];simpa using a2)
     exact ⟨_,_,_,cI,pX.trans yk.1,yk.2,rfl⟩
   | map _ _=>cases h
   | nest e es aq=>
    obtain ⟨b,hb,rfl⟩:=ha.gv ab (by simp)
    exact Lg S ht hn hv ab hb .here h
 | cm id ver path i c=>
  obtain ⟨e0,es,aq,l,ab,h1,U,h3,h⟩:=nB h
  obtain ⟨b,b1,e1,l1,hb,cW,rfl⟩:=ha.KT ab h1 U h3
  exact Lg S ht hn hv ab hb cW h
 | _=>cases h
end
section
variable {P:Program} {w w':World} {I I':Nat→Prop} {β β':Nat→Option Nat} {hp hp':Nat→Option an} {C:ag} {B:Nat} {M:Nat→Prop} {w0:Start}
theorem Gh: ∀{ts:List TypeId} {vs:List Value} {j:Nat} {y:V},(iJ P ts vs)[j]? =some y→∃t v,ts[j]? =some t∧vs[j]? =some v∧y=oy P t v
 | [],vs,j,y,h=>by simp[iJ] at h
 | _::_,[],j,y,h=>by simp[iJ] at h
 | t::ts,v::vs,0,y,h=>by simp[iJ] at h;exact ⟨t,v,rfl,rfl,h.symm⟩
 | t::ts,v::vs,j+1,y,h=>by
  simp only[iJ,List.getElem?_cons_succ] at h
  obtain ⟨t',v',a,b,c⟩:=Gh h
  exact ⟨t',v',by simpa using a,by simpa using b,c⟩
theorem Lk: ∀{ts:List TypeId} {vs:List Value},ts.length=vs.length→(iJ P ts vs).length=vs.length
 | [],[],_=>rfl
 | [],_::_,h=>by simp at h
 | _::_,[],h=>by simp at h
 | t::ts,v::vs,h=>by simp[iJ,Lk (ts:=ts) (vs:=vs) (by simpa using h)]
theorem jK {e:TypeId} (h:cD P e=true): ∃i z,P.info? e=some i∧i.zero=some z∧i.size=P.cellsOf e∧z.cells.size=P.cellsOf e∧zeroCells P e=iJ P (flat P e) z.cells.toList:=by
 unfold cD at h
 simp only[aI,aP,jw] at h
 obtain ⟨h1,U,_,h3⟩:=h
 cases hi:P.info? e with
 | none=>rw[hi] at h3;cases h3
 | some i=>
  rw[hi] at h3
  simp only[Option.bind_some] at h3
  cases hz:i.zero with
  | none=>rw[hz] at h3;cases h3
  | some z=>
   rw[hz] at h3
   simp only[aP] at h3
   exact ⟨i,z,rfl,hz,by simp[Program.cellsOf,hi],h3,by simp[zeroCells,hi,hz]⟩
theorem Ll {e:TypeId} (h:cD P e=true): ∃i z,P.info? e=some i∧i.zero=some z∧z.cells.size=(zeroCells P e).length∧z.cells.size=P.cellsOf e∧
  ∀(j:Nat) v x,z.cells[j]? =some v→(zeroCells P e)[j]? =some x→ao P w I β hp v x:=by
 obtain ⟨i,z,h1,U,h3,h4,h5⟩:=jK h
 have hl:(flat P e).length=z.cells.toList.length:=by rw[(jH h).1];simpa using h4.symm
 refine ⟨i,z,h1,U,?_,h4,fun j v x hv hx=> ?_⟩
 ·rw[h5,Lk hl];simp
 ·rw[h5] at hx
  obtain ⟨t,v',_,uZ,rfl⟩:=Gh hx
  have:v'=v:=by
   have e1:z.cells[j]? =some v':=by simpa using uZ
   rw[hv] at e1;exact (cP e1).symm
  subst this
  exact ao.const t v'
theorem mI {nb:Nat} {b:an} {v:V} {upd:List (Nat × an)} {r:R} {rd:List Nat} (h:(iK nb b v upd).run C hp=some (r,rd)):hp nb=none∧r=⟨v,(nb,b)::upd⟩:=by
 obtain ⟨l,h⟩:=run_get h
 cases hn:hp nb with
 | none=>rw[hn] at h;exact ⟨rfl,(aM h).symm⟩
 | some x=>rw[hn] at h;cases h
theorem Lm (S:aE P w I β hp B M w0) {nb:Nat} {xs:List V} {C0:Array Value} {T:TypeId} (hn:hp nb=none) (hs:C0.size=xs.length)
  (hx: ∀(j:Nat) v x,C0[j]? =some v→xs[j]? =some x→ao P w I β hp v x) (fG:KO P w.heap.size T C0):
  Le P w I β hp (w.alloc (.cells C0 T)) I (aH β nb (some w.heap.size)) (aH hp nb (some (.var T xs)))∧aE P (w.alloc (.cells C0 T)) I (aH β nb (some w.heap.size)) (aH hp nb (some (.var T xs))) B M w0∧
  ao P (w.alloc (.cells C0 T)) I (aH β nb (some w.heap.size)) (aH hp nb (some (.var T xs))) (.pointer (some ⟨w.heap.size,0,none⟩)) (.ptr nb 0 0):=by
 obtain ⟨h1,U⟩:=FV S (blk:= .var T xs) (c:=C0) (T:=T) hn (fun b' h=>(cP (h.flat (by simp))).symm) (fun hle ey cC=> .var rfl ey hs cC (fun j v x a b=>(hx j v x a b).mono hle) fG)
 refine ⟨h1,U,?_⟩
 have:=ao.ptr (P:=P) (w:=w.alloc (.cells C0 T)) (I:=I) (β:=aH β nb (some w.heap.size)) (hp:=aH hp nb (some (.var T xs))) (i:=0) (c:=0) (blk:= .var T xs) (cH _ _ _) (by simp) (cH _ _ _)
 simpa using this
theorem UR (S:aE P w I β hp B M w0) {e:TypeId} {nb:Nat} {r:R} {rd:List Nat}
  (h:(Rd.aB (cD P e&&(!(oz P e)||KJ (zeroCells P e))) (iK nb (.var e (zeroCells P e)) (.ptr nb 0 0) [])).run C hp=some (r,rd)):cK P ((Instr.alloc e true (.tuple #[])).run P w) w I β hp B M w0 r:=by
 obtain ⟨au,h⟩:=aF h
 rw[aI] at au
 obtain ⟨au,lG⟩:=au
 obtain ⟨hn,rfl⟩:=mI h
 obtain ⟨i,z,h1,U,h3,h4,h5⟩:=Ll (w:=w) (I:=I) (β:=β) (hp:=hp) au
 obtain ⟨a,b,c⟩:=Lm S (T:=e) hn h3 h5 fun bL=>by
  rw[bL,po,Bool.false_or] at lG
  cases hz:zeroCells P e with
  | nil=>rw[hz] at lG;cases lG
  | cons y l=>
   rw[hz] at lG h3 h5
   cases y<;>first|(cases lG;done)|skip
   have aO:0<z.cells.size:=by rw[h3];simp
   have:=h5 0 z.cells[0] .c6 (jZ aO) rfl
   left
   rw[jZ aO]
   generalize z.cells[0]=u at this
   cases this;rfl
 exact ⟨_,_,_,_,by simp[Instr.alloc,zeroValue,typeInfo,h1,U,newVar,newRow],a,b,c⟩
theorem US (S:aE P w I β hp B M w0) {e:TypeId} {nb:Nat} {x:V} {v:Value} {r:R} {rd:List Nat} (hv:ao P w I β hp v x)
  (h:(Rd.aB (!(oz P e)) <| kM x.cells (iK nb (.var e x.cells) (.ptr nb 0 0) [])).run C hp=some (r,rd)):cK P ((Instr.box e v).run P w) w I β hp B M w0 r:=by
 obtain ⟨lG,h⟩:=aF h
 obtain ⟨e1,e2⟩:=F0 hv h
 obtain ⟨_,l,h⟩:=B0 h (vs:=v.cells.toList) (by simpa using e1) (fun j u y a b=>e2 j u y (by simpa using a) b)
 obtain ⟨hn,rfl⟩:=mI h
 obtain ⟨a,b,c⟩:=Lm S (T:=e) hn e1 e2 fun bL=>by rw[bL] at lG;cases lG
 exact ⟨_,_,_,_,by simp[Instr.box,newVar,newRow],a,b,c⟩
theorem foldl_set (off:Nat): ∀(vs:List Value) (k:Nat) (cs:Array Value) (i:Nat),off+k+vs.length≤cs.size→
  ((vs.zipIdx k).foldl (fun cs p=>cs.setIfInBounds (off+p.2) p.1) cs)[i]? =if i<off+k then cs[i]? else if i<off+k+vs.length then vs[i-(off+k)]? else cs[i]?
 | [],k,cs,i,h=>by simp;intro h1 U;omega
 | v::vs,k,cs,i,h=>by
  simp only[List.zipIdx_cons,List.foldl_cons]
  simp only[List.length_cons] at h⊢
  rw[foldl_set off vs (k+1) _ i (by simp;omega)]
  by_cases h1:i<off+k
  ·rw[aj (by omega),aj h1]
   rw[Ba (by omega)]
  ·rw[ai h1]
   by_cases U:i=off+k
   ·subst U
    rw[aj (by omega),aj (by omega)]
    rw[Fj (by omega)]
    simp
   ·rw[ai (by omega)]
    by_cases h3:i<off+k+(vs.length+1)
    ·rw[aj (by omega),aj h3,show i-(off+k)=(i-(off+(k+1)))+1 by omega]
     simp
    ·rw[ai (by omega),ai h3,Ba (by omega)]
theorem Ln (off:Nat): ∀(vs:List Value) (k:Nat) (cs:Array Value),((vs.zipIdx k).foldl (fun cs p=>cs.setIfInBounds (off+p.2) p.1) cs).size=cs.size
 | [],k,cs=>rfl
 | v::vs,k,cs=>by
  simp only[List.zipIdx_cons,List.foldl_cons]
  rw[Ln off vs (k+1)]
  simp
theorem Lo {cells:Array Value} {off:Nat} {v:Value} (h:off+v.cells.size≤cells.size) (i:Nat):
  (v.cells.zipIdx.foldl (fun cs (p:Value × Nat)=>cs.setIfInBounds (off+p.2) p.1) cells)[i]? =if i<off then cells[i]? else if i<off+v.cells.size then v.cells[i-off]? else cells[i]? :=by
 have:=foldl_set off v.cells.toList 0 cells i (by simpa using h)
 rw[←Bb]
 simpa[Array.toList_zipIdx] using this
theorem Lp {cells:Array Value} {off:Nat} {v:Value}:(v.cells.zipIdx.foldl (fun cs (p:Value × Nat)=>cs.setIfInBounds (off+p.2) p.1) cells).size=cells.size:=by
 have:=Ln off v.cells.toList 0 cells
 rw[←Bb]
 simpa[Array.toList_zipIdx] using this
inductive vb (P:Program) (w:World) (I:Nat→Prop) (β:Nat→Option Nat) (hp:Nat→Option an):List (Nat × Value)→List (Nat × V)→Prop
 | nil:vb P w I β hp [] []
 | cons {i:Nat} {v:Value} {x:V} {vs:List (Nat × Value)} {xs:List (Nat × V)}:v.cells.size=x.cells.length→(∀(j:Nat) u y,v.cells[j]? =some u→x.cells[j]? =some y→ao P w I β hp u y)→
   vb P w I β hp vs xs→vb P w I β hp ((i,v)::vs) ((i,x)::xs)
theorem Lq (place:Nat→Option (Nat × Nat)): ∀{vs:List (Nat × Value)} {px:List (Nat × V)} {cells:Array Value} {xs ys:List V},vb P w I β hp vs px→cells.size=xs.length→
  (∀(j:Nat) v x,cells[j]? =some v→xs[j]? =some x→ao P w I β hp v x)→sm place xs px=some ys→
  ∃oN:Array Value,Instr.fill place cells vs=some oN∧oN.size=ys.length∧∀(j:Nat) v x,oN[j]? =some v→ys[j]? =some x→ao P w I β hp v x
 | _,_,cells,xs,ys,.nil,hs,hx,h=>by
  simp only[sm,dD] at h
  subst h
  exact ⟨cells,by simp[Instr.fill],hs,hx⟩
 | _,_,cells,xs,ys,@vb.cons _ _ _ _ _ i v x vs px h1 U h3,hs,hx,h=>by
  simp only[sm] at h
  cases bK:place i with
  | none=>rw[bK] at h;cases h
  | some os=>
   obtain ⟨off,size⟩:=os
   rw[bK] at h
   simp only at h
   cases hc:(Nat.beq x.cells.length size&&Nat.ble (off+size) xs.length) with
   | false=>rw[hc] at h;cases h
   | true=>
    rw[hc] at h
    simp only[cond_true] at h
    simp only[aI,aP,dC] at hc
    have hv:off+v.cells.size≤cells.size:=by omega
    have hb:off+x.cells.length≤xs.length:=by omega
    have hl:(fg xs off x.cells).length=xs.length:=yj _ _ _ hb
    obtain ⟨oN,f1,f2,f3⟩:=Lq place (cells:=v.cells.zipIdx.foldl (fun cs (p:Value × Nat)=>cs.setIfInBounds (off+p.2) p.1) cells) (xs:=fg xs off x.cells) h3 (by rw[Lp,hl,hs])
     (fun j u y hu hy=>by
      rw[Lo hv] at hu
      unfold fg at hy
      rw[mG _ _ _ _ hb] at hy
      by_cases j1:j<off
      ·rw[aj j1] at hu hy;exact hx j u y hu hy
      ·rw[ai j1] at hu hy
       by_cases j2:j<off+x.cells.length
       ·rw[aj (by omega)] at hu
        rw[aj j2] at hy
        exact U (j-off) u y hu hy
       ·rw[ai (by omega)] at hu
        rw[ai j2] at hy
        exact hx j u y hu hy) h
    refine ⟨oN,?_,f2,f3⟩
    simp only[Instr.fill,bK]
    rw[ai (by simp;omega)]
    exact f1
theorem UT {t:TypeId} {parts:Array (Nat × Value)} {cells:Array Value} {z:Value} {i:TypeInfo} (hi:P.info? t=some i) (hz:i.zero=some z) (h:Instr.fill (placeOf P t) z.cells parts.toList=some cells) (ha:bz P t=true)
  (bK: ∀fs,P.underlying t=some (.struct fs)→(fs.toList.mapM fun f=>(P.info? f.type).map fun i=>(f.offset,i.size)).isSome=true) (p5: ∀n e,P.underlying t=some (.array n e)→(P.info? e).isSome=true):
  (Instr.build t parts).run P w= .ok (.agg cells) w:=by
 refine run_build w t parts cells ?_
 unfold Program.built
 unfold bz at ha
 rw[hi]
 split at ha
 ·rename_i fs hu
  have:=bK fs hu
  cases hm:fs.toList.mapM fun f=>(P.info? f.type).map fun i=>(f.offset,i.size) with
  | none=>rw[hm] at this;cases this
  | some FA=>
   simp only[hu,hz,hm]
   have hq:placeOf P t=fun i=>FA[i]? :=by simp[placeOf,hu,hm]
   rw[hq] at h
   simpa using h
 ·rename_i n e hu
  have:=p5 n e hu
  cases jk:P.info? e with
  | none=>rw[jk] at this;cases this
  | some ie=>
   simp only[hu,hz,jk]
   have hq:placeOf P t=fun i=>some (i*ie.size,ie.size):=by simp[placeOf,hu,jk]
   rw[hq] at h
   exact h
 ·cases ha
theorem Lr {α:Type}: ∀(xs ys:List V) (k:Rd α),kM (xs++ys) k=kM xs (kM ys k)
 | [],_,_=>rfl
 | x::xs,ys,k=>by simp only[List.cons_append,kM,Lr xs ys k]
theorem Ls {a:Act} {sl:Nat→V} (hs:ka P w I β hp a sl) {G:Nat→V} (hg:gh P G w I) (t:TypeId) {α:Type}: ∀{l:List (Nat × Operand)} {k:Rd α} {r:α} {rd:List Nat},
  (kM ((l.map fun p=>(aN P G t sl p.2).cells).flatten) k).run C hp=some (r,rd)→
  vb P w I β hp (l.map fun p=>(p.1,a.eval p.2)) (l.map fun p=>(p.1,aN P G t sl p.2))∧∃ez,k.run C hp=some (r,ez)
 | [],k,r,rd,h=>⟨.nil,rd,h⟩
 | (i,x)::l,k,r,rd,h=>by
  simp only[cG,List.flatten_cons,Lr] at h
  obtain ⟨e1,e2⟩:=F0 (hs.ev hg t x) h
  obtain ⟨_,l1,h⟩:=B0 h (vs:=(a.eval x).cells.toList) (by simpa using e1) (fun j u y a b=>e2 j u y (by simpa using a) b)
  obtain ⟨h1,U⟩:=Ls hs hg t h
  exact ⟨.cons e1 e2 h1,U⟩
theorem UU (S:aE P w I β hp B M w0) {a:Act} {sl:Nat→V} (hs:ka P w I β hp a sl) {G:Nat→V} (hg:gh P G w I) {t ty:TypeId} {ps:Array (Nat × Operand)} {r:R} {rd:List Nat}
  (h:(Rd.aB (cD P t&&(bz P t&&Bz P t)) (kM ((ps.toList.map fun p=>(aN P G ty sl p.2).cells).flatten)
   (uG (sm (placeOf P t) (zeroCells P t) (ps.toList.map fun p=>(p.1,aN P G ty sl p.2))) fun cs=> .ret ⟨.agg cs,[]⟩))).run C hp=some (r,rd)):
  cK P ((Instr.build t (ps.map fun (i,x)=>(i,a.eval x))).run P w) w I β hp B M w0 r:=by
 obtain ⟨au,h⟩:=aF h
 simp only[aI] at au
 obtain ⟨h1,l,h⟩:=Ls hs hg ty h
 cases hf:sm (placeOf P t) (zeroCells P t) (ps.toList.map fun p=>(p.1,aN P G ty sl p.2)) with
 | none=>rw[hf] at h;cases h
 | some cs=>
  rw[hf] at h
  obtain rfl:=aM h
  obtain ⟨i,z,hi,hz,h3,h4,h5⟩:=Ll (w:=w) (I:=I) (β:=β) (hp:=hp) au.1
  obtain ⟨cells,f1,f2,f3⟩:=Lq (placeOf P t) h1 h3 h5 hf
  have Lt:=au.2.2
  refine .same S (v:= .agg cells) (UT hi hz (by simpa using f1) au.2.1 (fun fs hu=> ?_) (fun n e hu=> ?_)) (.agg f2 f3)
  ·simpa[Bz,hu] using Lt
  ·simpa[Bz,hu] using Lt
theorem UW (cp: ∀id blk,hp id=some blk→dE P w I β hp (β id) blk) {x:V} {v:Value} {ys:List V} {fr:List (Nat × an)} {rd:List Nat} {ts:List TypeId} (hv:ao P w I β hp v x)
  (h:(qP P x.cells).run C hp=some ((ys,fr),rd)) (ht:py P ts ys=true):
  v.cells.size=x.cells.length∧∀(j:Nat) u y,v.cells.toList[j]? =some u→x.cells[j]? =some y→ao P w I β hp u y:=by
 cases x with
 | agg xs=>
  obtain ⟨cs,rfl,h1,U⟩:=hv.kf
  exact ⟨h1,fun j u y a b=>U j u y (by simpa[Value.cells] using a) b⟩
 | _=>
  simp only[V.cells] at h⊢
  simp only[qP] at h
  obtain ⟨⟨y1,u1⟩,l3,l4,hq,h⟩:=kb h
  obtain ⟨q1,q2⟩:=BN cp hq hv
  obtain ⟨⟨y2,u2⟩,l5,l6,yr,h⟩:=kb h
  cases yr
  have:=aM h
  cases this
  obtain ⟨tl,tg⟩:=sK ht
  have e9:=tg 0 _ y1 (bE (by rw[tl];exact Nat.one_pos)) rfl
  have bK:=q2 (ik P w I β hp u1) (fun _ h=> .inl h) (fun p hp b h=> .inr ⟨p,hp,h⟩)
  have ho:=bK.pure e9
  have Gg:v.cells= #[v]:=by cases ho<;>rfl
  rw[Gg]
  refine ⟨rfl,fun j u y hu hy=> ?_⟩
  cases j with
  | zero=>simp at hu hy;subst hu;subst hy;exact hv
  | succ j=>simp at hy
def vc (P:Program) (w:World) (I:Nat→Prop) (e:TypeId) (cells:Array Value) (es:List V):Prop:=
 cells.size=es.length*P.cellsOf e∧∀(i j:Nat) (x:V) (t':TypeId),es[i]? =some x→(aQ P e)[j]? =some t'→j<P.cellsOf e→∃v,cells[i*P.cellsOf e+j]? =some v∧Pure P w I t' v (bB P e x j)
theorem vc.set {e:TypeId} {cells:Array Value} {es ys:List V} {i:Nat} {v:Value} (h:vc P w I e cells es) (hi:i<es.length) (hv:v.cells.size=P.cellsOf e) (hy:ys.length=P.cellsOf e)
  (hr: ∀(j:Nat) (t':TypeId) (u:Value) (y:V),(aQ P e)[j]? =some t'→v.cells[j]? =some u→ys[j]? =some y→Pure P w I t' u y):
  vc P w I e (v.cells.zipIdx.foldl (fun cs (p:Value × Nat)=>cs.setIfInBounds (i*P.cellsOf e+p.2) p.1) cells) (es.set i (cd P e ys)):=by
 obtain ⟨h1,U⟩:=h
 have hb:i*P.cellsOf e+v.cells.size≤cells.size:=by
  have:(i+1)*P.cellsOf e≤es.length*P.cellsOf e:=di _ hi
  rw[cZ] at this
  omega
 refine ⟨by rw[Lp,nk,h1],fun i' j x t' hx ht hj=> ?_⟩
 rw[Lo hb]
 rw[List.getElem?_set] at hx
 by_cases iu:i=i'
 ·subst iu
  rw[aj rfl,aj hi] at hx
  cases hx
  rw[ai (by omega),aj (by omega),show i*P.cellsOf e+j-i*P.cellsOf e=j by omega]
  have h3:j<v.cells.size:=by omega
  have h4:j<ys.length:=by omega
  refine ⟨v.cells[j],jZ h3,?_⟩
  rw[pT (bE h4) ht]
  exact hr j t' _ _ ht (jZ h3) (bE h4)
 ·rw[ai iu] at hx
  have bw:i'*P.cellsOf e+j<i*P.cellsOf e∨i*P.cellsOf e+v.cells.size≤i'*P.cellsOf e+j:=by
   rcases ou i' i with aO|oM
   ·left
    have:(i'+1)*P.cellsOf e≤i*P.cellsOf e:=di _ aO
    rw[cZ] at this
    omega
   ·right
    have:(i+1)*P.cellsOf e≤i'*P.cellsOf e:=di _ (by omega)
    rw[cZ] at this
    omega
  rcases bw with bw|bw
  ·rw[aj bw];exact U i' j x t' hx ht hj
  ·rw[ai (by omega),ai (by omega)];exact U i' j x t' hx ht hj
theorem UX {t':TypeId} {v:Value} (e9:eu P t' (uA (oy P t' v))=true):Pure P w I t' v (uA (oy P t' v)):=by
 have hc:=ao.const (P:=P) (w:=w) (I:=I) (β:=fun _=>none) (hp:=fun _=>none) t' v
 cases sP:oy P t' v<;>rw[sP] at e9 hc<;>simp only[uA] at e9⊢
 case int k n=>rw[hc.dS];exact Plain.pure (v:= .int k n) (y:= .int k n) rfl e9
 case bool b=>rw[hc.jI];exact Plain.pure (v:= .bool b) (y:= .bool b) rfl e9
 case str l=>obtain ⟨s,e1,e2⟩:=hc.lF;rw[e1];exact Plain.pure (v:= .string s) (y:= .str l) ⟨s,rfl,e2⟩ e9
 case nilS e'=>
  cases hc
  exact Plain.pure (y:= .list e' []) (ic.any fun _=>rfl) e9
 case list e' es=>
  cases hc with
  | list hp=>exact Plain.pure (y:= .list e' es) hp e9
 all_goals (unfold eu at e9;split at e9<;>simp_all)
theorem yu {e:TypeId} (h:ly P e=true): ∃i z,P.info? e=some i∧i.zero=some z∧i.size=P.cellsOf e∧z.cells.size=P.cellsOf e∧
  ∀(j:Nat) (t':TypeId),(aQ P e)[j]? =some t'→j<P.cellsOf e→∃v,z.cells[j]? =some v∧Pure P w I t' v (bB P e (cd P e (ei P e)) j):=by
 unfold ly at h
 simp only[aI] at h
 obtain ⟨i,z,h1,U,h3,h4,h5⟩:=jK h.1
 refine ⟨i,z,h1,U,h3,h4,fun j t' ht hj=> ?_⟩
 obtain ⟨tl,tg⟩:=sK h.2
 have bV:j<(ei P e).length:=by rw[←tl,(jH h.1).1];exact hj
 have hz:=bE bV
 have e9:=tg j t' _ (by rw[←rf];exact ht) hz
 refine ⟨z.cells[j],jZ (by omega),?_⟩
 rw[pT hz ht]
 have sQ:(ei P e)[j]=uA (oy P t' z.cells[j]):=by
  have:(ei P e)[j]? =((zeroCells P e)[j]?).map uA:=by simp[ei]
  rw[hz] at this
  cases hc:(zeroCells P e)[j]? with
  | none=>rw[hc] at this;cases this
  | some y=>
   rw[hc] at this
   simp only[Option.map_some,dD] at this
   rw[h5] at hc
   obtain ⟨t2,v2,a1,a2,rfl⟩:=Gh hc
   have UY:t2=t':=by
    rw[←rf,ht] at a1;exact (cP a1).symm
   have pM:v2=z.cells[j]:=by
    have UZ:j<z.cells.size:=by omega
    have:z.cells.toList[j]? =some z.cells[j]:=by simp[UZ]
    rw[this] at a2;exact (cP a2).symm
   rw[this,UY,pM]
 rw[sQ] at e9⊢
 exact UX e9
end
section
variable {P:Program} {w w':World} {I I':Nat→Prop} {β β':Nat→Option Nat} {hp hp':Nat→Option an} {C:ag} {B:Nat} {M:Nat→Prop} {w0:Start}
theorem vd (S:aE P w I β hp B M w0) {nb cap:Nat} {e:TypeId} {es:List V} {C0:Array Value} (au:cD P e=true) (hn:hp nb=none) (hs:C0.size=cap*P.cellsOf e) (hl:es.length≤cap) (hm:cap≤maxLen)
  (hx: ∀(i j:Nat) (x:V) (t':TypeId),es[i]? =some x→(aQ P e)[j]? =some t'→j<P.cellsOf e→∃v,C0[i*P.cellsOf e+j]? =some v∧Pure P w I t' v (bB P e x j)):
  Le P w I β hp (w.alloc (.cells C0 e)) I (aH β nb (some w.heap.size)) (aH hp nb (some (.arr e es false)))∧aE P (w.alloc (.cells C0 e)) I (aH β nb (some w.heap.size)) (aH hp nb (some (.arr e es false))) B M w0∧
  ao P (w.alloc (.cells C0 e)) I (aH β nb (some w.heap.size)) (aH hp nb (some (.arr e es false))) (.slice (some ⟨w.heap.size,0,none⟩) es.length cap) (.whole e nb):=by
 obtain ⟨h1,U⟩:=FV S (blk:= .arr e es false) (c:=C0) (T:=e) hn (fun b' h=>(cP (h.flat (by simp))).symm) (fun hle ey cC=> .arr au rfl ey (by rw[hs];exact di _ hl) (fun h=>by cases h) (fun _=>cC) fun i j x t' a b c=>by
  obtain ⟨v,hv,hp⟩:=hx i j x t' a b c
  exact ⟨v,hv,hp.mono hle.cV hle.bU⟩)
 refine ⟨h1,U,.whole (cH _ _ _) (cH _ _ _) ?_ hl hm⟩
 rw[mC (heap_alloc_new w (.cells C0 e)),hs]
theorem At.only {b b':Nat} {e e':TypeId} {es aJ:List V} {q:Path} (hz: ∀(i j:Nat) x t' e1 l,es[i]? =some x→(aQ P e)[j]? =some t'→bB P e x j= .list e1 l→l=[])
  (h:At P w b e es q b' e' aJ):q=[]∧b'=b∧e'=e∧aJ=es:=by
 cases h with
 | here=>exact ⟨rfl,rfl,rfl,rfl⟩
 | step h1 U h3 h4 h5 h6=>have:=hz _ _ _ _ _ _ U h3 h5;subst this;simp at h6
theorem lE.pJ {t:TypeId} {v:Value} {x:V} (h:Pure P w I t v x) (hz: ∀e1 l,x= .list e1 l→l=[]):lE P w I t v x:=by
 cases h with
 | int h=>exact .fk (by unfold fh;rw[h]) (.int h)
 | bool h=>exact .fk (by unfold fh;rw[h]) (.bool h)
 | str h hl=>exact .fk (by unfold fh;rw[h]) (.str h hl)
 | nil h=>exact .emp h fun _=>rfl
 | emp h=>exact .emp h fun h=>by cases h
 | list g hu hl _ _ _ _=>
  have:=hz _ _ rfl
  subst this
  simp at hl
  subst hl
  exact .emp hu fun h=>by cases h
theorem U0 (S:aE P w I β hp B M w0) {nb cap:Nat} {e:TypeId} {es:List V} {C0:Array Value} (au:cD P e=true) (hn:hp nb=none) (hs:C0.size=cap*P.cellsOf e) (hl:es.length≤cap) (hm:cap≤maxLen)
  (hx: ∀(i j:Nat) (x:V) (t':TypeId),es[i]? =some x→(aQ P e)[j]? =some t'→j<P.cellsOf e→∃v,C0[i*P.cellsOf e+j]? =some v∧Pure P w I t' v (bB P e x j))
  (hz: ∀(i j:Nat) x t' e1 l,es[i]? =some x→(aQ P e)[j]? =some t'→bB P e x j= .list e1 l→l=[]):
  Le P w I β hp (w.alloc (.cells C0 e)) I (aH β nb (some w.heap.size)) (aH hp nb (some (.nest e es [0,0,0])))∧aE P (w.alloc (.cells C0 e)) I (aH β nb (some w.heap.size)) (aH hp nb (some (.nest e es [0,0,0]))) B M w0∧
  ao P (w.alloc (.cells C0 e)) I (aH β nb (some w.heap.size)) (aH hp nb (some (.nest e es [0,0,0]))) (.slice (some ⟨w.heap.size,0,none⟩) es.length cap) (.whole e nb):=by
 obtain ⟨h1,U⟩:=FV S (blk:= .nest e es [0,0,0]) (c:=C0) (T:=e) hn (fun b' h=>by
   cases h with
   | root _ h=>exact (cP h).symm
   | row h ha=>cases h;exact (At.only hz ha).2.1)
  (fun hle ey cC=> .nest rfl (fun q b' e' aJ ha=>by
   obtain ⟨rfl,rfl,rfl,rfl⟩:=At.only hz ha
   refine ⟨au,⟨C0,ey,by rw[hs];exact di _ hl,fun i j x t' a b c=> ?_⟩,cC⟩
   obtain ⟨v,hv,hp⟩:=hx i j x t' a b c
   exact ⟨v,hv,.pJ (hp.mono hle.cV hle.bU) fun e1 l h=>hz i j x t' e1 l a b h⟩)
   fun q1 q2 b' e1 b7 e2 bQ a1 a2=>(At.only hz a1).1.trans (At.only hz a2).1.symm)
 refine ⟨h1,U,.dZ (cH _ _ _) (cH _ _ _) ?_ hl hm⟩
 rw[mC (heap_alloc_new w (.cells C0 e)),hs]
theorem Lu (cp: ∀id blk,hp id=some blk→dE P w I β hp (β id) blk) {a:Act} {sl:Nat→V} (hs:ka P w I β hp a sl) {G:Nat→V} (hg:gh P G w I) {e:TypeId} {len:Nat}: ∀{l:List (Nat × Operand)} {ps:List (Nat × V)} {upd:List (Nat × an)} {rd:List Nat},
  (xF P e len (l.map fun p=>(p.1,aN P G e sl p.2))).run C hp=some ((ps,upd),rd)→cD P e=true→(∀p∈upd,xZ hp p)∧∀I':Nat→Prop,(∀b,I b→I' b)→(∀p∈upd,∀b,rb P w β hp p.1 b→I' b)→
   ∀(cells:Array Value) (es:List V),es.length=len→vc P w I' e cells es→∃oN,Instr.fill (fun i=>some (i*P.cellsOf e,P.cellsOf e)) cells (l.map fun p=>(p.1,a.eval p.2))=some oN∧vc P w I' e oN (xE es ps)∧(xE es ps).length=len
 | [],ps,upd,rd,h,_=>by
  cases h
  exact ⟨by simp,fun I' _ _ cells es hl he=>⟨cells,by simp[Instr.fill],he,hl⟩⟩
 | (i,x)::l,ps,upd,rd,h,au=>by
  simp only[cG,xF] at h
  obtain ⟨⟨ys,u1⟩,l1,l2,h1,h⟩:=kb h
  obtain ⟨hc,h⟩:=aF h
  obtain ⟨⟨ps',u2⟩,l3,l4,U,h⟩:=kb h
  have:=aM h
  cases this
  simp only[aI,jw] at hc
  obtain ⟨hi,e9⟩:=hc
  obtain ⟨tl,tg⟩:=sK e9
  have u0:=hs.ev hg e x
  obtain ⟨v1,v2⟩:=UW cp u0 h1 e9
  obtain ⟨k1,k2,k3⟩:=FT cp h1 (vs:=(a.eval x).cells.toList) (by simpa using v1) v2
  obtain ⟨m1,m2⟩:=Lu cp hs hg U au
  refine ⟨fun p hp=> ?_,fun I' i1 i2 cells es hl he=> ?_⟩
  ·rcases eh.1 hp with h|h
   ·exact k2 p h
   ·exact m1 p h
  ·have bK:=k3 I' i1 (fun p hp=>i2 p (eh.2 (.inl hp)))
   have aR:=(jH au).1
   have sN:ys.length=P.cellsOf e:=by rw[←tl,aR]
   have B4:(a.eval x).cells.size=P.cellsOf e:=by rw[v1,←k1,sN]
   have gx:=he.set (i:=i) (ys:=ys) (by omega) B4 sN (fun j t' u y ht hu hy=>by
    exact (bK j u y (by simpa using hu) hy).pure (tg j t' y (by rw[←rf];exact ht) hy))
   obtain ⟨oN,f1,f2,f3⟩:=m2 I' i1 (fun p hp=>i2 p (eh.2 (.inr hp))) _ (es.set i (cd P e ys)) (by simpa using hl) gx
   refine ⟨oN,?_,f2,f3⟩
   have hb:i*P.cellsOf e+P.cellsOf e≤cells.size:=by
    rw[he.1,hl]
    have:(i+1)*P.cellsOf e≤len*P.cellsOf e:=di _ hi
    rw[cZ] at this
    omega
   simp only[cG,Instr.fill]
   rw[ai (by simp;omega)]
   exact f1
theorem Lv {z:Array Value} {n k:Nat} (hk:k<n) (hz:0<z.size):((Array.range n).map (z[· %z.size]!))[k]? =z[k %z.size]? :=by
 have hm:k %z.size<z.size:=Nat.mod_lt _ hz
 simp[hk,hm]
theorem Cg {e:TypeId} (h:ly P e=true) {i:TypeInfo} {z:Value} (hi:P.info? e=some i) (hz:i.zero=some z) (n m:Nat) (kK:n≤m):
  ∀(k j:Nat) (x:V) (t':TypeId),(List.replicate n (cd P e (ei P e)))[k]? =some x→(aQ P e)[j]? =some t'→j<P.cellsOf e→
   ∃v,((Array.range (m*P.cellsOf e)).map (z.cells[· %z.cells.size]!))[k*P.cellsOf e+j]? =some v∧Pure P w I t' v (bB P e x j):=by
 intro k j x t' hx ht hj
 obtain ⟨i2,z2,h1,U,h3,h4,h5⟩:=yu (w:=w) (I:=I) h
 rw[hi] at h1;cases h1
 rw[hz] at U;cases U
 rw[List.getElem?_replicate] at hx
 split at hx
 ·rename_i hk
  cases hx
  obtain ⟨v,hv,hp⟩:=h5 j t' ht hj
  refine ⟨v,?_,hp⟩
  have hb:k*P.cellsOf e+j<m*P.cellsOf e:=by
   have:(k+1)*P.cellsOf e≤m*P.cellsOf e:=di _ (by omega)
   rw[cZ] at this
   omega
  rw[Lv hb (by omega),h4,show (k*P.cellsOf e+j) %P.cellsOf e=j by rw[nn,Nat.mul_add_mod];exact Nat.mod_eq_of_lt hj]
  exact hv
 ·cases hx
theorem U1 {P:Program} (w:World) (t e:TypeId) (len:Nat) (parts:Array (Nat × Value)) (cells:Array Value) (ie:TypeInfo) (z:Value)
  (hu:P.underlying t=some (.slice e)) (jk:P.info? e=some ie) (hz:ie.zero=some z) (U2: ¬len*ie.size>2^24)
  (h:Instr.fill (fun i=>some (i*ie.size,ie.size)) ((Array.range (len*ie.size)).map (z.cells[· %z.cells.size]!)) parts.toList=some cells):
  (Instr.buildSlice t len parts).run P w= .ok (.slice (some ⟨w.heap.size,0,none⟩) len len) (w.alloc (.cells cells e)):=by
 by_cases kK:len*ie.size=0
 ·have h0: ∀g:Nat→Value,(Array.range (len*ie.size)).map g= #[]:=by intro g;exact Array.eq_empty_of_size_eq_zero (by simp[kK])
  have hp: ∀(u:Array Value),(Pure.pure u:Sem (Array Value)).run P w= .ok u w:=fun _=>rfl
  rw[h0] at h
  simp only[Instr.buildSlice,Sem.run_bind,run_underlying hu,Result.andThen_ok,sizeOf,typeInfo,jk]
  have h1:(Array.range (len*ie.size)).map (fun _:Nat=>(default:Value))= #[]:=h0 _
  have hs: ¬16777216<len*ie.size:=by omega
  simp[jk,hs,kK]
  simp only[kK] at h1
  simp[h1,h,newRow]
 ·exact run_buildSlice w t e len parts cells ie z hu jk hz U2 kK h
theorem U3 (S:aE P w I β hp B M w0) {a:Act} {sl:Nat→V} (hs:ka P w I β hp a sl) {G:Nat→V} (hg:gh P G w I) {t e:TypeId} {len nb:Nat} {ps:Array (Nat × Operand)} {r:R} {rd:List Nat} (hu:P.underlying t=some (.slice e))
  (h:(Rd.aB (ly P e&&Nat.ble (len*P.cellsOf e) (2^24)) ((xF P e len (ps.toList.map fun p=>(p.1,aN P G e sl p.2))).bind fun r=>
    iK nb (.arr e (xE (List.replicate len (cd P e (ei P e))) r.1) false) (.whole e nb) r.2)).run C hp=some (r,rd)):
  cK P ((Instr.buildSlice t len (ps.map fun (i,x)=>(i,a.eval x))).run P w) w I β hp B M w0 r:=by
 obtain ⟨hc,h⟩:=aF h
 simp only[aI,dC] at hc
 obtain ⟨cE,uP⟩:=hc
 have au:cD P e=true:=by
  unfold ly at cE;simp only[aI] at cE;exact cE.1
 obtain ⟨⟨pv,upd⟩,l1,l2,h1,h⟩:=kb h
 obtain ⟨hn,rfl⟩:=mI h
 obtain ⟨m1,m2⟩:=Lu S.h.rel hs hg h1 au
 obtain ⟨pX,S1⟩:=yd S m1
 obtain ⟨i,z,hi,hz,h3,h4,_⟩:=yu (w:=w) (I:=I) cE
 have kR:=(jH au).2
 have h0:vc P w (ik P w I β hp upd) e ((Array.range (len*P.cellsOf e)).map (z.cells[· %z.cells.size]!)) (List.replicate len (cd P e (ei P e))):=
  ⟨by simp,Cg cE hi hz len len (b6 _)⟩
 obtain ⟨cells,f1,f2,f3⟩:=m2 (ik P w I β hp upd) (fun _ h=> .inl h) (fun p hp b h=> .inr ⟨p,hp,h⟩) _ _ (by simp) h0
 have jL:bA hp upd nb=none:=by
  rcases sE (hp:=hp) (l:=upd) (id:=nb) with h|⟨b',hm,_⟩
  ·exact h.trans hn
  ·obtain ⟨e1,b7,_,h5⟩:=m1 _ hm
   simp only[hn] at h5
   rcases h5 with ⟨_,h5⟩|⟨_,h5⟩<;>cases h5
 have nC:len≤maxLen:=by
  have:len*1≤len*P.cellsOf e:=sc _ kR
  simp only[maxLen]
  omega
 obtain ⟨n1,n2,n3⟩:=vd S1 (cap:=len) au jL (by rw[f2.1,f3]) (by rw[f3];exact b6 _) nC f2.2
 have cI:=U1 w t e len (ps.map fun (i,x)=>(i,a.eval x)) cells i z hu hi hz (by rw[h3];omega) (by rw[h3];simpa using f1)
 refine ⟨_,_,_,_,cI,pX.trans n1,n2,?_⟩
 rw[f3] at n3
 exact n3
theorem Lw (S:aE P w I β hp B M w0) {t e:TypeId} {nb:Nat} {kl kc:IntKind} {n m:Int} {r:R} {rd:List Nat} (hu:P.underlying t=some (.slice e))
  (h:(Rd.aB (ly P e&&(decide (0≤n)&&(decide (n≤m)&&Nat.ble (m.toNat*P.bytesOf e) cB)))
    (iK nb (.arr e (List.replicate n.toNat (cd P e (ei P e))) false) (.whole e nb) [])).run C hp=some (r,rd)):
  cK P ((Instr.makeSlice t (.int kl n) (.int kc m)).run P w) w I β hp B M w0 r:=by
 obtain ⟨hc,h⟩:=aF h
 simp only[aI,dC,dM] at hc
 obtain ⟨cE,h0,kK,dA⟩:=hc
 have au:cD P e=true:=by
  unfold ly at cE;simp only[aI] at cE;exact cE.1
 obtain ⟨hn,rfl⟩:=mI h
 obtain ⟨i,z,hi,hz,h3,h4,_⟩:=yu (w:=w) (I:=I) cE
 have lI:P.bytesOf e=i.bytes:=by simp[Program.bytesOf,hi]
 have Gi:m≤9223372036854775807:=by
  have h1:m.toNat*1≤m.toNat*P.bytesOf e:=sc _ (uR au)
  simp only[cB] at dA
  omega
 have cI:=run_make (P:=P) w t e i z hu hi hz kl kc n m h0 kK (by
  rw[lI] at dA
  simp only[cB] at dA
  have:(i.bytes:Int)*m=((m.toNat*i.bytes:Nat):Int):=by
   rw[Int.natCast_mul,Int.toNat_of_nonneg (by omega),Int.mul_comm]
  rw[this]
  omega) Gi
 have hlen:(List.replicate n.toNat (cd P e (ei P e))).length=n.toNat:=by simp
 obtain ⟨n1,n2,n3⟩:=vd S (cap:=m.toNat) (es:=List.replicate n.toNat (cd P e (ei P e))) (C0:=madeCells z.cells (m.toNat*i.size)) au hn (by rw[size_madeCells,h3]) (by rw[hlen];omega) (by simp only[maxLen];omega)
  (by rw[h3];exact Cg cE hi hz n.toNat m.toNat (by omega))
 refine ⟨_,_,_,_,cI,n1,n2,?_⟩
 rw[hlen] at n3
 exact n3
theorem Gj: ∀{l:List V} {j:Nat} {e1:TypeId} {k:List V},xO l=true→V.nth l j= .list e1 k→k=[]
 | [],j,e1,k,_,h=>by cases j<;>cases h
 | x::l,0,e1,k,hn,h=>by
  simp only[V.nth] at h
  subst h
  cases k with
  | nil=>rfl
  | cons _ _=>cases hn
 | x::l,j+1,e1,k,hn,h=>by
  refine Gj (l:=l) (j:=j) ?_ h
  cases x with
  | list e2 k2=>
   cases k2 with
   | nil=>exact hn
   | cons _ _=>cases hn
  | _=>exact hn
theorem U4 {e:TypeId} {n:Nat} (au:cD P e=true) (h:xO (ei P e)=true):
  ∀(i j:Nat) x t' e1 l,(List.replicate n (cd P e (ei P e)))[i]? =some x→(aQ P e)[j]? =some t'→bB P e x j= .list e1 l→l=[]:=by
 intro i j x t' e1 l hx ht hl
 have:=List.eq_of_mem_replicate (jb hx)
 subst this
 unfold bB cd at hl
 cases ha:bz P e with
 | true=>rw[ha] at hl;exact Gj h hl
 | false=>rw[ha] at hl;exact Gj h hl
theorem U5 (S:aE P w I β hp B M w0) {t e:TypeId} {nb:Nat} {kl kc:IntKind} {n m:Int} {r:R} {rd:List Nat} (hu:P.underlying t=some (.slice e))
  (h:(Rd.aB (ly P e&&(decide (0≤n)&&(decide (n≤m)&&Nat.ble (m.toNat*P.bytesOf e) cB)))
    (Rd.aB (xO (ei P e)) (iK nb (.nest e (List.replicate n.toNat (cd P e (ei P e))) [0,0,0]) (.whole e nb) []))).run C hp=some (r,rd)):
  cK P ((Instr.makeSlice t (.int kl n) (.int kc m)).run P w) w I β hp B M w0 r:=by
 obtain ⟨hc,h⟩:=aF h
 simp only[aI,dC,dM] at hc
 obtain ⟨cE,h0,kK,dA⟩:=hc
 have au:cD P e=true:=by
  unfold ly at cE;simp only[aI] at cE;exact cE.1
 obtain ⟨U6,h⟩:=aF h
 obtain ⟨hn,rfl⟩:=mI h
 obtain ⟨i,z,hi,hz,h3,h4,_⟩:=yu (w:=w) (I:=I) cE
 have lI:P.bytesOf e=i.bytes:=by simp[Program.bytesOf,hi]
 have Gi:m≤9223372036854775807:=by
  have h1:m.toNat*1≤m.toNat*P.bytesOf e:=sc _ (uR au)
  simp only[cB] at dA
  omega
 have cI:=run_make (P:=P) w t e i z hu hi hz kl kc n m h0 kK (by
  rw[lI] at dA
  simp only[cB] at dA
  have:(i.bytes:Int)*m=((m.toNat*i.bytes:Nat):Int):=by
   rw[Int.natCast_mul,Int.toNat_of_nonneg (by omega),Int.mul_comm]
  rw[this]
  omega) Gi
 have hlen:(List.replicate n.toNat (cd P e (ei P e))).length=n.toNat:=by simp
 obtain ⟨n1,n2,n3⟩:=U0 S (cap:=m.toNat) (es:=List.replicate n.toNat (cd P e (ei P e))) (C0:=madeCells z.cells (m.toNat*i.size)) au hn (by rw[size_madeCells,h3]) (by rw[hlen];omega) (by simp only[maxLen];omega)
  (by rw[h3];exact Cg cE hi hz n.toNat m.toNat (by omega))
  (U4 au U6)
 refine ⟨_,_,_,_,cI,n1,n2,?_⟩
 rw[hlen] at n3
 exact n3
theorem Pure.one {t:TypeId} {v:Value} {x:V} (h:Pure P w I t v x):v.oneCell'=true:=by cases h<;>rfl
structure Row (P:Program) (w:World) (I:Nat→Prop) (e:TypeId) (v:Value) (xs:List V) (a:Addr) (c:Nat) (news:List Value):Prop where
 val:v= .slice (some a) xs.length c
 len:news.length=xs.length*P.cellsOf e
 cell: ∀(j:Nat) u,news[j]? =some u→w.cell? (a.add j)=some u
 el: ∀(i j:Nat) (x:V) (t':TypeId),xs[i]? =some x→(aQ P e)[j]? =some t'→j<P.cellsOf e→∃u,news[i*P.cellsOf e+j]? =some u∧Pure P w I t' u (bB P e x j)
theorem Row.one {e:TypeId} {v:Value} {xs:List V} {a:Addr} {c:Nat} {news:List Value} (h:Row P w I e v xs a c news) (au:cD P e=true): ∀u∈news,u.oneCell'=true:=by
 intro u hu
 obtain ⟨k,hk⟩:=qJ hu
 have gW:=(bj.1 hk).1
 have kR:=(jH au).2
 rw[h.len] at gW
 have hi:k/P.cellsOf e<xs.length:=Nat.div_lt_of_lt_mul (by rw[nn];exact gW)
 have hj:k %P.cellsOf e<P.cellsOf e:=Nat.mod_lt _ kR
 have fS:k %P.cellsOf e<(aQ P e).length:=by rw[e8 au];exact hj
 obtain ⟨u',fm,hp⟩:=h.el (k/P.cellsOf e) (k %P.cellsOf e) _ _ (bE hi) (bE fS) hj
 rw[Nat.div_add_mod'] at fm
 rw[hk] at fm
 cases fm
 exact hp.one
theorem Lx {e:TypeId} {es:List V} {b:Nat} {Ca:Array Value} {off len cap o:Nat} (hh:w.heap[b]? =some (.cells Ca e (0,0))) (hs:es.length*P.cellsOf e≤Ca.size)
  (hx: ∀(i j:Nat) (x:V) (t':TypeId),es[i]? =some x→(aQ P e)[j]? =some t'→j<P.cellsOf e→∃v,Ca[i*P.cellsOf e+j]? =some v∧Pure P w I t' v (bB P e x j))
  (j9:off+len≤es.length) (ho:0<len→o=off*P.cellsOf e):
  Row P w I e (.slice (some ⟨b,o,none⟩) len cap) ((es.drop off).take len) ⟨b,o,none⟩ cap ((Ca.toList.drop (off*P.cellsOf e)).take (len*P.cellsOf e)):=by
 have hlen:((es.drop off).take len).length=len:=by simp;omega
 have hb:(off+len)*P.cellsOf e≤Ca.size:=lu (di _ j9) hs
 rw[cZ] at hb
 refine ⟨by rw[hlen],by rw[hlen];simp;omega,fun j u hj=> ?_,fun i j x t' fQ ht hj=> ?_⟩
 ·have bV:=(bj.1 hj).1
  have Gk:j<len*P.cellsOf e:=by
   rw[ff] at bV;omega
  have jh:0<len:=by
   rcases Nat.eq_zero_or_pos len with h|h
   ·rw[h] at Gk;simp at Gk
   ·exact h
  rw[eD Gk,gI] at hj
  rw[mF,cell?_cells hh,ho jh]
  simpa using hj
 ·have hi:i<len:=by rw[←hlen];exact (bj.1 fQ).1
  rw[eD hi,gI] at fQ
  obtain ⟨u,hu,hp⟩:=hx (off+i) j x t' fQ ht hj
  refine ⟨u,?_,hp⟩
  have:i*P.cellsOf e+j<len*P.cellsOf e:=by
   have:(i+1)*P.cellsOf e≤len*P.cellsOf e:=di _ hi
   rw[cZ] at this
   omega
  rw[eD this,gI]
  rw[cZ] at hu
  rw[←nj]
  simpa using hu
theorem Ch (cp: ∀id blk,hp id=some blk→dE P w I β hp (β id) blk) {e:TypeId} {v:Value} {x:V} {k:List V→Rd R} {r:R} {rd:List Nat} (au:cD P e=true) (hv:ao P w I β hp v x)
  (h:(qS e x k).run C hp=some (r,rd)): ∃xs,(((∃a,v= .slice a 0 0)∧xs=[])∨∃a c news,Row P w I e v xs a c news)∧∃l,(k xs).run C hp=some (r,l):=by
 cases hv with
 | list hp'=>
  obtain ⟨hc,U⟩:=aF h
  clear h
  rw[aP] at hc
  subst hc
  cases hp' with
  | nil=>exact ⟨[],.inl ⟨⟨_,rfl⟩,rfl⟩,rd,U⟩
  | @emp a cap=>exact ⟨[],.inr ⟨a,cap,[],⟨rfl,by simp,fun j u hj=>by simp at hj,fun i j x t' hx _ _=>by simp at hx⟩⟩,rd,U⟩
  | @list b o len cap es g hl bR hI fF hx=>
   refine ⟨_,.inr ⟨⟨b,o,none⟩,cap,(List.range (len*P.cellsOf e)).map fun k=>g (k/P.cellsOf e) (k %P.cellsOf e),⟨by rw[hl],by rw[hl];simp,fun j u hj=> ?_,fun i j x t' fQ ht hj=> ?_⟩⟩,rd,U⟩
   ·obtain ⟨bV,gU⟩:=bj.1 hj
    simp at bV gU
    have kR:=(jH au).2
    have hi:j/P.cellsOf e<len:=Nat.div_lt_of_lt_mul (by rw[nn];exact bV)
    have fH:j %P.cellsOf e<P.cellsOf e:=Nat.mod_lt _ kR
    rw[mF,←gU]
    have:=fF (j/P.cellsOf e) (j %P.cellsOf e) hi fH
    rwa [Nat.div_add_mod'] at this
   ·have hi:i<len:=by rw[←hl];exact (bj.1 fQ).1
    have hb:i*P.cellsOf e+j<len*P.cellsOf e:=by
     have:(i+1)*P.cellsOf e≤len*P.cellsOf e:=di _ hi
     rw[cZ] at this
     omega
    refine ⟨g i j,?_,hx i j x t' fQ ht⟩
    have e1:(i*P.cellsOf e+j)/P.cellsOf e=i:=by
     rw[nn,Nat.mul_add_div (jH au).2,Nat.div_eq_of_lt hj,Nat.add_zero]
    have e2:(i*P.cellsOf e+j) %P.cellsOf e=j:=by
     rw[nn,Nat.mul_add_mod];exact Nat.mod_eq_of_lt hj
    simp[hb,e1,e2]
 | nilS=>
  obtain ⟨hc,h⟩:=aF h
  exact ⟨[],.inl ⟨⟨_,rfl⟩,rfl⟩,rd,h⟩
 | dm ab hb=>
  obtain ⟨l,h⟩:=run_get h
  simp only[ab] at h
  obtain ⟨hc,h⟩:=aF h
  exact ⟨[],.inl ⟨⟨_,rfl⟩,rfl⟩,l,h⟩
 | @whole e' id es fz b cap ab hb aR bR hm=>
  obtain ⟨l,h⟩:=run_get h
  simp only[ab] at h
  obtain ⟨hc,U⟩:=aF h
  clear h
  simp only[aI,aP] at hc
  obtain ⟨rfl,_⟩:=hc
  have hr:=cp _ _ ab
  cases hr with
  | dp az=>rw[az] at hb;cases hb
  | arr FZ az hh hs hf dQ hx=>
   rw[hb] at az;cases az
   have:=Lx (cap:=cap) (off:=0) (len:=es.length) (o:=0) hh hs hx (by omega) (fun _=>by simp)
   exact ⟨es,.inr ⟨_,_,_,by simpa using this⟩,l,U⟩
 | fl ab hb=>
  obtain ⟨l,h⟩:=run_get h
  simp only[ab] at h
  obtain ⟨hc,h⟩:=aF h
  exact ⟨[],.inl ⟨⟨_,rfl⟩,rfl⟩,l,by simpa using h⟩
 | @sub e' id off len es fz b o cap ab hb j9 bR ho=>
  obtain ⟨l,h⟩:=run_get h
  simp only[ab] at h
  obtain ⟨hc,U⟩:=aF h
  clear h
  simp only[aI,aP] at hc
  obtain ⟨rfl,_⟩:=hc
  have hr:=cp _ _ ab
  cases hr with
  | dp az=>rw[az] at hb;cases hb
  | arr FZ az hh hs hf dQ hx=>
   rw[hb] at az;cases az
   exact ⟨_,.inr ⟨_,_,_,Lx (cap:=cap) hh hs hx j9 ho⟩,l,U⟩
 | dP ab=>
  obtain ⟨l,h⟩:=run_get h
  simp only[ab] at h
  cases h
 | fE ab=>
  obtain ⟨l,h⟩:=run_get h
  simp only[ab] at h
  cases h
 | undef=>cases h
 | int=>cases h
 | bool=>cases h
 | str=>cases h
 | agg=>cases h
 | aX=>cases h
 | c6=>cases h
 | fn=>cases h
 | pref=>cases h
 | jF=>cases h
 | ptr=>cases h
 | je=>cases h
 | jf=>cases h
 | row=>cases h
 | cm=>cases h
 | dc=>cases h
 | gS=>cases h
 | cb=>cases h
 | dZ ab=>
  obtain ⟨l,h⟩:=run_get h
  simp only[ab] at h
  cases h
theorem Ly {t ty e:TypeId} {i:TypeInfo} (ht:P.underlying t=some (.slice e)) (hi:P.info? e=some i) (a:Option Addr) (n cap:Nat) (x:Value) (hx: ∃a c,x= .slice a 0 c) (hn:n≤cap):
  (Builtin.append_ #[t,t] ty #[.slice a n cap,x]).run P w= .ok (.slice a n cap) w:=by
 obtain ⟨a',c,rfl⟩:=hx
 cases a' with
 | none=>cases a<;>simp[Builtin.append_,run_underlying ht,sizeOf,typeInfo,hi,Builtin.lenOf,Builtin.firstCells,hn,storeCells]
 | some a'=>cases a<;>simp[Builtin.append_,run_underlying ht,sizeOf,typeInfo,hi,Builtin.lenOf,Builtin.firstCells,hn,storeCells,loadCells,loadCellsFrom]
theorem Ci {e:TypeId} {es xs:List V} {n:Nat} {c:List Value} {news:List Value} (hn:es.length=n)
  (h1: ∀(i j:Nat) (x:V) (t':TypeId),es[i]? =some x→(aQ P e)[j]? =some t'→j<P.cellsOf e→∃v,c[i*P.cellsOf e+j]? =some v∧Pure P w I t' v (bB P e x j))
  (U: ∀(i j:Nat) (x:V) (t':TypeId),xs[i]? =some x→(aQ P e)[j]? =some t'→j<P.cellsOf e→∃v,news[i*P.cellsOf e+j]? =some v∧Pure P w I t' v (bB P e x j))
  (hb:n*P.cellsOf e≤c.length) (rest:List Value):
  ∀(i j:Nat) (x:V) (t':TypeId),(es++xs)[i]? =some x→(aQ P e)[j]? =some t'→j<P.cellsOf e→∃v,(c.take (n*P.cellsOf e)++news++rest)[i*P.cellsOf e+j]? =some v∧Pure P w I t' v (bB P e x j):=by
 intro i j x t' hx ht hj
 have hl:(c.take (n*P.cellsOf e)).length=n*P.cellsOf e:=by simp;omega
 by_cases hi:i<n
 ·rw[hU (by omega)] at hx
  obtain ⟨v,hv,hp⟩:=h1 i j x t' hx ht hj
  have:i*P.cellsOf e+j<n*P.cellsOf e:=by
   have:(i+1)*P.cellsOf e≤n*P.cellsOf e:=di _ hi
   rw[cZ] at this
   omega
  exact ⟨v,by rw[ca,hU (by omega),eD this];exact hv,hp⟩
 ·rw[gK (by omega),hn] at hx
  obtain ⟨v,hv,hp⟩:=U (i-n) j x t' hx ht hj
  have gy:i-n<xs.length:=(bj.1 hx).1
  have e1:i*P.cellsOf e+j-n*P.cellsOf e=(i-n)*P.cellsOf e+j:=by
   rw[Nat.sub_mul]
   have:n*P.cellsOf e≤i*P.cellsOf e:=di _ (by omega)
   omega
  have h3:(i-n)*P.cellsOf e+j<news.length:=(bj.1 hv).1
  refine ⟨v,?_,hp⟩
  have h4:n*P.cellsOf e≤i*P.cellsOf e+j:=by
   have:n*P.cellsOf e≤i*P.cellsOf e:=di _ (by omega)
   omega
  rw[ca,gK (by omega),hl,e1,hU h3]
  exact hv
theorem Pure.drew {t:TypeId} {v:Value} {x:V} (h:Pure P w I t v x):Pure P w.drew I t v x:=Pure.mono (w:=w) (w':=w.drew) (fun _ h=>h) (fun _ _=>rfl) h
theorem U7 (w:World) (t ty e:TypeId) (i:TypeInfo) (z:Value) (ht:P.underlying t=some (.slice e)) (hi:P.info? e=some i) (hz:i.zero=some z)
  (a0:Option Addr) (a:Addr) (n c:Nat) (news:List Value) (hl:news.length=n*i.size) (Cj: ∀j v,news[j]? =some v→w.cell? (a.add j)=some v)
  (h0:0<n) (Ck:(n:Int)≤9223372036854775807) (Cl:n*i.bytes≤281474976710656):
  (Builtin.append_ #[t,t] ty #[.slice a0 0 0,.slice (some a) n c]).run P w=
   .ok (.slice (some ⟨w.heap.size,0,none⟩) n (grownCap w n 0 e)) (w.drew.alloc (.cells (news.toArray++Builtin.zeroCells z.cells (grownCap w n 0 e-n)) e)):=by
 cases a0 with
 | none=>exact run_append_nil w t ty e i z ht hi hz a n c news hl Cj h0 Ck Cl
 | some b=>
  have:=run_append_grow (P:=P) w t ty e i z ht hi hz b 0 0 [] (by simp) (by simp) a n c news hl Cj (by omega) (by omega) (by rw[gi,nextslicecap_zero h0];omega)
  simpa using this
theorem Gl (S:aE P w I β hp B M w0) {t ty e:TypeId} {nb:Nat} {x:Value} {xs:List V} (hu:P.underlying t=some (.slice e)) (au:cD P e=true) (hn:hp nb=none)
  (dA:xs.length*P.bytesOf e≤cB) {a0:Option Addr} (hx:((∃a,x= .slice a 0 0)∧xs=[])∨∃a c news,Row P w I e x xs a c news):
  ∃v w' β',(Builtin.append_ #[t,t] ty #[.slice a0 0 0,x]).run P w= .ok v w'∧Le P w I β hp w' I β' (aH hp nb (some (.arr e xs false)))∧aE P w' I β' (aH hp nb (some (.arr e xs false))) B M w0∧
   ao P w' I β' (aH hp nb (some (.arr e xs false))) v (.whole e nb):=by
 obtain ⟨i,z,hi,hz,h3,h4,_⟩:=jK au
 have sR:=uR au
 have lI:P.bytesOf e=i.bytes:=by simp[Program.bytesOf,hi]
 have hlen:xs.length≤2^45:=by
  have:xs.length*1≤xs.length*P.bytesOf e:=sc _ sR
  simp only[cB] at dA
  omega
 have empty:xs=[]→(∃a c,x= .slice a 0 c)→∃v w' β',(Builtin.append_ #[t,t] ty #[.slice a0 0 0,x]).run P w= .ok v w'∧Le P w I β hp w' I β' (aH hp nb (some (.arr e xs false)))∧aE P w' I β' (aH hp nb (some (.arr e xs false))) B M w0∧
   ao P w' I β' (aH hp nb (some (.arr e xs false))) v (.whole e nb):=by
  intro fT Gm
  subst fT
  obtain ⟨a1,a2⟩:=BP S e hn
  exact ⟨_,_,_,Ly hu hi a0 0 0 x Gm (b6 _),a1,a2,.dm (cH _ _ _) (cH _ _ _)⟩
 rcases hx with ⟨⟨_,rfl⟩,rfl⟩|⟨a,c,news,hr⟩
 ·exact empty rfl ⟨_,_,rfl⟩
 ·by_cases h0:xs.length=0
  ·have fT:xs=[]:=kI h0
   refine empty fT ⟨some a,c,?_⟩
   rw[hr.val,h0]
  ·have cI:=U7 (P:=P) w t ty e i z hu hi hz a0 a xs.length c news (by rw[hr.len,h3]) hr.cell (by omega) (by omega) (by rw[←lI];simp only[cB] at dA;omega)
   have oM:=grownCap_ge w xs.length 0 e
   have sS:grownCap w xs.length 0 e≤maxLen:=grownCap_le_maxLen w xs.length 0 e (by simp only[maxLen];omega)
   obtain ⟨n1,n2,n3⟩:=vd S.drew (nb:=nb) (cap:=grownCap w xs.length 0 e) (es:=xs) (C0:=news.toArray++Builtin.zeroCells z.cells (grownCap w xs.length 0 e-xs.length)) au hn
    (by simp only[Bc,pn,size_zeroCells,h4,hr.len,←cZ];congr 1;omega) oM sS
    (fun i' j y t' hy ht hj=>by
     obtain ⟨u,fm,hp⟩:=hr.el i' j y t' hy ht hj
     have aO:=(bj.1 fm).1
     refine ⟨u,?_,Pure.drew hp⟩
     rw[Array.getElem?_append_left (by simpa using aO)]
     simpa using fm)
   rw[hr.val]
   exact ⟨_,_,_,cI,(Le.drew w I β hp).trans n1,n2,n3⟩
theorem U8 (S:aE P w I β hp B M w0) {t ty e:TypeId} {nb:Nat} {s x:Value} {sv xv:V} {r:R} {rd:List Nat} (hu:P.underlying t=some (.slice e)) (hs:ao P w I β hp s sv) (hx:ao P w I β hp x xv)
  (h:(uF P nb e sv xv).run C hp=some (r,rd)):cK P ((Builtin.append_ #[t,t] ty #[s,x]).run P w) w I β hp B M w0 r:=by
 unfold uF at h
 obtain ⟨au,h⟩:=aF h
 obtain ⟨xs,kZ,l0,h⟩:=Ch S.h.rel au hx h
 cases sv with
 | nilS e'=>
  obtain ⟨hc,h⟩:=aF h
  simp only[aI,aP,dC] at hc
  obtain ⟨hn,rfl⟩:=mI h
  obtain ⟨a0,rfl⟩: ∃a0,s= .slice a0 0 0:=by cases hs;exact ⟨_,rfl⟩
  obtain ⟨v,w',β',a1,a2,a3,a4⟩:=Gl (ty:=ty) S hu au hn hc.2 kZ
  exact ⟨v,w',I,β',a1,a2,a3,a4⟩
 | whole e' id=>
  obtain ⟨l,h⟩:=run_get h
  cases ab:hp id with
  | none=>rw[ab] at h;cases h
  | some blk=>
   rw[ab] at h
   cases blk with
   | dead=>cases h
   | var _=>cases h
   | nest _ _ _=>cases h
   | map _ _=>cases h
   | arr dj es fz=>
    cases fz with
    | true=>cases h
    | false=>
     obtain ⟨hc,h⟩:=aF h
     obtain ⟨hn,rfl⟩:=mI h
     simp only[aI,aP,dC] at hc
     obtain ⟨Gn,Gp,dA⟩:=hc
     subst Gn
     subst Gp
     have bw:nb≠id:=fun e=>by rw[e,ab] at hn;cases hn
     obtain ⟨k1,k2⟩:=BQ S ab
     have jL:aH hp id (some an.dead) nb=none:=by rw[dR _ _ bw];exact hn
     cases hs with
     | dP hd=>rw[ab] at hd;cases hd
     | dZ hd=>rw[ab] at hd;cases hd
     | dm hd hb=>
      rw[ab] at hd
      cases hd
      simp only[List.length_nil,gi] at dA
      have U9:((∃a,x= .slice a 0 0)∧xs=[])∨∃a c news,Row P w I e x xs a c news:=kZ
      obtain ⟨v,w',β',a1,a2,a3,a4⟩:=Gl (ty:=ty) k2 hu au jL dA U9
      exact ⟨v,w',I,β',a1,k1.trans a2,a3,a4⟩
     | @whole _ _ aJ my b cap hd hb aR bR hm=>
      rw[ab] at hd
      cases hd
      have hr:=S.h.rel id _ ab
      cases hr with
      | dp az=>rw[az] at hb;cases hb
      | @arr _ _ _ b' Ca _ az hh oO hf dQ lJ=>
       rw[hb] at az
       cases az
       obtain ⟨i,z,hi,hz,h3,h4,_⟩:=jK au
       have sR:=uR au
       have lI:P.bytesOf e=i.bytes:=by simp[Program.bytesOf,hi]
       have hlen:es.length+xs.length≤2^45:=by
        have:(es.length+xs.length)*1≤(es.length+xs.length)*P.bytesOf e:=sc _ sR
        simp only[cB] at dA
        omega
       rw[mC hh] at aR
       have pP: ∀aC blk',aH hp id (some an.dead) aC=some blk'→¬bn P w (β aC) blk' b:=by
        intro aC blk' h1 U
        by_cases iu:aC=id
        ·subst iu;rw[cH] at h1;cases h1;exact U.alive rfl
        ·rw[dR _ _ iu] at h1
         exact iu (S.h.inj aC id blk' _ b h1 ab U (.root (by simp) hb))
       have Gq:=S.h.q0 id _ b ab (by simp) hb
       have room: ∀(C':Array Value) (w':World) (ys:List V),w'.heap[b]? =some (.cells C' e (0,0))→C'.size=Ca.size→(∀b',b'≠b→w'.heap[b']? =w.heap[b']?)→w.heap.size≤w'.heap.size→(w'.os=w.os∧w'.output=w.output)→ys.length≤cap→
         (∀(i j:Nat) (y:V) (t':TypeId),ys[i]? =some y→(aQ P e)[j]? =some t'→j<P.cellsOf e→∃v,C'[i*P.cellsOf e+j]? =some v∧Pure P w I t' v (bB P e y j))→
         Le P w I β hp w' I (aH β nb (some b)) (aH (aH hp id (some .dead)) nb (some (.arr e ys false)))∧aE P w' I (aH β nb (some b)) (aH (aH hp id (some .dead)) nb (some (.arr e ys false))) B M w0∧
         ao P w' I (aH β nb (some b)) (aH (aH hp id (some .dead)) nb (some (.arr e ys false))) (.slice (some ⟨b,0,none⟩) ys.length cap) (.whole e nb):=by
        intro C' w' ys hC nH Gr Va Vb sN hy
        obtain ⟨a1,a2⟩:=ye k2 (blk:= .arr e ys false) (w':=w') jL pP (dQ rfl) (fun b' h _=>Gr b' h) Va Vb Gq
         (fun b' h=>(cP (h.flat (by simp))).symm) (fun hle=> .arr au rfl hC (by rw[nH,←aR];exact di _ sN) (fun h=>by cases h) (fun _=>dQ rfl) fun i j y t' a b c=>by
          obtain ⟨v,hv,hp⟩:=hy i j y t' a b c
          exact ⟨v,hv,hp.mono hle.cV hle.bU⟩)
        refine ⟨k1.trans a1,a2,.whole (cH _ _ _) (cH _ _ _) ?_ sN hm⟩
        rw[mC hC,nH,aR]
       have same:xs=[]→(∃a c,x= .slice a 0 c)→cK P ((Builtin.append_ #[t,t] ty #[.slice (some ⟨b,0,none⟩) es.length cap,x]).run P w) w I β hp B M w0 ⟨.whole e nb,[(nb,.arr e (es++xs) false),(id,.dead)]⟩:=by
        intro fT Gm
        subst fT
        rw[dz]
        obtain ⟨a1,a2,a3⟩:=room Ca w es hh rfl (fun _ _=>rfl) (b6 _) ⟨rfl,rfl⟩ bR lJ
        exact ⟨_,_,_,_,Ly hu hi _ _ _ x Gm bR,a1,a2,a3⟩
       rcases kZ with ⟨⟨_,rfl⟩,rfl⟩|⟨a,c,news,cq⟩
       ·exact same rfl ⟨_,_,rfl⟩
       ·have h1:=cq.one au
        have kY:es.length*P.cellsOf e≤Ca.toList.length:=by simpa using oO
        by_cases rn:es.length+xs.length≤cap
        ·have yv:es.length*P.cellsOf e+news.length≤Ca.size:=by rw[cq.len,←cZ,←aR];exact di _ rn
         have cI:=run_append_room (P:=P) w t ty e i hu hi b es.length cap Ca hh a xs.length c news (by rw[cq.len,h3]) cq.cell h1 rn (by rw[h3];exact yv)
         rw[h3] at cI
         have cE:=Ci (P:=P) (w:=w) (I:=I) (n:=es.length) (c:=Ca.toList) rfl (fun i j y t' a b c=>by
          obtain ⟨v,hv,hp⟩:=lJ i j y t' a b c
          exact ⟨v,by simpa using hv,hp⟩) cq.el kY (Ca.toList.drop (es.length*P.cellsOf e+news.length))
         obtain ⟨a1,a2,a3⟩:=room (Ca.toList.take (es.length*P.cellsOf e)++news++Ca.toList.drop (es.length*P.cellsOf e+news.length)).toArray (w.setRow b _) (es++xs)
          (setRow_heap w b Ca _ e _ hh) (by simp;omega) (fun b' az=>setRow_other w b b' _ az) (by simp) ⟨rfl,rfl⟩ (by simpa using rn)
          (fun i j y t' a b c=>by
           obtain ⟨v,hv,hp⟩:=cE i j y t' a b c
           exact ⟨v,by simpa using hv,hp⟩)
         rw[cq.val]
         rw[b8] at a3
         exact ⟨_,_,_,_,cI,a1,a2,a3⟩
        ·have hold: ∀(j:Nat) v,(Ca.toList.take (es.length*P.cellsOf e))[j]? =some v→w.cell? ((⟨b,0,none⟩:Addr).add j)=some v:=by
          intro j v hj
          have bV:=(bj.1 hj).1
          have fH:j<es.length*P.cellsOf e:=by rw[ff] at bV;omega
          rw[eD fH] at hj
          rw[mF,cell?_cells hh,gi]
          simpa using hj
         have cI:=run_append_grow (P:=P) w t ty e i z hu hi hz ⟨b,0,none⟩ es.length cap (Ca.toList.take (es.length*P.cellsOf e)) (by rw[h3];simp;omega) hold a xs.length c news (by rw[cq.len,h3]) cq.cell (by omega) (by omega)
          (growslice_fits (by omega) (by rw[←lI];simp only[cB] at dA;omega))
         have oM:=grownCap_ge w (es.length+xs.length) cap e
         have sS:grownCap w (es.length+xs.length) cap e≤maxLen:=grownCap_le_maxLen w _ cap e (by simp only[maxLen];omega)
         have cE:=Ci (P:=P) (w:=w) (I:=I) (n:=es.length) (c:=Ca.toList) rfl (fun i j y t' a b c=>by
          obtain ⟨v,hv,hp⟩:=lJ i j y t' a b c
          exact ⟨v,by simpa using hv,hp⟩) cq.el kY (Builtin.zeroCells z.cells (grownCap w (es.length+xs.length) cap e-(es.length+xs.length))).toList
         obtain ⟨n1,n2,n3⟩:=vd k2.drew (nb:=nb) (cap:=grownCap w (es.length+xs.length) cap e) (es:=es++xs)
          (C0:=(Ca.toList.take (es.length*P.cellsOf e)).toArray++news.toArray++Builtin.zeroCells z.cells (grownCap w (es.length+xs.length) cap e-(es.length+xs.length))) au jL
          (by
           have e1:(Ca.toList.take (es.length*P.cellsOf e)).length=es.length*P.cellsOf e:=by simp;omega
           simp only[Bc,pn,size_zeroCells,h4,cq.len,e1,←cZ];congr 1;omega) (by simpa using oM) sS
          (fun i j y t' a b c=>by
           obtain ⟨v,hv,hp⟩:=cE i j y t' a b c
           refine ⟨v,?_,Pure.drew hp⟩
           rw[←qK]
           simpa using hv)
         rw[cq.val]
         rw[b8] at n3
         exact ⟨_,_,_,_,cI,(k1.trans (Le.drew w I β _)).trans n1,n2,n3⟩
 | _=>cases h
end
section
variable {P:Program} {w w':World} {I I':Nat→Prop} {β β':Nat→Option Nat} {hp hp':Nat→Option an} {C:ag} {B:Nat} {M:Nat→Prop} {w0:Start}
theorem run_copy_none (w:World) {dT sT ty elem:TypeId} {i:TypeInfo} (a0:Option Addr) (LA Vc:Nat) (a1:Option Addr) (LB Vd:Nat) (hu:P.underlying dT=some (.slice elem)) (hi:P.info? elem=some i) (h0:Nat.min LB LA=0):
  (Builtin.copy_ #[dT,sT] ty #[.slice a0 LA Vc,.slice a1 LB Vd]).run P w= .ok (goInt 0) w:=by
 cases a0<;>cases a1<;>simp[Builtin.copy_,run_underlying hu,Builtin.lenOf,Builtin.firstCells,sizeOf,typeInfo,hi,h0,storeCells,loadCells,loadCellsFrom]
theorem Ve (S:aE P w I β hp B M w0) {t u ty e:TypeId} {s x:Value} {sv xv:V} {r:R} {rd:List Nat} (hu:P.underlying t=some (.slice e)) (hs:ao P w I β hp s sv) (hx:ao P w I β hp x xv)
  (h:(Fv P e sv xv).run C hp=some (r,rd)):cK P ((Builtin.copy_ #[t,u] ty #[s,x]).run P w) w I β hp B M w0 r:=by
 unfold Fv at h
 obtain ⟨au,h'⟩:=aF h
 clear h
 simp only[aI,aP] at au
 obtain ⟨au,h1⟩:=au
 obtain ⟨xs,kZ,l0,h⟩:=Ch S.h.rel au hx h'
 obtain ⟨i,z,hi,hz,aR,_⟩:=jK au
 cases sv<;>simp only at h<;>first|(cases h;done)|skip
 rename_i e' id
 obtain ⟨l,U⟩:=run_get h
 clear h
 cases ab:hp id with
 | none=>rw[ab] at U;cases U
 | some blk=>
  rw[ab] at U
  cases blk<;>simp only at U<;>first|(cases U;done)|skip
  rename_i e2 es fz
  cases fz with
  | true=>cases U
  | false=>
  obtain ⟨hc,h3⟩:=aF U
  simp only[aI,aP] at hc
  obtain ⟨rfl,rfl⟩:=hc
  obtain rfl:=aM h3
  have mJ:min xs.length es.length=0→(Builtin.copy_ #[t,u] ty #[s,x]).run P w= .ok (goInt 0) w→cK P ((Builtin.copy_ #[t,u] ty #[s,x]).run P w) w I β hp B M w0 ⟨.int .i64 (min xs.length es.length:Nat),[(id,.arr e (xs.take es.length++es.drop xs.length) false)]⟩:=by
   intro h0 hr
   have he:xs.take es.length++es.drop xs.length=es:=by
    rcases Nat.le_total xs.length es.length with hl|hl
    ·have:xs=[]:=kI (by omega)
     simp[this]
    ·have:es=[]:=kI (by omega)
     simp[this]
   have fG:bA hp [(id,.arr e (xs.take es.length++es.drop xs.length) false)]=hp:=by
    rw[he];exact FF hp id _ ab
   refine ⟨goInt 0,w,I,β,hr,?_⟩
   simp only[fG,h0]
   exact ⟨Le.refl w I β hp,S,.int⟩
  cases hs with
  | dP hd=>rw[ab] at hd;cases hd
  | dZ hd=>rw[ab] at hd;cases hd
  | @dm _ _ fz a hd hb=>
   rw[ab] at hd
   cases hd
   refine mJ (by simp) ?_
   rcases kZ with ⟨⟨a',rfl⟩,rfl⟩|⟨a',c,news,cq⟩
   ·exact run_copy_none w _ _ _ _ _ _ hu hi (by simp)
   ·rw[cq.val];exact run_copy_none w _ _ _ _ _ _ hu hi (by simp)
  | @whole _ _ aJ my b cap hd hb yw bR hm=>
   have ek:=hd
   rw[ab] at hd
   cases hd
   rcases kZ with ⟨⟨a',rfl⟩,rfl⟩|⟨a',c,news,cq⟩
   ·exact mJ (by simp) (run_copy_none w _ _ _ _ _ _ hu hi (by simp))
   have hr:=S.h.rel id _ ab
   cases hr with
   | dp az=>rw[az] at hb;cases hb
   | @arr _ _ _ b' Ca _ az hh oO hf dQ lJ=>
    rw[hb] at az
    cases az
    have kW:news.length=xs.length:=by rw[cq.len,h1,mj]
    rw[h1,mj] at oO
    have ki:(news.take es.length).length=Nat.min xs.length es.length:=by
     rw[ff,kW,Nat.min_comm]
    have LC:Nat.min xs.length es.length=min xs.length es.length:=rfl
    have cI:=run_copy_row (P:=P) w t u ty e b 0 es.length cap a' xs.length c Ca e (news.take es.length) hu (by rw[hi];simp[aR,h1]) hh ki
     (fun j v hj=>cq.cell j v (by
      have:=(bj.1 hj).1
      rw[ff] at this
      rwa [eD (by omega)] at hj)) (by rw[ki,LC];omega) (fun v hv=>cq.one au v (List.mem_of_mem_take hv))
    rw[cq.val]
    have hq:(goInt (news.take es.length).length)= .int .i64 ((min xs.length es.length:Nat):Int):=by rw[ki];rfl
    have iP:(xs.take es.length++es.drop xs.length).length=es.length:=by simp;omega
    have nH:(Ca.toList.take 0++news.take es.length++Ca.toList.drop (0+(news.take es.length).length)).toArray.size=Ca.size:=by
     simp only[pn,b8,sd,ff,ki,LC]
     simp
     omega
    obtain ⟨a1,a2⟩:=B1 S (blk':= .arr e (xs.take es.length++es.drop xs.length) false) (Cb:=(Ca.toList.take 0++news.take es.length++Ca.toList.drop (0+(news.take es.length).length)).toArray) ab (by simp) ⟨rfl,iP.symm⟩ hb (dQ rfl) (by simp) hh nH
     (fun hle ey=> .arr au rfl ey (by rw[nH,iP,h1,mj];exact oO) (fun h=>by cases h) (fun _=>dQ rfl) fun i j y t' hy ht hj=>by
      rw[h1] at hj⊢
      obtain rfl:j=0:=by omega
      rw[mj,Nat.add_zero]
      have p6:=(bj.1 hy).1
      rw[iP] at p6
      by_cases bX:i<xs.length
      ·rw[hU (by rw[ff];omega),eD p6] at hy
       obtain ⟨u',k1,k2⟩:=cq.el i 0 y t' hy ht (by omega)
       rw[h1,mj,Nat.add_zero] at k1
       refine ⟨u',?_,k2.mono hle.cV hle.bU⟩
       simp only[List.take_zero,List.nil_append,mi]
       rw[hU (by rw[ff];omega),eD p6]
       exact k1
      ·have e1:(xs.take es.length).length=xs.length:=by rw[ff];omega
       rw[gK (by omega),e1,gI,show xs.length+(i-xs.length)=i by omega] at hy
       obtain ⟨u',k1,k2⟩:=lJ i 0 y t' hy ht (by omega)
       rw[h1,mj,Nat.add_zero] at k1
       refine ⟨u',?_,k2.mono hle.cV hle.bU⟩
       simp only[List.take_zero,List.nil_append,mi,gi]
       have e2:(news.take es.length).length=xs.length:=by rw[ff];omega
       rw[gK (by omega),e2,gI,show xs.length+(i-xs.length)=i by omega]
       simpa using k1)
    exact ⟨_,_,_,_,cI,a1,a2,by rw[hq];exact .int⟩
theorem Vf (S:aE P w I β hp B M w0) {t ty e:TypeId} {x:Value} {xv:V} {r:R} {rd:List Nat} (hu:P.underlying t=some (.slice e)) (hx:ao P w I β hp x xv)
  (h:(Fu P e xv).run C hp=some (r,rd)):cK P ((Builtin.clear_ #[t] ty #[x]).run P w) w I β hp B M w0 r:=by
 unfold Fu at h
 obtain ⟨cE,h'⟩:=aF h
 clear h
 have au:cD P e=true:=by
  unfold ly at cE;simp only[aI] at cE;exact cE.1
 obtain ⟨i,z,hi,hz,aR,yx,Vg⟩:=yu (w:=w) (I:=I) cE
 have kR:=(jH au).2
 cases xv<;>simp only at h'<;>first|(cases h';done)|skip
 rename_i e' id off len
 obtain ⟨l,U⟩:=run_get h'
 clear h'
 cases ab:hp id with
 | none=>rw[ab] at U;cases U
 | some blk=>
  rw[ab] at U
  cases blk<;>simp only at U<;>first|(cases U;done)|skip
  rename_i e2 es fz
  cases fz with
  | true=>cases U
  | false=>
  obtain ⟨hc,h3⟩:=aF U
  simp only[aI,aP] at hc
  obtain ⟨rfl,rfl⟩:=hc
  obtain rfl:=aM h3
  have mJ:len=0→(Builtin.clear_ #[t] ty #[x]).run P w= .ok (.tuple #[]) w→cK P ((Builtin.clear_ #[t] ty #[x]).run P w) w I β hp B M w0 ⟨.aX [],[(id,.arr e (es.take off++(List.replicate len (cd P e (ei P e))++es.drop (off+len))) false)]⟩:=by
   intro h0 hr
   subst h0
   have fG:bA hp [(id,.arr e (es.take off++(List.replicate 0 (cd P e (ei P e))++es.drop (off+0))) false)]=hp:=by
    simp only[List.replicate_zero,List.nil_append,Nat.add_zero,Bd]
    exact FF hp id _ ab
   refine ⟨.tuple #[],w,I,β,hr,?_⟩
   simp only[fG]
   exact ⟨Le.refl w I β hp,S,.aX rfl fun j v x hj hx=>by simp at hx⟩
  cases hx with
  | fE hd=>rw[ab] at hd;cases hd
  | @fl _ _ _ a0 hd hb=>exact mJ rfl (by cases a0<;>simp[Builtin.clear_,run_underlying hu])
  | @sub _ _ _ _ aJ my b o cap hd hb j9 bR ho=>
   by_cases hlen:len=0
   ·refine mJ hlen ?_
    subst hlen
    simp[Builtin.clear_,run_underlying hu]
   have Vh:0<len:=by omega
   have ek:=hd
   rw[ab] at hd
   cases hd
   have hr:=S.h.rel id _ ab
   cases hr with
   | dp az=>rw[az] at hb;cases hb
   | @arr _ _ _ b' Ca _ az hh oO hf dQ lJ=>
    rw[hb] at az
    cases az
    have ho:=ho Vh
    subst ho
    have sQ:(Builtin.zeroCells z.cells len).toList.length=len*P.cellsOf e:=by rw[Array.length_toList,size_zeroCells,yx]
    have hmul:off*P.cellsOf e+len*P.cellsOf e≤es.length*P.cellsOf e:=by rw[←cZ];exact di _ j9
    have pY: ∀v∈(Builtin.zeroCells z.cells len).toList,v.oneCell'=true:=by
     intro v hv
     obtain ⟨k,hk⟩:=qJ hv
     have gW:=(bj.1 hk).1
     rw[sQ] at gW
     have Vi:(Builtin.zeroCells z.cells len)[k]? =z.cells[k %z.cells.size]? :=Lv (z:=z.cells) (n:=len*z.cells.size) (by rw[yx];exact gW) (by rw[yx];exact kR)
     rw[qK,Vi] at hk
     have hm:k %z.cells.size<P.cellsOf e:=by rw[yx];exact Nat.mod_lt _ kR
     have Vj:k %z.cells.size<(aQ P e).length:=by rw[e8 au];exact hm
     obtain ⟨v',uZ,hp'⟩:=Vg (k %z.cells.size) _ (bE Vj) hm
     rw[hk] at uZ
     cases uZ
     generalize bB P e (cd P e (ei P e)) (k %z.cells.size)=y at hp'
     cases hp'<;>rfl
    have bL:=run_storeCells_at P b (off*P.cellsOf e) e (Builtin.zeroCells z.cells len).toList 0 Ca w hh (by rw[sQ];omega) pY
    simp only[Nat.add_zero] at bL
    have cI:(Builtin.clear_ #[t] ty #[.slice (some ⟨b,off*P.cellsOf e,none⟩) len cap]).run P w= .ok (.tuple #[]) (w.setRow b (Ca.toList.take (off*P.cellsOf e)++(Builtin.zeroCells z.cells len).toList++Ca.toList.drop (off*P.cellsOf e+(Builtin.zeroCells z.cells len).toList.length)).toArray):=by
     obtain ⟨n,rfl⟩: ∃n,len=n+1:=⟨len-1,by omega⟩
     simp[Builtin.clear_,run_underlying hu,zeroValue,typeInfo,hi,hz,bL]
    have iP:(es.take off++(List.replicate len (cd P e (ei P e))++es.drop (off+len))).length=es.length:=by simp;omega
    have nH:(Ca.toList.take (off*P.cellsOf e)++(Builtin.zeroCells z.cells len).toList++Ca.toList.drop (off*P.cellsOf e+(Builtin.zeroCells z.cells len).toList.length)).toArray.size=Ca.size:=by
     simp only[pn,b8,sd,ff,sQ,Array.length_toList]
     omega
    obtain ⟨a1,a2⟩:=B1 S (blk':= .arr e (es.take off++(List.replicate len (cd P e (ei P e))++es.drop (off+len))) false) ab (by simp) ⟨rfl,iP.symm⟩ hb (dQ rfl) (by simp) hh nH
     (fun hle ey=> .arr au rfl ey (by rw[nH,iP];exact oO) (fun h=>by cases h) (fun _=>dQ rfl) fun i' j y t' hy ht hj=>by
      have gz:=mG es (List.replicate len (cd P e (ei P e))) off i' (by simp;omega)
      rw[se] at gz
      rw[gz] at hy
      have hC:(Ca.toList.take (off*P.cellsOf e)++(Builtin.zeroCells z.cells len).toList++Ca.toList.drop (off*P.cellsOf e+(Builtin.zeroCells z.cells len).toList.length)).toArray[i'*P.cellsOf e+j]? =
        if i'*P.cellsOf e+j<off*P.cellsOf e then Ca.toList[i'*P.cellsOf e+j]? else if i'*P.cellsOf e+j<off*P.cellsOf e+len*P.cellsOf e then (Builtin.zeroCells z.cells len).toList[i'*P.cellsOf e+j-off*P.cellsOf e]? else Ca.toList[i'*P.cellsOf e+j]? :=by
       have:=mG Ca.toList (Builtin.zeroCells z.cells len).toList (off*P.cellsOf e) (i'*P.cellsOf e+j) (by rw[sQ,Array.length_toList];omega)
       rw[mi,ca,this,sQ]
      by_cases Gt:i'<off
      ·rw[aj Gt] at hy
       have:(i'+1)*P.cellsOf e≤off*P.cellsOf e:=di _ Gt
       rw[cZ] at this
       rw[aj (by omega)] at hC
       obtain ⟨u,k1,k2⟩:=lJ i' j y t' hy ht hj
       exact ⟨u,hC.trans (by simpa using k1),k2.mono hle.cV hle.bU⟩
      ·rw[ai Gt] at hy
       have h1:off*P.cellsOf e≤i'*P.cellsOf e:=di _ (by omega)
       rw[ai (by omega)] at hC
       by_cases gy:i'<off+len
       ·rw[aj gy] at hy
        have:(i'+1)*P.cellsOf e≤(off+len)*P.cellsOf e:=di _ gy
        rw[cZ,cZ] at this
        rw[aj (by omega)] at hC
        obtain ⟨v,k1,k2⟩:=Cg (w:=w) (I:=I) cE hi hz len len (b6 _) (i'-off) j y t' hy ht hj
        refine ⟨v,hC.trans ?_,k2.mono hle.cV hle.bU⟩
        rw[show i'*P.cellsOf e+j-off*P.cellsOf e=(i'-off)*P.cellsOf e+j by rw[Nat.sub_mul];omega,qK]
        unfold Builtin.zeroCells
        rw[yx] at k1⊢
        exact k1
       ·rw[ai gy] at hy
        have:(off+len)*P.cellsOf e≤i'*P.cellsOf e:=di _ (by omega)
        rw[cZ] at this
        rw[ai (by omega)] at hC
        obtain ⟨u,k1,k2⟩:=lJ i' j y t' hy ht hj
        exact ⟨u,hC.trans (by simpa using k1),k2.mono hle.cV hle.bU⟩)
    exact ⟨_,_,_,_,cI,a1,a2,.aX rfl fun j v x hj hx=>by simp at hx⟩
end
section
variable {P:Program} {w w':World} {I I':Nat→Prop} {β β':Nat→Option Nat} {hp hp':Nat→Option an} {C:ag} {B:Nat} {M:Nat→Prop} {w0:Start}
theorem Vk (S:aE P w I β hp B M w0) {s:TypeId} {f:Nat} {v:Value} {x:V} {r:R} {rd:List Nat} (hv:ao P w I β hp v x)
  (h:(Fy P s f x).run C hp=some (r,rd)):cK P ((Instr.field s v f).run P w) w I β hp B M w0 r:=by
 unfold Fy Br at h
 split at h
 ·rename_i fs hu
  cases hf:fs[f]? with
  | none=>rw[hf] at h;cases h
  | some fd=>
   rw[hf] at h
   simp only[uG] at h
   obtain ⟨ht,h⟩:=aF h
   obtain ⟨d,sU⟩:=yi ht
   obtain ⟨i,hi⟩:=uX sU
   have aR:i.size=P.cellsOf fd.type:=by simp[Program.cellsOf,hi]
   cases x with
   | agg xs=>
    obtain ⟨cs,rfl,h1,U⟩:=hv.kf
    dsimp only at h
    cases ha:bz P fd.type with
    | true=>
     rw[ha] at h
     simp only[cond_true] at h
     obtain ⟨hc,h⟩:=aF h
     obtain rfl:=aM h
     rw[dC] at hc
     refine .same S (v:= .agg (cs.extract fd.offset (fd.offset+P.cellsOf fd.type))) ?_ (.agg (by simp;omega) fun j u y fm hy=> ?_)
     ·simp[Instr.field,run_underlying hu,hf,part,FX sU,ha,asAgg,sizeOf,typeInfo,hi,aR]
     ·have hj:j<P.cellsOf fd.type:=by
       have:=(gJ.1 fm).1
       simp at this;omega
      rw[eD hj,gI] at hy
      refine U (fd.offset+j) u y ?_ hy
      rw[Array.getElem?_extract] at fm
      split at fm
      ·exact fm
      ·cases fm
    | false=>
     rw[ha] at h
     simp only[cond_false] at h
     obtain ⟨y,hy,h⟩:=kS h
     obtain rfl:=aM h
     have aO:fd.offset<cs.size:=by rw[h1];exact (bj.1 hy).1
     refine .same S (v:=cs[fd.offset]) ?_ (U _ _ _ (jZ aO) hy)
     simp[Instr.field,run_underlying hu,hf,part,FX sU,ha,asAgg,aO]
   | _=>cases h
 ·cases h
theorem Vl (S:aE P w I β hp B M w0) {i:Nat} {v:Value} {xs:List V} {r:R} {rd:List Nat} (hv:ao P w I β hp v (.aX xs))
  (h:(Rd.opt xs[i]? fun v=> .ret ⟨v,[]⟩).run C hp=some (r,rd)):cK P ((Instr.extract v i).run P w) w I β hp B M w0 r:=by
 obtain ⟨cs,rfl,h1,U⟩:=hv.sH
 obtain ⟨y,hy,h⟩:=kS h
 obtain rfl:=aM h
 have aO:i<cs.size:=by rw[h1];exact (bj.1 hy).1
 exact .same S (v:=cs[i]) (by simp[Instr.extract,aO]) (U _ _ _ (jZ aO) hy)
theorem Vm (S:aE P w I β hp B M w0) {t:TypeId} {s:ByteArray} {l:List UInt8} {k:IntKind} {i:Int} {r:R} {rd:List Nat} (hu:P.underlying t=some .string) (hs:s.data.toList=l)
  (h:(Rd.opt (bif decide (0≤i) then (l[i.toNat]?).map fun b=>V.int .u8 b.toNat else none) fun v=> .ret ⟨.int .u8 v.toInt,[]⟩).run C hp=some (r,rd)):
  cK P ((Instr.index t (.string s) (.int k i)).run P w) w I β hp B M w0 r:=by
 obtain ⟨v,hv,h⟩:=kS h
 obtain rfl:=aM h
 cases hc:decide (0≤i) with
 | false=>rw[hc] at hv;cases hv
 | true=>
  rw[hc] at hv
  simp only[cond_true] at hv
  have h0:0≤i:=by simpa using hc
  cases hb:l[i.toNat]? with
  | none=>rw[hb] at hv;cases hv
  | some b=>
   rw[hb] at hv
   simp only[Option.map_some,dD] at hv
   subst hv
   have Vn:s[i.toNat]? =some b:=by
    subst hs
    obtain ⟨aO,he⟩:=bj.1 hb
    have Gu:i.toNat<s.size:=by simpa using aO
    rw[getElem?_pos s i.toNat Gu]
    congr 1
   refine .same S (v:= .int .u8 b.toNat) ?_ .int
   simp[Instr.index,asIntOf,run_underlying hu,h0,Vn]
theorem Gv (S:aE P w I β hp B M w0) (mx:Bool): ∀{vs:List Value} {xs:List V} {v:Value} {x:V} {r:R} {rd:List Nat},ao P w I β hp v x→vs.length=xs.length→
  (∀(j:Nat) u y,vs[j]? =some u→xs[j]? =some y→ao P w I β hp u y)→(uH mx x xs).run C hp=some (r,rd)→
  cK P ((vs.foldlM (if mx then Builtin.max2 else Builtin.min2) v).run P w) w I β hp B M w0 r
 | [],[],v,x,r,rd,hv,_,_,h=>by
  have:r=⟨x,[]⟩:=by
   cases x<;>(simp only[uH] at h;exact (aM h).symm)
  subst this
  exact .same S (by simp) hv
 | [],_::_,v,x,r,rd,hv,hl,_,h=>by simp at hl
 | _::_,[],v,x,r,rd,hv,hl,_,h=>by simp at hl
 | u::vs,y::xs,v,x,r,rd,hv,hl,hx,h=>by
  cases x<;>cases y<;>simp only[uH] at h<;>first|(cases h;done)|skip
  rename_i k a k' b
  obtain ⟨hc,h4⟩:=aF h
  clear h
  obtain rfl:k=k':=by simpa using hc
  have hu:=hx 0 u _ rfl rfl
  rw[hv.dS,hu.dS]
  have ih:=Gv S mx (vs:=vs) (xs:=xs) (v:= .int k (bif mx then (if b>a then b else a) else (if b<a then b else a))) .int (by simpa using hl)
   (fun j u y h1 U=>hx (j+1) u y (by simpa using h1) (by simpa using U)) h4
  cases mx with
  | true=>simpa[List.foldlM_cons,Builtin.max2] using ih
  | false=>simpa[List.foldlM_cons,Builtin.min2] using ih
theorem p7 {n cap:Nat} {isS:Bool} {lo hi:Option V} {lov hiv:Option Value} {k:Nat→Nat→Rd R} {r:R} {rd:List Nat} (hn:n≤cap)
  (iv: ∀x,lo=some x→∃v,lov=some v∧ao P w I β hp v x) (gA: ∀x,hi=some x→∃v,hiv=some v∧ao P w I β hp v x) (mK:lo=none→lov=none) (nJ:hi=none→hiv=none)
  (h:(qT n lo hi k).run C hp=some (r,rd)): ∃l u,l≤u∧u≤n∧(Instr.sliceBounds isS n cap lov hiv none).run P w= .ok (l,u,cap) w∧(k l u).run C hp=some (r,rd):=by
 have ok: ∀(kk:IntKind) (i:Int) (y:Nat) (c:BoundsCode),0≤i→i≤y→(Instr.sliceBound (.int kk i) y c).run P w= .ok i.toNat w:=by
  intro kk i y c h1 U
  simp[Instr.sliceBound,asIntOf,h1,U]
 unfold qT at h
 cases lo with
 | none=>
  rw[mK rfl]
  cases hi with
  | none=>
   rw[nJ rfl]
   exact ⟨0,n,jY _,b6 _,by simp[Instr.sliceBounds],h⟩
  | some x=>
   obtain ⟨v,rfl,hv⟩:=gA x rfl
   cases x<;>simp only at h<;>first|(cases h;done)|skip
   rename_i kk u
   obtain ⟨hc,h⟩:=aF h
   simp only[aI,dM] at hc
   rw[hv.dS]
   have:=ok kk u cap (if isS then .sliceAcap else .sliceAlen) hc.1 (by omega)
   exact ⟨0,u.toNat,jY _,by omega,by simp[Instr.sliceBounds,this],h⟩
 | some x=>
  obtain ⟨v,rfl,hv⟩:=iv x rfl
  cases hi with
  | none=>
   rw[nJ rfl]
   cases x<;>simp only at h<;>first|(cases h;done)|skip
   rename_i kk l
   obtain ⟨hc,h⟩:=aF h
   simp only[aI,dM] at hc
   rw[hv.dS]
   have:=ok kk l n .sliceB hc.1 (by omega)
   exact ⟨l.toNat,n,by omega,b6 _,by simp[Instr.sliceBounds,this],h⟩
  | some y=>
   obtain ⟨v2,rfl,pM⟩:=gA y rfl
   cases x<;>cases y<;>simp only at h<;>first|(cases h;done)|skip
   rename_i kk l Vo u
   obtain ⟨hc,h⟩:=aF h
   simp only[aI,dM] at hc
   rw[hv.dS,pM.dS]
   have h1:=ok Vo u cap (if isS then .sliceAcap else .sliceAlen) (by omega) (by omega)
   have U:=ok kk l u.toNat .sliceB hc.1 (by omega)
   exact ⟨l.toNat,u.toNat,by omega,by omega,by simp[Instr.sliceBounds,h1,U],h⟩
theorem Cm {a:Option Addr} {t e:TypeId} {i:TypeInfo} (hu:P.underlying t=some (.slice e)) (hi:P.info? e=some i) {lov hiv:Option Value}
  (hb:(Instr.sliceBounds true 0 0 lov hiv none).run P w= .ok (0,0,0) w):(Instr.sliceAt t (.slice a 0 0) lov hiv none).run P w= .ok (.slice a 0 0) w:=by
 cases a<;>simp[Instr.sliceAt,Instr.slice,run_underlying hu,hb,sizeOf,typeInfo,hi]
theorem Gw {t e:TypeId} {i:TypeInfo} {b o len cap l u:Nat} (hu:P.underlying t=some (.slice e)) (hi:P.info? e=some i) {lov hiv:Option Value} (huc:u≤cap)
  (hb:(Instr.sliceBounds true len cap lov hiv none).run P w= .ok (l,u,cap) w): ∃o',(0<u-l→o'=o+l*i.size)∧(Instr.sliceAt t (.slice (some ⟨b,o,none⟩) len cap) lov hiv none).run P w= .ok (.slice (some ⟨b,o',none⟩) (u-l) (cap-l)) w:=by
 by_cases hc:cap=l
 ·subst hc
  refine ⟨o,fun h=>by omega,?_⟩
  ·simp[Instr.sliceAt,Instr.slice,run_underlying hu,hb,sizeOf,typeInfo,hi]
 ·refine ⟨o+l*i.size,fun _=>rfl,?_⟩
  simp[Instr.sliceAt,Instr.slice,run_underlying hu,hb,sizeOf,typeInfo,hi,hc,mF]
theorem Vp (s:ByteArray) (l:List UInt8) (h:s.data.toList=l) (a b:Nat):(s.extract a b).data.toList=(l.drop a).take (b-a):=by
 subst h
 simp[ByteArray.data_extract]
theorem Vq (S:aE P w I β hp B M w0) {t:TypeId} {v:Value} {x:V} {lo hi:Option V} {lov hiv:Option Value} {r:R} {rd:List Nat} (hv:ao P w I β hp v x)
  (iv: ∀x,lo=some x→∃v,lov=some v∧ao P w I β hp v x) (gA: ∀x,hi=some x→∃v,hiv=some v∧ao P w I β hp v x) (mK:lo=none→lov=none) (nJ:hi=none→hiv=none)
  (h:(Bx P t x lo hi).run C hp=some (r,rd)):cK P ((Instr.sliceAt t v lov hiv none).run P w) w I β hp B M w0 r:=by
 unfold Bx at h
 cases hu:P.underlying t with
 | none=>rw[hu] at h;cases h
 | some d=>
  rw[hu] at h
  cases d<;>simp only at h<;>first|(cases h;done)|skip
  case string=>
   cases x<;>simp only at h<;>first|(cases h;done)|skip
   rename_i l
   obtain ⟨s,rfl,hs⟩:=hv.lF
   have aR:l.length=s.size:=by rw[←hs];simp
   obtain ⟨a,u,h1,U,h3,h4⟩:=p7 (isS:=false) (cap:=s.size) (by omega) iv gA mK nJ h
   obtain rfl:=aM h4
   rw[aR] at h3
   refine .same S (v:= .string (s.extract a u)) ?_ (.str (Vp s l hs a u))
   simp[Instr.sliceAt,Instr.slice,run_underlying hu,h3]
  case slice e=>
   cases x<;>simp only at h<;>first|(cases h;done)|skip
   case list e' es=>
    obtain ⟨hc,h⟩:=aF h
    simp only[aI,aP] at hc
    obtain ⟨dq,au⟩:=hc
    obtain ⟨i,z,dG,_,aR,_⟩:=jK au
    cases hv with
    | list hp'=>
     cases hp' with
     | nil=>
      obtain ⟨a,u,h1,U,h3,h4⟩:=p7 (n:=0) (isS:=true) (cap:=0) (b6 _) iv gA mK nJ h
      obtain rfl:=aM h4
      obtain rfl:u=0:=by omega
      obtain rfl:a=0:=by omega
      exact .same S (Cm hu dG h3) (by simpa using ao.list ic.nil)
     | @emp ad cap=>
      obtain ⟨a,u,h1,U,h3,h4⟩:=p7 (n:=0) (isS:=true) (cap:=cap) (jY _) iv gA mK nJ h
      obtain rfl:=aM h4
      obtain rfl:u=0:=by omega
      obtain rfl:a=0:=by omega
      refine .same S (v:= .slice (some ad) 0 cap) ?_ (by simpa using ao.list ic.emp)
      by_cases hc:cap=0
      ·subst hc
       simp[Instr.sliceAt,Instr.slice,run_underlying hu,h3,sizeOf,typeInfo,dG]
      ·simp[Instr.sliceAt,Instr.slice,run_underlying hu,h3,sizeOf,typeInfo,dG,hc,Addr.add]
     | @list b o len cap _ g hl bR hI fF hx=>
      obtain ⟨a,u,h1,U,h3,h4⟩:=p7 (isS:=true) (cap:=cap) (by omega) iv gA mK nJ h
      obtain rfl:=aM h4
      rw[hl] at U h3
      obtain ⟨o',iO,cI⟩:=Gw (b:=b) (o:=o) hu dG (by omega) h3
      have fU:e=e':=dq
      refine .same S cI (.list ?_)
      rw[←fU]
      rw[←fU] at fF hx hI
      have hlen:((es.drop a).take (u-a)).length=u-a:=by simp;omega
      refine .list (fun i j=>g (a+i) j) hlen (by omega) (fun h=>hI (qG h (di _ (by omega)))) (fun i j hi hj=> ?_) (fun i j y t' hy ht=> ?_)
      ·have:=fF (a+i) j (by omega) hj
       rw[cZ,nj,←nj o] at this
       rw[iO (by omega),aR]
       exact this
      ·have hi:i<u-a:=by rw[←hlen];exact (bj.1 hy).1
       rw[eD hi,gI] at hy
       exact hx (a+i) j y t' hy ht
   case whole e' id=>
    obtain ⟨l,h⟩:=run_get h
    cases ab:hp id with
    | none=>rw[ab] at h;cases h
    | some blk=>
     rw[ab] at h
     cases blk<;>simp only at h<;>first|(cases h;done)|skip
     rename_i dj es fz
     obtain ⟨hc,h9⟩:=aF h
     clear h
     simp only[aI,aP] at hc
     obtain ⟨dq,ig,au⟩:=hc
     obtain ⟨i,z,dG,_,aR,_⟩:=jK au
     cases hv with
     | dP hd=>rw[ab] at hd;cases hd
     | dZ hd=>rw[ab] at hd;cases hd
     | dm hd hb=>
      rw[ab] at hd
      cases hd
      obtain ⟨a,u,h1,U,h3,h4⟩:=p7 (n:=0) (isS:=true) (cap:=0) (b6 _) iv gA mK nJ h9
      obtain rfl:=aM h4
      obtain rfl:u=0:=by omega
      obtain rfl:a=0:=by omega
      exact .same S (Cm hu dG h3) (.fl ab hb)
     | @whole _ _ aJ my b cap hd hb yw bR hm=>
      have ek:=hd
      rw[ab] at hd
      cases hd
      obtain ⟨a,u,h1,U,h3,h4⟩:=p7 (isS:=true) (cap:=cap) bR iv gA mK nJ h9
      obtain rfl:=aM h4
      obtain ⟨o',iO,cI⟩:=Gw (b:=b) (o:=0) hu dG (by omega) h3
      have fU:e=e':=dq
      exact .same S cI (.sub ek hb (by omega) (by omega) (fun h=>by rw[iO h,aR,fU,gi]))
   case sub e' id off len=>
    obtain ⟨l,h⟩:=run_get h
    cases ab:hp id with
    | none=>rw[ab] at h;cases h
    | some blk=>
     rw[ab] at h
     cases blk<;>simp only at h<;>first|(cases h;done)|skip
     rename_i dj es fz
     obtain ⟨hc,h⟩:=aF h
     simp only[aI,aP] at hc
     obtain ⟨dq,ig,au⟩:=hc
     obtain ⟨i,z,dG,_,aR,_⟩:=jK au
     cases hv with
     | fE hd=>rw[ab] at hd;cases hd
     | fl hd hb=>
      have ek:=hd
      obtain ⟨a,u,h1,U,h3,h4⟩:=p7 (isS:=true) (cap:=0) (b6 _) iv gA mK nJ h
      obtain rfl:=aM h4
      obtain rfl:u=0:=by omega
      obtain rfl:a=0:=by omega
      exact .same S (Cm hu dG h3) (.fl ek hb)
     | @sub _ _ _ _ aJ my b o cap hd hb j9 bR ho=>
      have ek:=hd
      obtain ⟨a,u,h1,U,h3,h4⟩:=p7 (isS:=true) (cap:=cap) bR iv gA mK nJ h
      obtain rfl:=aM h4
      obtain ⟨o',iO,cI⟩:=Gw (b:=b) (o:=o) hu dG (by omega) h3
      have fU:e=e':=dq
      exact .same S cI (.sub ek hb (by omega) (by omega) (fun h=>by rw[iO h,aR,ho (by omega),fU,cZ]))
theorem Vr (S:aE P w I β hp B M w0) {t:TypeId} {v:Value} {x:V} {lo hi mx:Option V} {lov hiv LD:Option Value} {r:R} {rd:List Nat} (hv:ao P w I β hp v x)
  (iv:lo=none→lov=none) (gA: ∀y,hi=some y→∃u,hiv=some u∧ao P w I β hp u y) (nC: ∀y,mx=some y→∃u,LD=some u∧ao P w I β hp u y)
  (h:(Fw P t x lo hi mx).run C hp=some (r,rd)):cK P ((Instr.sliceAt t v lov hiv LD).run P w) w I β hp B M w0 r:=by
 unfold Fw at h
 cases hu:P.underlying t with
 | none=>rw[hu] at h;cases h
 | some d=>
  rw[hu] at h
  cases d<;>(try (cases h;done))
  rename_i e
  cases lo<;>(try (cases h;done))
  cases hi<;>(try (cases h;done))
  rename_i ve
  cases ve<;>(try (cases h;done))
  cases mx<;>(try (cases h;done))
  rename_i Vs
  cases Vs<;>(try (cases h;done))
  obtain ⟨hc,h9⟩:=aF h
  clear h
  have h:=h9
  clear h9
  simp only[aI,dM] at hc
  obtain ⟨rfl,rfl,au⟩:=hc
  obtain ⟨i,z,dG,_,_,_⟩:=jK au
  obtain ⟨u1,rfl,k1⟩:=gA _ rfl
  obtain ⟨u2,rfl,k2⟩:=nC _ rfl
  rw[k1.dS,k2.dS,iv rfl]
  have run: ∀{k k2:IntKind} (a:Option Addr) (len cap:Nat),(Instr.sliceAt t (.slice a len cap) none (some (.int k 0)) (some (.int k2 0))).run P w= .ok (.slice a 0 0) w:=by
   intro k k2 a len cap
   cases a<;>simp[Instr.sliceAt,Instr.slice,Instr.sliceBounds,Instr.sliceBound,asIntOf,run_underlying hu,sizeOf,typeInfo,dG]
  cases x<;>(try (cases h;done))
  ·simp only at h
   obtain rfl:=aM h
   cases hv with
   | list hp'=>cases hp'<;>exact .same S (run _ _ _) .nilS
  ·simp only at h
   obtain rfl:=aM h
   cases hv
   exact .same S (run _ _ _) .nilS
  ·rename_i e' id
   simp only at h
   obtain ⟨l,h⟩:=run_get h
   cases ab:hp id with
   | none=>rw[ab] at h;cases h
   | some blk=>
    rw[ab] at h
    cases blk<;>simp only at h<;>first|(cases h;done)|skip
    all_goals
     obtain rfl:=aM h
     cases hv with
     | dP hd=>rw[ab] at hd;cases hd
     | dZ hd=>exact .same S (run _ _ _) .nilS
     | dm hd hb=>exact .same S (run _ _ _) .nilS
     | whole hd=>exact .same S (run _ _ _) .nilS
theorem Vt (S:aE P w I β hp B M w0) {t:TypeId} {v ix:Value} {x y:V} {r:R} {rd:List Nat} (hv:ao P w I β hp v x) (hy:ao P w I β hp ix y)
  (h:(Fz P t x y).run C hp=some (r,rd)):cK P ((Instr.indexAt t v ix).run P w) w I β hp B M w0 r:=by
 unfold Fz at h
 cases hu:P.underlying t with
 | none=>rw[hu] at h;cases h
 | some d=>
  rw[hu] at h
  cases y<;>(try (cases d<;>cases h;done))
  rename_i k i
  rw[hy.dS]
  cases d<;>simp only at h<;>first|(cases h;done)|skip
  case slice e=>
   have run: ∀(b o len cap:Nat) (ie:TypeInfo),P.info? e=some ie→0≤i→i<(len:Int)→(Instr.indexAt t (.slice (some ⟨b,o,none⟩) len cap) (.int k i)).run P w= .ok (.pointer (some ⟨b,o+i.toNat*ie.size,none⟩)) w:=by
    intro b o len cap ie jk h0 h1
    simp[Instr.indexAt,asIntOf,run_underlying hu,h0,h1,sizeOf,typeInfo,jk,mF]
   cases x<;>simp only at h<;>first|(cases h;done)|skip
   case list e' es=>
    obtain ⟨hc,h⟩:=aF h
    simp only[aI,aP] at hc
    obtain ⟨dq,au⟩:=hc
    have fU:e=e':=dq
    obtain ⟨ie,z,dG,_,aR,_⟩:=jK au
    obtain ⟨el,cE,h⟩:=kS h
    obtain rfl:=aM h
    unfold idx at cE
    cases h0:decide (0≤i) with
    | false=>rw[h0] at cE;cases cE
    | true=>
     rw[h0] at cE
     simp only[cond_true] at cE
     have vf:0≤i:=by simpa using h0
     have aO:i.toNat<es.length:=(bj.1 cE).1
     cases hv with
     | list hp'=>
      cases hp' with
      | nil=>simp at aO
      | emp=>simp at aO
      | @list b o len cap _ g hl bR hI fF hx=>
       rw[←fU] at fF hx hI
       refine .same S (run b o len cap ie dG vf (by omega)) ?_
       have bK:=uY (P:=P) e el
       have Gx:=e8 au
       have LF:(bif bz P e then flat P e else [e])=aQ P e:=rfl
       rw[LF]
       refine .pref (by rw[bK]) (fun _=>hI ?_) (fun j t' y' ht yf=> ?_)
       ·have:=Nat.mul_pos (show 0<len by omega) (jH au).2
        exact this
       ·obtain ⟨t2,a1,a2⟩:=FY yf
        rw[ht] at a1;cases a1
        have hj:j<P.cellsOf e:=by rw[←Gx];exact (bj.1 ht).1
        have gr:=hx i.toNat j el t' cE ht
        refine ⟨g i.toNat j,?_,?_⟩
        ·rw[aR,nj];exact fF i.toNat j (by omega) hj
        ·rw[a2,gr.rh];exact gr
   case whole e' id=>
    obtain ⟨l,h⟩:=run_get h
    cases ab:hp id with
    | none=>rw[ab] at h;cases h
    | some blk=>
     rw[ab] at h
     cases blk<;>simp only at h<;>first|(cases h;done)|skip
     rename_i dj es fz
     obtain ⟨hc,h⟩:=aF h
     simp only[aI,aP] at hc
     obtain ⟨dq,ig⟩:=hc
     obtain ⟨en,h⟩:=aF h
     simp only[aI,dM] at en
     obtain rfl:=aM h
     cases hv with
     | dP hd=>rw[ab] at hd;cases hd
     | dZ hd=>rw[ab] at hd;cases hd
     | dm hd hb=>rw[ab] at hd;cases hd;simp at en;omega
     | @whole _ _ aJ my b cap hd hb yw bR hm=>
      have ek:=hd
      rw[ab] at hd
      cases hd
      have hr:=S.h.rel id _ ab
      cases hr with
      | dp az=>rw[az] at hb;cases hb
      | arr au az hh hs hf dQ hx=>
       have fU:e=e':=dq
       obtain ⟨ie,z,dG,_,aR,_⟩:=jK au
       rw[←fU] at dG aR
       refine .same S (run b 0 _ cap ie dG en.1 en.2) ?_
       have:=ao.ptr (P:=P) (w:=w) (I:=I) (i:=i.toNat) (c:=0) ek (by simp) hb
       simp only[an.sz] at this
       rw[gi,aR,fU]
       simpa using this
     rename_i dj es aq
     obtain ⟨hc,h⟩:=aF h
     simp only[aI,aP] at hc
     obtain ⟨dq,ig⟩:=hc
     obtain ⟨en,h⟩:=aF h
     simp only[aI,dM] at en
     obtain rfl:=aM h
     cases hv with
     | dP hd=>rw[ab] at hd;cases hd
     | dm hd hb=>rw[ab] at hd;cases hd
     | whole hd=>rw[ab] at hd;cases hd
     | @dZ _ _ aJ vers' b cap hd hb yw bR hm=>
      have ek:=hd
      rw[ab] at hd
      cases hd
      have au:=(S.rows ek hb .here).ok
      have fU:e=e':=dq
      obtain ⟨ie,z,dG,_,aR,_⟩:=jK au
      rw[←fU] at dG aR
      refine .same S (run b 0 _ cap ie dG en.1 en.2) ?_
      have:=ao.ptr (P:=P) (w:=w) (I:=I) (i:=i.toNat) (c:=0) ek (by simp) hb
      simp only[an.sz] at this
      rw[gi,aR,fU]
      simpa using this
   case row e' id ver path=>
    obtain ⟨e0,es,aq,l,ab,h1,U,h3,h⟩:=nB h
    obtain ⟨e2,v',k1,k2,h⟩:=uS h
    obtain ⟨hc,h⟩:=aF h
    simp only[aI,aP] at hc
    obtain ⟨dq,ig⟩:=hc
    obtain ⟨en,h⟩:=aF h
    simp only[aI,dM] at en
    obtain rfl:=aM h
    cases hv with
    | je hd hp'=>rw[ab] at hd;cases hd;exact absurd hp' (uT h1 U h3)
    | @row v _ e0 t1 _ ver b i1 c1 q es l1 aq hd hb hq Gb ht fF=>
     have Vu:=fF
     obtain ⟨b',e3,aJ,Ca,T,f,x,m1,m2,m3,m4,m5,m6⟩:=fF
     have il:=hd
     rw[ab] at il
     cases il
     obtain ⟨n1,n2⟩:=BM m1 m3 m4 ht m5
     rw[n2] at k2
     cases k2
     simp only[V.toList] at en
     have hR:=S.rows hd hb m1
     obtain ⟨C1,c2,c3,c4⟩:=hR.cells
     rw[m2] at c2
     cases c2
     have hj:c1<P.cellsOf e3:=by
      rw[←e8 hR.ok];exact (bj.1 m4).1
     obtain ⟨v2,d1,d2⟩:=c4 _ _ _ _ m3 m4 hj
     rw[m6] at d1
     cases d1
     rw[m5] at d2
     cases d2 with
     | fk a _=>unfold fh at a;rw[ht] at a;cases a
     | emp _ _=>simp at en;omega
     | @row _ _ b1 cap _ hl _ _ _=>
      have au:=(S.rows hd hb (m1.snoc m2 m3 m4 ht m5 hl m6)).ok
      have fU:e=e':=dq
      obtain ⟨ie,z,dG,_,aR,_⟩:=jK au
      rw[←fU] at dG aR
      refine .same S (run b1 0 _ cap ie dG en.1 en.2) ?_
      have:=ao.cm (P:=P) (I:=I) (i:=i.toNat) (c:=0) hd hb hq Gb ht hl Vu
      rw[gi,aR,fU]
      simpa using this
   case sub e' id off len=>
    obtain ⟨l,h⟩:=run_get h
    cases ab:hp id with
    | none=>rw[ab] at h;cases h
    | some blk=>
     rw[ab] at h
     cases blk<;>simp only at h<;>first|(cases h;done)|skip
     rename_i dj es fz
     obtain ⟨hc,h⟩:=aF h
     simp only[aI,aP] at hc
     obtain ⟨dq,ig⟩:=hc
     obtain ⟨en,h⟩:=aF h
     simp only[aI,dM] at en
     obtain rfl:=aM h
     cases hv with
     | fE hd=>rw[ab] at hd;cases hd
     | fl hd hb=>simp at en;omega
     | @sub _ _ _ _ aJ my b o cap hd hb j9 bR ho=>
      have ek:=hd
      rw[ab] at hd
      cases hd
      have hr:=S.h.rel id _ ab
      cases hr with
      | dp az=>rw[az] at hb;cases hb
      | arr au az hh hs hf dQ hx=>
       have fU:e=e':=dq
       obtain ⟨ie,z,dG,_,aR,_⟩:=jK au
       rw[←fU] at dG aR
       refine .same S (run b o _ cap ie dG en.1 en.2) ?_
       have:=ao.ptr (P:=P) (w:=w) (I:=I) (i:=off+i.toNat) (c:=0) ek (by simp) hb
       simp only[an.sz] at this
       rw[ho (by omega),aR,fU,←cZ]
       simpa using this
  case array n e=>
   have run: ∀(b o:Nat) (ie:TypeInfo),P.info? e=some ie→0≤i→i<(n:Int)→(Instr.indexAt t (.pointer (some ⟨b,o,none⟩)) (.int k i)).run P w= .ok (.pointer (some ⟨b,o+i.toNat*ie.size,none⟩)) w:=by
    intro b o ie jk h0 h1
    simp[Instr.indexAt,asIntOf,run_underlying hu,h0,h1,sizeOf,typeInfo,jk,mF,Instr.sureAddr]
   cases x<;>simp only at h<;>first|(cases h;done)|skip
   case ptr id j c=>
    obtain ⟨⟨blk,ab,hd⟩,l,h⟩:=uW h
    obtain ⟨en,h⟩:=aF h
    simp only[aI,dM] at en
    obtain rfl:=aM h
    obtain ⟨b,hb,rfl⟩:=hv.gv ab hd
    obtain ⟨d,sU⟩:=yi en.1
    obtain ⟨ie,jk⟩:=uX sU
    have aR:ie.size=P.cellsOf e:=by simp[Program.cellsOf,jk]
    refine .same S (run b _ ie jk en.2.1 en.2.2) ?_
    rw[aR,nj]
    exact .ptr ab hd hb
   case pref ts cs=>
    obtain ⟨en,h⟩:=aF h
    simp only[aI,dM] at en
    obtain rfl:=aM h
    obtain ⟨b,o,rfl,h1,U,h3⟩:=hv.BV
    obtain ⟨d,sU⟩:=yi en.1
    obtain ⟨ie,jk⟩:=uX sU
    have aR:ie.size=P.cellsOf e:=by simp[Program.cellsOf,jk]
    refine .same S (run b _ ie jk en.2.1 en.2.2) ?_
    rw[aR]
    exact ao.KY h1 U h3
end
end Go.AM
namespace Go.AM
open Go.Maps
section
variable {P:Program} {w w':World} {I I':Nat→Prop} {β β':Nat→Option Nat} {hp hp':Nat→Option an} {C:ag} {B:Nat} {M:Nat→Prop} {w0:Start}
theorem Vv (S:aE P w I β hp B M w0) {nb:Nat} {t:TypeId} {v:Value} {x:V} {lo hi:Option V} {lov hiv:Option Value} {r:R} {rd:List Nat} (hv:ao P w I β hp v x)
  (gA: ∀x,hi=some x→∃v,hiv=some v∧ao P w I β hp v x) (mK:lo=none→lov=none)
  (h:(By P nb t x lo hi).run C hp=some (r,rd)):cK P ((Instr.sliceAt t v lov hiv none).run P w) w I β hp B M w0 r:=by
 unfold By at h
 split at h
 case h_2=>cases h
 rename_i e e' id k hh hu
 obtain ⟨l,h1⟩:=run_get h
 cases ab:hp id with
 | none=>rw[ab] at h1;cases h1
 | some blk=>
  rw[ab] at h1
  cases blk<;>simp only at h1<;>first|(cases h1;done)|skip
  rename_i e2 es fz
  cases fz with
  | true=>cases h1
  | false=>
  obtain ⟨hc,U⟩:=aF h1
  simp only[aI,aP,dM] at hc
  obtain ⟨rfl,rfl,au,LG,LH⟩:=hc
  obtain ⟨hn,rfl⟩:=mI U
  have iv:=mK rfl
  subst iv
  obtain ⟨Gy,rfl,Vw⟩:=gA _ rfl
  obtain rfl:=Vw.dS
  obtain ⟨i,z,dG,_,aR,_⟩:=jK au
  have bw:nb≠id:=fun e=>by rw[e,ab] at hn;cases hn
  obtain ⟨k1,k2⟩:=BQ S ab
  have jL:aH hp id (some an.dead) nb=none:=by rw[dR _ _ bw];exact hn
  have LI: ∀cap,es.length≤cap→(Instr.sliceBounds true es.length cap none (some (.int k hh)) none).run P w= .ok (0,hh.toNat,cap) w:=by
   intro cap bR
   have hb:(qT es.length none (some (.int k hh)) fun l u=> .aB (decide (l=0∧u=hh.toNat)) (.ret (⟨.undef,[]⟩:R))).run C hp=some (⟨.undef,[]⟩,[]):=by
    simp[qT,Rd.run,LG,LH]
   obtain ⟨l,u,b1,b2,b3,b4⟩:=p7 (P:=P) (w:=w) (I:=I) (β:=β) (hp:=hp) (n:=es.length) (isS:=true) (cap:=cap) (lov:=none) (hiv:=some (.int k hh)) bR (by simp) (fun x hx=>by cases hx;exact ⟨_,rfl,.int⟩) (fun _=>rfl) (by simp) hb
   obtain ⟨b5,_⟩:=aF b4
   simp only[dM] at b5
   obtain ⟨rfl,rfl⟩:=b5
   exact b3
  cases hv with
  | dP hd=>rw[ab] at hd;cases hd
  | dZ hd=>rw[ab] at hd;cases hd
  | @dm _ _ _ a0 hd hb=>
   rw[ab] at hd
   cases hd
   have F4:hh=0:=by simpa using Int.le_antisymm LH LG
   subst F4
   have az:=LI 0 (b6 _)
   obtain ⟨a1,a2⟩:=BP k2 e jL
   refine ⟨_,w,I,_,Cm hu dG az,k1.trans a1,a2,.dm (cH _ _ _) (cH _ _ _)⟩
  | @whole _ _ aJ my b cap hd hb yw bR hm=>
   have ek:=hd
   rw[ab] at hd
   cases hd
   have hr:=S.h.rel id _ ab
   cases hr with
   | dp az=>rw[az] at hb;cases hb
   | @arr _ _ _ b' Ca _ az Cn oO hf dQ lJ=>
    rw[hb] at az
    cases az
    have iP:(es.take hh.toNat).length=hh.toNat:=by rw[ff];omega
    have cI:(Instr.sliceAt t (.slice (some ⟨b,0,none⟩) es.length cap) none (some (.int k hh)) none).run P w= .ok (.slice (some ⟨b,0,none⟩) hh.toNat cap) w:=by
     have az:=LI cap bR
     by_cases LJ:cap=0
     ·subst LJ
      simp[Instr.sliceAt,Instr.slice,run_underlying hu,az,sizeOf,typeInfo,dG]
     ·simp[Instr.sliceAt,Instr.slice,run_underlying hu,az,sizeOf,typeInfo,dG,LJ,mF]
    have pP: ∀aC blk',aH hp id (some an.dead) aC=some blk'→¬bn P w (β aC) blk' b:=by
     intro aC blk' h1 U
     by_cases iu:aC=id
     ·subst iu;rw[cH] at h1;cases h1;exact U.alive rfl
     ·rw[dR _ _ iu] at h1
      exact iu (S.h.inj aC id blk' _ b h1 ab U (.root (by simp) hb))
    obtain ⟨a1,a2⟩:=ye k2 (blk:= .arr e (es.take hh.toNat) false) (w':=w) jL pP (dQ rfl) (fun _ _ _=>rfl) (b6 _) ⟨rfl,rfl⟩ (S.h.q0 id _ b ab (by simp) hb)
     (fun b' h=>(cP (h.flat (by simp))).symm) (fun hle=> .arr au rfl Cn (by rw[iP];exact lu (di _ (by omega)) oO) (fun h=>by cases h) (fun _=>dQ rfl) fun i j y t' hy ht hj=>by
      have p6:=(bj.1 hy).1
      rw[iP] at p6
      rw[eD p6] at hy
      obtain ⟨v,hv,hp⟩:=lJ i j y t' hy ht hj
      exact ⟨v,hv,hp.mono hle.cV hle.bU⟩)
    refine ⟨_,w,I,_,cI,k1.trans a1,a2,?_⟩
    have:=ao.whole (P:=P) (w:=w) (I:=I) (β:=aH β nb (some b)) (hp:=aH (aH hp id (some .dead)) nb (some (.arr e (es.take hh.toNat) false))) (cap:=cap) (cH _ _ _) (cH _ _ _) yw (by rw[iP];omega) hm
    rw[iP] at this
    exact this
theorem p8 {t:TypeId} {x:V} (h:oA P t x=true):
  (∃q n,P.underlying t=some (.int q)∧x= .int q n∧Fq q n=true)∨(∃b,P.underlying t=some .bool∧x= .bool b)∨(∃s,P.underlying t=some .string∧x= .str s∧s.length≤maxLen):=by
 unfold oA at h
 split at h
 ·rename_i q q' n hu
  simp only[aI,dM] at h
  obtain ⟨rfl,h⟩:=h
  exact .inl ⟨_,_,hu,rfl,h⟩
 ·rename_i b hu
  exact .inr (.inl ⟨_,hu,rfl⟩)
 ·rename_i s hu
  exact .inr (.inr ⟨_,hu,rfl,by simpa using h⟩)
 ·cases h
theorem size_data (s:ByteArray):s.data.toList.length=s.size:=by simp
theorem Vx {q:IntKind} {n:Int} (h:Fq q n=true):(Lit.int q n).wf=true:=h
theorem LL {t:TypeId} {x:V} {v:Value} (h:oA P t x=true) (hv:iN v x): ∃l,mapKey P t v=some l∧∀d,P.keyLits (d+1) t [v]=some [l]:=by
 rcases p8 h with ⟨q,n,hu,rfl,hn⟩|⟨b,hu,rfl⟩|⟨s,hu,rfl,hs⟩
 ·obtain rfl:v= .int q n:=hv
  have hw:=Vx hn
  exact ⟨.int q n,by simp[mapKey,hu,hw],fun d=>by simp[Program.keyLits,hu,hw]⟩
 ·obtain rfl:v= .bool b:=hv
  exact ⟨.bool b,by simp[mapKey,hu],fun d=>by simp[Program.keyLits,hu]⟩
 ·obtain ⟨s',rfl,Gz⟩:=hv
  have:s'.size≤maxLen:=by rw[←size_data,Gz];exact hs
  exact ⟨.string s'.data.toList,by simp[mapKey,hu,this],fun d=>by simp[Program.keyLits,hu,this]⟩
theorem GA {t:TypeId}: ∀{xs:List V} {j:Nat} {x:V},pA P t xs=true→xs[j]? =some x→oA P t x=true
 | [],j,x,_,h=>by simp at h
 | y::ys,0,x,h,hx=>by
  simp only[pA,aI] at h
  simp at hx;subst hx;exact h.1
 | y::ys,j+1,x,h,hx=>by
  simp only[pA,aI] at h
  exact GA (j:=j) h.2 (by simpa using hx)
theorem mapM_some {α β:Type} {f:α→Option β}: ∀{l:List α},(∀a∈l,∃b,f a=some b)→∃bs,l.mapM f=some bs
 | [],_=>⟨[],rfl⟩
 | a::l,h=>by
  obtain ⟨b,hb⟩:=h a (qL ..)
  obtain ⟨bs,gu⟩:=mapM_some (l:=l) fun x hx=>h x (kJ _ hx)
  exact ⟨b::bs,by simp[List.mapM_cons,hb,gu]⟩
inductive GB (P:Program) (t:TypeId) (x:V):Prop
 | one:oA P t x=true→x.cells=[x]→GB P t x
 | arr {n:Nat} {e:TypeId} {xs:List V}:x= .agg xs→WideMaps.ArrKey P t e n→xs.length=n→0<P.types.size→pA P e xs=true→GB P t x
theorem vg {t:TypeId} {x:V} (h:mw P t x=true):GB P t x:=by
 unfold mw at h
 split at h
 ·rename_i n e xs hu
  simp only[aI,aP] at h
  rw[jw] at h
  exact .arr rfl ⟨hu,h.2.2.2.1,h.2.1,h.2.2.1⟩ h.1 h.2.2.2.2.1 h.2.2.2.2.2
 ·refine .one h ?_
  rcases p8 h with ⟨q,n,hu,rfl,hn⟩|⟨b,hu,rfl⟩|⟨s,hu,rfl,hs⟩<;>rfl
theorem pI.one {x:V} {v:Value} (h:pI v x) (hx:x.cells=[x]):iN v x:=by
 cases x<;>first|exact h|skip
 simp only[V.cells] at hx
 rename_i cs
 have:=congrArg List.length hx
 cases cs with
 | nil=>simp at hx
 | cons c cs=>
  simp only[List.cons.injEq] at hx
  have:=congrArg SizeOf.sizeOf hx.1
  simp at this
  omega
theorem Co {t:TypeId} {x:V} {v:Value} (h:mw P t x=true) (hv:pI v x): ∃l,Go.keyOf P t v=some l:=by
 cases vg h with
 | one h1 hx=>
  obtain ⟨l,hl,_⟩:=LL h1 (hv.one hx)
  refine ⟨l,?_⟩
  rcases p8 h1 with ⟨q,n,hu,_⟩|⟨b,hu,_⟩|⟨s,hu,_⟩<;>simp only[Go.keyOf,hu,hl]
 | @arr n e xs hx A hl hp0 hf=>
  subst hx
  obtain ⟨cs,rfl,hs,hc⟩:=hv
  obtain ⟨m,hm⟩: ∃m,P.types.size=m+1:=⟨P.types.size-1,by omega⟩
  have Vy:=A.keyType ⟨m,hm⟩
  have hlen:cs.toList.length=P.cellsOf t:=by rw[A.size];simp[hs,hl]
  have Vz:(Value.agg cs).formed P t=true:=by simp[Value.formed,A.hu,A.size,hs,hl]
  have hex: ∀i∈List.range n,∃y,P.keyLits (m+1) e (((Value.agg cs).cells.toList.drop (i*P.cellsOf e)).take (P.cellsOf e))=some y:=by
   intro i hi
   have hi:=List.mem_range.1 hi
   rw[A.one]
   have fI:i<cs.size:=by omega
   have bX:i<xs.length:=by omega
   obtain ⟨l,_,U⟩:=LL (GA hf (bE bX)) (hc i cs[i] xs[i] (jZ fI) (bE bX))
   have e1:((Value.agg cs).cells.toList.drop (i*1)).take 1=[cs[i]]:=by
    show (cs.toList.drop (i*1)).take 1=_
    rw[mj,List.drop_eq_getElem_cons (by simpa using fI)]
    simp
   rw[e1]
   exact ⟨_,U m⟩
  obtain ⟨bs,gu⟩:=mapM_some hex
  refine ⟨.string (keyBytes bs.flatten),?_⟩
  have VA:(Value.agg cs).cells.toList.length=P.cellsOf t:=hlen
  unfold Go.keyOf
  rw[A.hu]
  simp only[Vy,Vz,Bool.and_self,db]
  unfold Program.keyLits
  rw[A.hu,hm]
  simp only[VA,db,gu,Option.map_some]
theorem GC {t:TypeId} {x:V} (h:mw P t x=true):Keyed P t:=by
 cases vg h with
 | one h1 hx=>
  rcases p8 h1 with ⟨q,n,hu,_⟩|⟨b,hu,_⟩|⟨s,hu,_⟩
  ·exact int_keyed hu
  ·exact bool_keyed hu
  ·exact string_keyed hu
 | arr hx A hl _ hf=>exact Keyed.of_law A.law
theorem LM {t:TypeId} {x y:V} {v u:Value} (h1:oA P t x=true) (U:oA P t y=true) (hv:iN v x) (hu:iN u y):uE x y=true↔v=u:=by
 rcases p8 h1 with ⟨q,n,lK,rfl,_⟩|⟨b,lK,rfl⟩|⟨s,lK,rfl,_⟩<;>
 rcases p8 U with ⟨q',n',lL,rfl,_⟩|⟨b',lL,rfl⟩|⟨s',lL,rfl,_⟩<;>
  (rw[lK] at lL;cases lL)
 ·obtain rfl:v= .int q n:=hv
  obtain rfl:u= .int q n':=hu
  simp[uE]
 ·obtain rfl:v= .bool b:=hv
  obtain rfl:u= .bool b':=hu
  simp[uE]
 ·obtain ⟨s1,rfl,e1⟩:=hv
  obtain ⟨s2,rfl,e2⟩:=hu
  simp only[uE,beq_iff_eq,Value.string.injEq,←e1,←e2]
  constructor
  ·intro h
   have:=Array.toList_inj.1 h
   cases s1;cases s2;simp_all
  ·rintro rfl;rfl
theorem LN {t:TypeId}: ∀{xs ys:List V} {vs us:List Value},pA P t xs=true→pA P t ys=true→xs.length=ys.length→vs.length=xs.length→us.length=ys.length→
  (∀(j:Nat) v x,vs[j]? =some v→xs[j]? =some x→iN v x)→(∀(j:Nat) v x,us[j]? =some v→ys[j]? =some x→iN v x)→(sk xs ys=true↔vs=us)
 | [],[],vs,us,_,_,_,h1,U,_,_=>by
  have e1:=kI (l:=vs) (by simpa using h1)
  have e2:=kI (l:=us) (by simpa using U)
  simp[sk,e1,e2]
 | [],_::_,_,_,_,_,h,_,_,_,_=>by simp at h
 | _::_,[],_,_,_,_,h,_,_,_,_=>by simp at h
 | x::xs,y::ys,[],us,_,_,_,h,_,_,_=>by simp at h
 | x::xs,y::ys,v::vs,[],_,_,_,_,h,_,_=>by simp at h
 | x::xs,y::ys,v::vs,u::us,f1,f2,h,h1,U,r1,r2=>by
  simp only[pA,aI] at f1 f2
  have a:=LM f1.1 f2.1 (r1 0 v x rfl rfl) (r2 0 u y rfl rfl)
  have b:=LN (vs:=vs) (us:=us) f1.2 f2.2 (by simpa using h) (by simpa using h1) (by simpa using U) (fun j v x hj hx=>r1 (j+1) v x (by simpa using hj) (by simpa using hx)) (fun j v x hj hx=>r2 (j+1) v x (by simpa using hj) (by simpa using hx))
  simp only[sk,aI,a,b,List.cons.injEq]
theorem GD {t:TypeId} {x y:V} {v u:Value} (h1:mw P t x=true) (U:mw P t y=true) (hv:pI v x) (hu:pI u y):lA x y=true↔v=u:=by
 unfold lA
 cases vg h1 with
 | one f1 c1=>
  cases vg U with
  | one f2 c2=>
   rw[c1,c2]
   simp only[sk,Bool.and_true]
   exact LM f1 f2 (hv.one c1) (hu.one c2)
  | arr hy A hl _ hf=>
   rcases p8 f1 with ⟨q,n,lK,_⟩|⟨b,lK,_⟩|⟨s,lK,_⟩<;>(rw[A.hu] at lK;cases lK)
 | arr hx A hl _ hf=>
  cases vg U with
  | one f2 c2=>
   rcases p8 f2 with ⟨q,n,lK,_⟩|⟨b,lK,_⟩|⟨s,lK,_⟩<;>(rw[A.hu] at lK;cases lK)
  | arr hy A2 jy _ GF=>
   have fU:=A.hu.symm.trans A2.hu
   cases fU
   subst hx
   subst hy
   obtain ⟨cs,rfl,s1,r1⟩:=hv
   obtain ⟨ds,rfl,s2,r2⟩:=hu
   have:=LN (vs:=cs.toList) (us:=ds.toList) hf GF (by omega) (by simpa using s1) (by simpa using s2) (fun j v x hj hx=>r1 j v x (by simpa using hj) hx) (fun j v x hj hx=>r2 j v x (by simpa using hj) hx)
   simp only[V.cells,this,Value.agg.injEq]
   exact Array.toList_inj
theorem LO {k:V}: ∀{es:List V},(∀x∈es,lA k (x.comp 0)=false)→kN k es=false∧(∀z,lB k es z=z)∧∀v,hY k v es=es++[.aX [k,v]]
 | [],_=>⟨rfl,fun _=>rfl,fun _=>rfl⟩
 | e::es,h=>by
  have h0:=h e (qL ..)
  obtain ⟨a,b,c⟩:=LO (k:=k) (es:=es) fun x hx=>h x (kJ _ hx)
  exact ⟨by simp[kN,h0,a],fun z=>by simp[lB,h0,b],fun v=>by simp[hY,h0,c]⟩
theorem LP {k:V}: ∀{es:List V} {j:Nat} {k' y:V},es[j]? =some (.aX [k',y])→lA k k'=true→(∀i x,i<j→es[i]? =some x→lA k (x.comp 0)=false)→
  kN k es=true∧(∀z,lB k es z=y)∧∀v,hY k v es=es.set j (.aX [k',v])
 | [],j,k',y,h,_,_=>by simp at h
 | e::es,0,k',y,h,he,_=>by
  simp at h
  subst h
  exact ⟨by simp[kN,V.comp,V.nth,he],fun z=>by simp[lB,V.comp,V.nth,he],fun v=>by simp[hY,V.comp,V.nth,he]⟩
 | e::es,j+1,k',y,h,he,aO=>by
  have h0:=aO 0 e (by omega) rfl
  obtain ⟨a,b,c⟩:=LP (k:=k) (es:=es) (j:=j) (by simpa using h) he fun i x hi hx=>aO (i+1) x (by omega) (by simpa using hx)
  exact ⟨by simp[kN,h0,a],fun z=>by simp[lB,h0,b],fun v=>by simp[hY,h0,c]⟩
theorem LQ {kt vt:TypeId} {E:Array MapEntry} {es:List V} {k:V} {kv:Value} (hs:E.size=es.length) (hx: ∀(j:Nat) (e:MapEntry) (x:V),E[j]? =some e→es[j]? =some x→BI P kt vt e x)
  (hn:E.toList.Pairwise (fun a b=>a.key≠b.key)) (hk:mw P kt k=true) (Cp:pI kv k) (w:World):
  ((Instr.findKey kt kv E.toList).run P w= .ok none w∧(∀e∈E.toList,e.key≠kv)∧kN k es=false∧(∀z,lB k es z=z)∧∀v,hY k v es=es++[.aX [k,v]])∨
  ∃j e k' y,(Instr.findKey kt kv E.toList).run P w= .ok (some (j,e.val)) w∧E[j]? =some e∧e.key=kv∧es[j]? =some (.aX [k',y])∧mw P kt k'=true∧pI kv k'∧eu P vt y=true∧iN e.val y∧
   kN k es=true∧(∀z,lB k es z=y)∧∀v,hY k v es=es.set j (.aX [k',v]):=by
 have K:=GC hk
 obtain ⟨l,hl⟩:=Co hk Cp
 have LR: ∀(j:Nat) x,es[j]? =some x→∃e,E[j]? =some e∧BI P kt vt e x:=by
  intro j x hj
  have aO:j<E.size:=by rw[hs];exact (bj.1 hj).1
  exact ⟨E[j],jZ aO,hx j _ x (jZ aO) hj⟩
 have keys: ∀e∈E.toList,∃l,Go.keyOf P kt e.key=some l:=by
  intro e he
  obtain ⟨j,hj⟩:=qJ he
  have fS:E[j]? =some e:=by simpa using hj
  have aO:j<es.length:=by rw[←hs];exact (gJ.1 fS).1
  obtain ⟨k',y,_,h1,U,_⟩:=hx j e es[j] fS (bE aO)
  exact Co h1 U
 rcases K.find w hl E.toList keys with ⟨h1,U⟩|⟨j,e,h1,U,h3⟩
 ·left
  refine ⟨h1,U,LO fun x VB=> ?_⟩
  obtain ⟨j,hj⟩:=qJ VB
  obtain ⟨e,he,k',y,rfl,f1,f2,_⟩:=LR j x hj
  cases hq:lA k (V.comp (.aX [k',y]) 0) with
  | false=>rfl
  | true=>
   have:=(GD hk f1 Cp f2).1 hq
   exact absurd this.symm (U e (jb (by simpa using he)))
 ·right
  have hE:E[j]? =some e:=by simpa using U
  have aO:j<es.length:=by rw[←hs];exact (gJ.1 hE).1
  obtain ⟨k',y,hy,f1,f2,f3,f4⟩:=hx j e es[j] hE (bE aO)
  have hj:=bE aO
  rw[hy] at hj
  rw[h3] at f2
  refine ⟨j,e,k',y,h1,hE,h3,hj,f1,f2,f3,f4,LP hj ((GD hk f1 Cp f2).2 rfl) fun i x hi fQ=> ?_⟩
  obtain ⟨e',gx,k2,y2,rfl,g1,g2,_⟩:=LR i x fQ
  cases hq:lA k (V.comp (.aX [k2,y2]) 0) with
  | false=>rfl
  | true=>
   have:=(GD hk g1 Cp g2).1 hq
   have i1:i<E.toList.length:=by have:=(bj.1 fQ).1;simp;omega
   have i2:j<E.toList.length:=by simp;omega
   have:=Be.1 hn i j i1 i2 hi
   have a1:E.toList[i]=e':=by
    have:E.toList[i]? =some e':=by simpa using gx
    rw[bE i1] at this;exact cP this
   have a2:E.toList[j]=e:=by
    have:=U
    rw[bE i2] at this;exact cP this
   rw[a1,a2,h3] at this
   exact absurd (by rw[← ‹kv=e'.key›]) this
theorem ao.LU {v:Value} {x:V} (h:ao P w I β hp v x) {t:TypeId} (hx:oA P t x=true):iN v x:=by
 rcases p8 hx with ⟨q,n,_,rfl,_⟩|⟨b,_,rfl⟩|⟨s,_,rfl,_⟩
 ·exact h.dS
 ·exact h.jI
 ·exact h.lF
theorem ao.LV {v:Value} {x:V} (h:ao P w I β hp v x) {t:TypeId} (hx:mw P t x=true):pI v x:=by
 cases vg hx with
 | one f c=>
  have:=h.LU f
  cases x<;>first|exact this|cases this
 | arr hx A hl _ hf=>
  subst hx
  obtain ⟨cs,rfl,h1,U⟩:=h.kf
  exact ⟨cs,rfl,h1,fun j u y hu hy=>(U j u y hu hy).LU (GA hf hy)⟩
theorem LW {vt:TypeId} {y:V} (h:mapVal P vt=true) (ht:eu P vt y=true):(∃q n,P.underlying vt=some (.int q)∧y= .int q n)∨∃b,P.underlying vt=some .bool∧y= .bool b:=by
 unfold mapVal at h
 unfold eu at ht
 split at h
 ·rename_i q hu
  rw[hu] at ht
  cases y<;>first|(simp at ht;done)|skip
  simp only[dM] at ht
  subst ht
  exact .inl ⟨_,_,hu,rfl⟩
 ·rename_i hu
  rw[hu] at ht
  cases y<;>first|(simp at ht;done)|skip
  exact .inr ⟨_,hu,rfl⟩
 ·cases h
theorem iN.GG {vt:TypeId} {v:Value} {y:V} (h:mapVal P vt=true) (ht:eu P vt y=true) (hv:iN v y):ao P w I β hp v y:=by
 rcases LW h ht with ⟨q,n,_,rfl⟩|⟨b,_,rfl⟩
 ·obtain rfl:v= .int q n:=hv;exact .int
 ·obtain rfl:v= .bool b:=hv;exact .bool
theorem ao.VC {vt:TypeId} {v:Value} {y:V} (h:mapVal P vt=true) (ht:eu P vt y=true) (hv:ao P w I β hp v y):iN v y:=by
 rcases LW h ht with ⟨q,n,_,rfl⟩|⟨b,_,rfl⟩
 ·exact hv.dS
 ·exact hv.jI
theorem VD {vt:TypeId} {z:V} (h:Bt P vt=some z) (w:World): ∃v,(zeroValue vt).run P w= .ok v w∧iN v z:=by
 unfold Bt at h
 cases hi:P.info? vt with
 | none=>rw[hi] at h;cases h
 | some i=>
  rw[hi] at h
  simp only[Option.bind_some] at h
  cases hz:i.zero with
  | none=>rw[hz] at h;cases h
  | some v=>
   rw[hz] at h
   refine ⟨v,by simp[zeroValue,typeInfo,hi,hz],?_⟩
   cases v<;>simp only at h<;>first|(cases h;done)|skip
   ·cases h;rfl
   ·cases h;rfl
theorem GH {t kt vt:TypeId} (h:kO P t=some (kt,vt)):P.underlying t=some (.map kt vt):=by
 unfold kO at h
 split at h
 ·rename_i k e hu;cases h;exact hu
 ·cases h
theorem GI (S:aE P w I β hp B M w0) {ok:Bool} {v:Value} {x:V} {b:Bool} {r:R} {rd:List Nat} {res:Result Value} (hv:ao P w I β hp v x)
  (hr:res= .ok (if ok then .tuple #[v,.bool b] else v) w) (h:(Bu ok x b).run C hp=some (r,rd)):cK P res w I β hp B M w0 r:=by
 unfold Bu at h
 obtain rfl:=aM h
 cases ok with
 | false=>exact .same S hr hv
 | true=>
  refine .same S hr (.aX rfl fun j u y hu hy=> ?_)
  match j,hu,hy with
  | 0,hu,hy=>simp at hu hy;subst hu;subst hy;exact hv
  | 1,hu,hy=>simp at hu hy;subst hu;subst hy;exact .bool
  | j+2,hu,hy=>simp at hy
theorem VE (S:aE P w I β hp B M w0) {t kt vt:TypeId} (ht:kO P t=some (kt,vt)) {m k:Value} {mx kx:V} {ok:Bool} {r:R} {rd:List Nat} (hm:ao P w I β hp m mx) (hk:ao P w I β hp k kx)
  (h:(Fs P t mx kx ok).run C hp=some (r,rd)):cK P ((Instr.lookup t m k ok).run P w) w I β hp B M w0 r:=by
 unfold Fs at h
 rw[ht] at h
 simp only at h
 cases hz:Bt P vt with
 | none=>rw[hz] at h;cases h
 | some z=>
  rw[hz] at h
  obtain ⟨hc,h'⟩:=aF h
  clear h
  have h:=h'
  clear h'
  simp only[aI] at hc
  obtain ⟨oP,yz,Cq⟩:=hc
  have hu:=GH ht
  have vh:=hk.LV oP
  have K:=GC oP
  obtain ⟨l,hl⟩:=Co oP vh
  obtain ⟨zv,LX,LY⟩:=VD hz w
  cases mx<;>simp only at h<;>first|(cases h;done)|skip
  ·rename_i t' id
   obtain ⟨kX,h'⟩:=aF h
   clear h
   have h:=h'
   clear h'
   rw[aP] at kX
   subst kX
   obtain ⟨l2,h'⟩:=run_get h
   clear h
   have h:=h'
   clear h'
   cases ab:hp id with
   | none=>rw[ab] at h;cases h
   | some blk=>
    rw[ab] at h
    cases blk<;>simp only at h<;>first|(cases h;done)|skip
    rename_i t2 es
    obtain ⟨kX,h'⟩:=aF h
    clear h
    have h:=h'
    clear h'
    rw[aP] at kX
    subst kX
    cases hm with
    | gS hd=>rw[ab] at hd;cases hd
    | @cb _ _ b aJ hd hb=>
     rw[ab] at hd
     cases hd
     have hr:=S.h.rel id _ ab
     cases hr with
     | @map _ LZ L0 _ b' clock E fm az hh hs hI hx hn=>
      rw[hb] at az;cases az
      rw[hu] at fm;cases fm
      rcases LQ hs hx hn oP vh w with ⟨h1,_,h3,h4,_⟩|⟨j,e,k',y,h1,_,_,_,_,_,h6,h7,h3,h4,_⟩
      ·rw[h3,h4,yh Cq] at h
       refine GI S (iN.GG yz Cq LY) ?_ h
       unfold Instr.lookup
       simp only[Sem.run_bind,run_underlying hu,Result.andThen_ok,Go.MapKept.run_getObj_map hh,Sem.run_pure,K.check w E.isEmpty hl,h1,LX]
      ·rw[h3,h4,yh h6] at h
       refine GI S (iN.GG yz h6 h7) ?_ h
       unfold Instr.lookup
       simp only[Sem.run_bind,run_underlying hu,Result.andThen_ok,Go.MapKept.run_getObj_map hh,Sem.run_pure,K.check w E.isEmpty hl,h1]
  ·rename_i t'
   obtain ⟨kX,h⟩:=aF h
   cases hm
   rw[yh Cq] at h
   refine GI S (iN.GG yz Cq LY) ?_ h
   have hf:(Instr.findKey kt k []).run P w= .ok none w:=by
    rcases K.find w hl [] (by simp) with ⟨h1,_⟩|⟨j,e,_,U,_⟩
    ·exact h1
    ·simp at U
   unfold Instr.lookup
   simp[run_underlying hu,K.check w true hl,hf,LX]
theorem VF (S:aE P w I β hp B M w0) {t:TypeId} {nb:Nat} {r:R} {rd:List Nat} (h:(Rd.aB (kO P t).isSome (iK nb (.map t []) (.cb t nb) [])).run C hp=some (r,rd)):
  cK P ((Instr.makeMap t none).run P w) w I β hp B M w0 r:=by
 obtain ⟨ht,h⟩:=aF h
 obtain ⟨hn,rfl⟩:=mI h
 obtain ⟨⟨kt,vt⟩,ht⟩:=xr.1 ht
 have hu:=GH ht
 have cC: ¬I w.heap.size:=fun h=>Nat.lt_irrefl _ (S.h.jg _ h)
 have ey:(w.alloc (.map #[] 0)).heap[w.heap.size]? =some (.map #[] 0):=heap_alloc_new w _
 obtain ⟨a1,a2⟩:=ye S (w':=w.alloc (.map #[] 0)) (blk:= .map t []) (b:=w.heap.size) hn (fun aC blk' h ho=>Nat.lt_irrefl _ (S.h.lt h ho)) cC
  (fun b' _ aO=>heap_alloc_old w _ b' aO) (by simp) ⟨rfl,rfl⟩ (.inr S.size) (fun b' h=>(cP (h.flat (by simp))).symm)
  (fun _=> .map hu rfl ey rfl cC (fun j e x he _=>by simp at he) (by simp))
 exact ⟨_,_,_,_,Go.RowKit.run_makeMap t w,a1,a2,.cb (cH _ _ _) (cH _ _ _)⟩
theorem L1 (S:aE P w I β hp B M w0) {t kt vt:TypeId} (ht:kO P t=some (kt,vt)) {m k v:Value} {mx kx vx:V} {r:R} {rd:List Nat} (hm:ao P w I β hp m mx) (hk:ao P w I β hp k kx) (hv:ao P w I β hp v vx)
  (h:(Bv P t mx kx vx).run C hp=some (r,rd)):oI P ((Instr.mapUpdate t m k v).run P w) w I β hp B M w0 r:=by
 unfold Bv at h
 rw[ht] at h
 obtain ⟨hc,h'⟩:=aF h
 clear h
 have h:=h'
 clear h'
 simp only[aI] at hc
 obtain ⟨oP,yz,sV⟩:=hc
 have hu:=GH ht
 have vh:=hk.LV oP
 have u0:=ao.VC yz sV hv
 have K:=GC oP
 obtain ⟨l,hl⟩:=Co oP vh
 cases mx<;>simp only at h<;>first|(cases h;done)|skip
 rename_i t' id
 obtain ⟨kX,h'⟩:=aF h
 clear h
 have h:=h'
 clear h'
 rw[aP] at kX
 subst kX
 obtain ⟨l2,h'⟩:=run_get h
 clear h
 have h:=h'
 clear h'
 cases ab:hp id with
 | none=>rw[ab] at h;cases h
 | some blk=>
  rw[ab] at h
  cases blk<;>simp only at h<;>first|(cases h;done)|skip
  rename_i t2 es
  obtain ⟨kX,h'⟩:=aF h
  clear h
  have h:=h'
  clear h'
  rw[aP] at kX
  subst kX
  obtain rfl:=aM h
  cases hm with
  | gS hd=>rw[ab] at hd;cases hd
  | @cb _ _ b aJ hd hb=>
   rw[ab] at hd
   cases hd
   have hr:=S.h.rel id _ ab
   cases hr with
   | @map _ LZ L0 _ b' clock E fm az hh hs hI hx hn=>
    rw[hb] at az;cases az
    rw[hu] at fm;cases fm
    have aO:b<w.heap.size:=(gJ.1 hh).1
    have fin: ∀(E':Array MapEntry) (yA:Nat),(Instr.mapUpdate t (.map (some b)) k v).run P w= .ok () {w with heap:=w.heap.setIfInBounds b (.map E' yA)}→E'.size=(hY kx vx es).length→
      (∀(j:Nat) (e:MapEntry) (x:V),E'[j]? =some e→(hY kx vx es)[j]? =some x→BI P kt vt e x)→E'.toList.Pairwise (fun a b=>a.key≠b.key)→
      oI P ((Instr.mapUpdate t (.map (some b)) k v).run P w) w I β hp B M w0 ⟨.undef,[(id,.map t (hY kx vx es))]⟩:=by
     intro E' yA cI Gz cf GJ
     have ey:({w with heap:=w.heap.setIfInBounds b (.map E' yA)}:World).heap[b]? =some (.map E' yA):=by simp[aO]
     obtain ⟨a1,a2⟩:=BR S (w':={w with heap:=w.heap.setIfInBounds b (.map E' yA)}) (blk':= .map t (hY kx vx es)) ab (by simp) rfl hb hI (by simp)
      (fun b' az=>by simp[Array.getElem?_setIfInBounds,Ne.symm az]) (by simp only[bsize,ey,hh]) (by simp) ⟨rfl,rfl⟩ (fun _=> .map hu rfl ey Gz hI cf GJ)
     exact ⟨_,I,β,cI,a1,a2,rfl⟩
    rcases LQ hs hx hn oP vh w with ⟨h1,U,_,_,h5⟩|⟨j,e,k',y,h1,hE,L2,nK,VG,VH,_,_,_,_,h5⟩
    ·have e5:=h5 vx
     refine fin (E.push {key:=k,val:=v,born:=clock}) (clock+1) ?_ (by rw[e5];simp[hs]) (fun j e x he pR=> ?_) ?_
     ·unfold Instr.mapUpdate
      simp only[Sem.run_bind,run_underlying hu,Result.andThen_ok,Go.MapKept.run_getObj_map hh,K.check w false hl,h1,Go.MapKept.run_setObj_map _ hh]
     ·rw[e5] at pR
      rw[Array.getElem?_push] at he
      split at he
      ·rename_i hj
       rw[gK (by omega),hj,hs,Nat.sub_self] at pR
       simp at he pR
       subst he;subst pR
       exact ⟨kx,vx,rfl,oP,vh,sV,u0⟩
      ·have hj:j<E.size:=(gJ.1 he).1
       rw[hU (by omega)] at pR
       exact hx j e x he pR
     ·rw[Array.toList_push,List.pairwise_append]
      refine ⟨hn,by simp,fun a ha b' az=> ?_⟩
      simp only[dW] at az
      subst az
      exact U a ha
    ·have e5:=h5 vx
     have hj:j<E.size:=(gJ.1 hE).1
     refine fin (E.modify j fun e=>{e with key:=k,val:=v}) clock ?_ (by rw[e5];simp[hs]) (fun i e' x he fQ=> ?_) ?_
     ·have bL:=K.stays w hl
      unfold Instr.mapUpdate
      simp only[Sem.run_bind,run_underlying hu,Result.andThen_ok,Go.MapKept.run_getObj_map hh,K.check w false hl,h1]
      simp only[hE,Option.map_some,Option.getD_some,L2,bL,Result.andThen_ok,Go.MapKept.run_setObj_map _ hh]
     ·rw[e5] at fQ
      rw[xt] at he
      rw[List.getElem?_set] at fQ
      split at he
      ·rename_i sW
       subst sW
       rw[aj rfl,aj (by omega)] at fQ
       rw[hE] at he
       simp at he fQ
       subst he;subst fQ
       exact ⟨k',vx,rfl,VG,VH,sV,u0⟩
      ·rename_i sW
       rw[ai sW] at fQ
       exact hx i e' x he fQ
     ·have sX: ∀i (h1:i<(E.modify j fun e=>{e with key:=k,val:=v}).toList.length) (U:i<E.toList.length),((E.modify j fun e=>{e with key:=k,val:=v}).toList[i]).key=(E.toList[i]).key:=by
       intro i h1 U
       simp only[Array.getElem_toList,Array.getElem_modify]
       split
       ·rename_i sW
        subst sW
        have:=(gJ.1 hE).2
        rw[this,L2]
       ·rfl
      rw[Be] at hn⊢
      intro i i' h1 U iu
      have g1:i<E.toList.length:=by simpa using h1
      have g2:i'<E.toList.length:=by simpa using U
      rw[sX i h1 g1,sX i' U g2]
      exact hn i i' g1 g2 iu
theorem VI (S:aE P w I β hp B M w0) {t ty kt vt:TypeId} {v:Value} {x:V} {r:R} {rd:List Nat} (hu:P.underlying t=some (.map kt vt)) (hv:ao P w I β hp v x)
  (h:(Bw x).run C hp=some (r,rd)):cK P ((Builtin.len_ #[t] ty #[v]).run P w) w I β hp B M w0 r:=by
 unfold Bw at h
 cases x<;>simp only at h<;>first|(cases h;done)|skip
 ·rename_i t' id
  obtain ⟨l2,h'⟩:=run_get h
  clear h
  have h:=h'
  clear h'
  cases ab:hp id with
  | none=>rw[ab] at h;cases h
  | some blk=>
   rw[ab] at h
   cases blk<;>simp only at h<;>first|(cases h;done)|skip
   rename_i t2 es
   obtain rfl:=aM h
   cases hv with
   | gS hd=>rw[ab] at hd;cases hd
   | @cb _ _ b aJ hd hb=>
    rw[ab] at hd
    cases hd
    have hr:=S.h.rel id _ ab
    cases hr with
    | @map _ LZ L0 _ b' clock E fm az hh hs hI hx hn=>
     rw[hb] at az;cases az
     refine .same S (v:= .int .i64 E.size) (by simp[Builtin.len_,run_underlying hu,Go.MapKept.run_getObj_map hh,goInt]) ?_
     rw[hs]
     exact .int
 ·obtain rfl:=aM h
  cases hv
  exact .same S (v:= .int .i64 0) (by simp[Builtin.len_,run_underlying hu,goInt]) .int
theorem ao.GK {v:Value} {t:TypeId} (h:ao P w I β hp v (.dc t)):v= .map none:=by cases h;rfl
theorem ao.VJ {v:Value} {t t':TypeId} {id:Nat} {es:List V} (h:ao P w I β hp v (.cb t id)) (ab:hp id=some (.map t' es)): ∃b,v= .map (some b):=by
 cases h with
 | gS h=>rw[ab] at h;cases h
 | cb h hb=>exact ⟨_,rfl⟩
theorem L3 (S:aE P w I β hp B M w0) {op:BinOp} {t:TypeId} {a:Option Nat} {r:R} {rd:List Nat} (x y:Operand)
  (h:(Bq P op t a.isNone).run C hp=some (r,rd)):cK P ((do eqGuard op t x y (.map a) (.map none);binOp op t (.map a) (.map none)).run P w) w I β hp B M w0 r:=by
 unfold Bq at h
 split at h
 case h_2=>cases h
 rename_i kt vt hu
 have he:(Op.equal t (.map a) (.map none)).run P w= .ok a.isNone w:=by
  show (Op.equalIn (9999+1) t (.map a) (.map none)).run P w=_
  rw[Op.equalIn]
  cases a<;>simp[Sem.run_bind,run_underlying hu,Result.andThen_ok,Sem.run_pure]
 cases op<;>simp only at h<;>first|(cases h;done)|skip
 ·obtain rfl:=aM h
  exact .same S (by simp[eqGuard,binOp,he]) .bool
 ·obtain rfl:=aM h
  exact .same S (by simp[eqGuard,binOp,he]) .bool
end
end Go.AM
namespace Go.AM
section
variable {P:Program} {w w':World} {I I':Nat→Prop} {β β':Nat→Option Nat} {hp hp':Nat→Option an} {C:ag} {B:Nat} {M:Nat→Prop} {w0:Start}
theorem VK {e:TypeId} (he:P.underlying e=some (.int .u8)) (hc:P.cellsOf e=1) (s:ByteArray): ∀(i j:Nat) (x:V) (t':TypeId),(s.data.toList.map df)[i]? =some x→(aQ P e)[j]? =some t'→j<P.cellsOf e→
  ∃u,(Lib.strCells s)[i*P.cellsOf e+j]? =some u∧Pure P w I t' u (bB P e x j):=by
 intro i j x t' hx ht hj
 have mL:bz P e=false:=by simp[bz,he]
 obtain rfl:j=0:=by omega
 simp only[aQ,mL,cond_false,List.getElem?_cons_zero,dD] at ht
 subst ht
 rw[gk] at hx
 cases hb:s.data.toList[i]? with
 | none=>rw[hb] at hx;cases hx
 | some b=>
  rw[hb] at hx
  cases hx
  refine ⟨.int .u8 b.toNat,?_,?_⟩
  ·rw[hc,mj,Nat.add_zero]
   simp only[Lib.strCells,gk,hb,Option.map_some]
  ·simp only[bB,mL,cond_false]
   exact .int he
theorem VL (w:World) (t u ty e:TypeId) (i:TypeInfo) (z:Value) (ht:P.underlying t=some (.slice e)) (hu:P.underlying u=some .string) (hi:P.info? e=some i) (hz:i.zero=some z)
  (s:ByteArray) (h0:0<s.size) (Ck:(s.size:Int)≤9223372036854775807) (Cl:s.size*i.bytes≤281474976710656) (a0:Option Addr):
  (Builtin.append_ #[t,u] ty #[.slice a0 0 0,.string s]).run P w=
   .ok (.slice (some ⟨w.heap.size,0,none⟩) s.size (grownCap w s.size 0 e))
    (w.drew.alloc (.cells (s.data.map (fun b=>Value.int .u8 b.toNat)++Builtin.zeroCells z.cells (grownCap w s.size 0 e-s.size)) e)):=by
 cases a0 with
 | none=>exact run_append_nil_string w t u ty e i z ht hu hi hz s h0 Ck Cl
 | some b=>
  rw[←run_append_nil_string w t u ty e i z ht hu hi hz s h0 Ck Cl]
  have hn:s.size≠0:=by omega
  have VM: ¬(9223372036854775807<(s.size:Int)):=by omega
  have VN: ¬(281474976710656<Builtin.nextslicecap s.size 0*i.bytes):=by rw[nextslicecap_zero h0];omega
  simp[Builtin.append_,run_underlying ht,run_underlying hu,sizeOf,typeInfo,zeroValue,hi,hz,Builtin.lenOf,Builtin.firstCells,hn,VM,VN,Question.forced,newRow,grownCap,loadCells,loadCellsFrom]
theorem L4 (S:aE P w I β hp B M w0) {t u ty e:TypeId} {nb:Nat} {x:ByteArray} {xs:List V} {i:TypeInfo} {z:Value} (hu:P.underlying t=some (.slice e)) (nL:P.underlying u=some .string) (au:cD P e=true) (hn:hp nb=none)
 (hi:P.info? e=some i) (hz:i.zero=some z) (h3:i.size=P.cellsOf e) (h4:z.cells.size=P.cellsOf e) (vi:i.size=1) (lI:P.bytesOf e=i.bytes) (dA:xs.length*P.bytesOf e≤cB) (lM:xs.length=x.size) (kW:(Lib.strCells x).length=x.size)
 (cE: ∀(i j:Nat) (y:V) (t':TypeId),xs[i]? =some y→(aQ P e)[j]? =some t'→j<P.cellsOf e→∃u,(Lib.strCells x)[i*P.cellsOf e+j]? =some u∧Pure P w I t' u (bB P e y j)):
 ∀a0,∃v w' β',(Builtin.append_ #[t,u] ty #[.slice a0 0 0,.string x]).run P w= .ok v w'∧Le P w I β hp w' I β' (aH hp nb (some (.arr e xs false)))∧aE P w' I β' (aH hp nb (some (.arr e xs false))) B M w0∧
  ao P w' I β' (aH hp nb (some (.arr e xs false))) v (.whole e nb):=by
 intro a0
 have sR:=uR au
 have hlen:xs.length≤2^45:=by
  have:xs.length*1≤xs.length*P.bytesOf e:=sc _ sR
  simp only[cB] at dA
  omega
 by_cases h0:x.size=0
 ·have fT:xs=[]:=kI (by omega)
  subst fT
  obtain ⟨a1,a2⟩:=BP S e hn
  have hf:=Lib.run_firstCells_string (P:=P) w 1 x
  rw[h0] at hf
  have pW:Lib.strCells x=[]:=kI (by omega)
  exact ⟨.slice a0 0 0,_,_,by cases a0<;>simp[storeCells,pW,Builtin.append_,run_underlying hu,run_underlying nL,sizeOf,typeInfo,hi,vi,Builtin.lenOf,h0,hf],a1,a2,.dm (cH _ _ _) (cH _ _ _)⟩
 ·have cI:=VL (P:=P) w t u ty e i z hu nL hi hz x (by omega) (by omega) (by rw[←lI,←lM];simp only[cB] at dA;omega) a0
  have e1:(x.data.map fun b=>Value.int .u8 b.toNat)=(Lib.strCells x).toArray:=by
   apply Array.ext'
   simp[Lib.strCells]
  rw[e1,←lM] at cI
  have oM:=grownCap_ge w xs.length 0 e
  have sS:grownCap w xs.length 0 e≤maxLen:=grownCap_le_maxLen w xs.length 0 e (by simp only[maxLen];omega)
  obtain ⟨n1,n2,n3⟩:=vd S.drew (nb:=nb) (cap:=grownCap w xs.length 0 e) (es:=xs) (C0:=(Lib.strCells x).toArray++Builtin.zeroCells z.cells (grownCap w xs.length 0 e-xs.length)) au hn
   (by
    have:(Lib.strCells x).length=xs.length*P.cellsOf e:=by rw[kW,lM,←h3,vi,mj]
    simp only[Bc,pn,size_zeroCells,h4,this,←cZ];congr 1;omega) oM sS
   (fun i' j y t' hy ht hj=>by
    obtain ⟨u,fm,hp⟩:=cE i' j y t' hy ht hj
    have aO:=(bj.1 fm).1
    refine ⟨u,?_,Pure.drew hp⟩
    rw[Array.getElem?_append_left (by simpa using aO)]
    simpa using fm)
  exact ⟨_,_,_,cI,(Le.drew w I β hp).trans n1,n2,n3⟩
theorem VO (S:aE P w I β hp B M w0) {t u ty e:TypeId} {nb:Nat} {s:Value} {sv:V} {x:ByteArray} {r:R} {rd:List Nat} (hu:P.underlying t=some (.slice e)) (nL:P.underlying u=some .string) (he:P.underlying e=some (.int .u8)) (hs:ao P w I β hp s sv)
  (h:(uF P nb e sv (.list e (x.data.toList.map df))).run C hp=some (r,rd)):cK P ((Builtin.append_ #[t,u] ty #[s,.string x]).run P w) w I β hp B M w0 r:=by
 unfold uF at h
 obtain ⟨au,h⟩:=aF h
 simp only[qS] at h
 obtain ⟨_,h⟩:=aF h
 have mL:bz P e=false:=by simp[bz,he]
 have dq:P.cellsOf e=1:=by rw[←(jH au).1,ya mL];rfl
 obtain ⟨i,z,hi,hz,h3,h4,_⟩:=jK au
 have vi:i.size=1:=by rw[h3,dq]
 have sR:=uR au
 have lI:P.bytesOf e=i.bytes:=by simp[Program.bytesOf,hi]
 have Cr:=VK (P:=P) (w:=w) (I:=I) he dq x
 have lM:(x.data.toList.map df).length=x.size:=by simp
 have kW:(Lib.strCells x).length=x.size:=Lib.strCells_length x
 have h1:=Lib.strCells_oneCell x
 generalize fT:x.data.toList.map df=xs at*
 cases sv with
 | nilS e'=>
  obtain ⟨hc,h⟩:=aF h
  simp only[aI,aP,dC] at hc
  obtain ⟨hn,rfl⟩:=mI h
  obtain ⟨a0,rfl⟩: ∃a0,s= .slice a0 0 0:=by cases hs;exact ⟨_,rfl⟩
  obtain ⟨v,w',β',a1,a2,a3,a4⟩:=L4 S hu nL au hn hi hz h3 h4 vi lI hc.2 lM kW Cr _
  exact ⟨v,w',I,β',a1,a2,a3,a4⟩
 | whole e' id=>
  obtain ⟨l,h⟩:=run_get h
  cases ab:hp id with
  | none=>rw[ab] at h;cases h
  | some blk=>
   rw[ab] at h
   cases blk with
   | dead=>cases h
   | var _=>cases h
   | nest _ _ _=>cases h
   | map _ _=>cases h
   | arr dj es fz=>
    cases fz with
    | true=>cases h
    | false=>
     obtain ⟨hc,h⟩:=aF h
     obtain ⟨hn,rfl⟩:=mI h
     simp only[aI,aP,dC] at hc
     obtain ⟨Gn,Gp,dA⟩:=hc
     subst Gn
     subst Gp
     have bw:nb≠id:=fun e=>by rw[e,ab] at hn;cases hn
     obtain ⟨k1,k2⟩:=BQ S ab
     have jL:aH hp id (some an.dead) nb=none:=by rw[dR _ _ bw];exact hn
     cases hs with
     | dP hd=>rw[ab] at hd;cases hd
     | dZ hd=>rw[ab] at hd;cases hd
     | dm hd hb=>
      rw[ab] at hd
      cases hd
      simp only[List.length_nil,gi] at dA
      obtain ⟨v,w',β',a1,a2,a3,a4⟩:=L4 k2 hu nL au jL hi hz h3 h4 vi lI dA lM kW Cr _
      exact ⟨v,w',I,β',a1,k1.trans a2,a3,a4⟩
     | @whole _ _ aJ my b cap hd hb aR bR hm=>
      rw[ab] at hd
      cases hd
      have hr:=S.h.rel id _ ab
      cases hr with
      | dp az=>rw[az] at hb;cases hb
      | @arr _ _ _ b' Ca _ az hh oO hf dQ lJ=>
       rw[hb] at az
       cases az
       have hlen:es.length+xs.length≤2^45:=by
        have:(es.length+xs.length)*1≤(es.length+xs.length)*P.bytesOf e:=sc _ sR
        simp only[cB] at dA
        omega
       rw[mC hh] at aR
       have pP: ∀aC blk',aH hp id (some an.dead) aC=some blk'→¬bn P w (β aC) blk' b:=by
        intro aC blk' h1 U
        by_cases iu:aC=id
        ·subst iu;rw[cH] at h1;cases h1;exact U.alive rfl
        ·rw[dR _ _ iu] at h1
         exact iu (S.h.inj aC id blk' _ b h1 ab U (.root (by simp) hb))
       have Gq:=S.h.q0 id _ b ab (by simp) hb
       have kY:es.length*P.cellsOf e≤Ca.toList.length:=by simpa using oO
       have L5:(Lib.strCells x).length=xs.length*P.cellsOf e:=by rw[kW,lM,dq,mj]
       by_cases rn:es.length+xs.length≤cap
       ·have yv:es.length*P.cellsOf e+(Lib.strCells x).length≤Ca.size:=by rw[L5,←cZ,←aR];exact di _ rn
        have cI:=Lib.run_append_room_string (P:=P) w t u ty e i hu nL hi vi b es.length cap Ca hh x (by rw[←lM];exact rn) (by rw[←kW];rw[dq,mj] at yv;exact yv)
        have cE:=Ci (P:=P) (w:=w) (I:=I) (n:=es.length) (c:=Ca.toList) rfl (fun i j y t' a b c=>by
         obtain ⟨v,hv,hp⟩:=lJ i j y t' a b c
         exact ⟨v,by simpa using hv,hp⟩) Cr kY (Ca.toList.drop (es.length*P.cellsOf e+(Lib.strCells x).length))
        generalize u9:(Ca.toList.take es.length++Lib.strCells x++Ca.toList.drop (es.length+x.size)).toArray=C' at cI
        have nH:C'.size=Ca.size:=by
         rw[dq,mj] at yv
         rw[←u9];simp;omega
        have L6:(w.setRow b C').heap[b]? =some (.cells C' e (0,0)):=setRow_heap w b Ca C' e _ hh
        obtain ⟨a1,a2⟩:=ye k2 (blk:= .arr e (es++xs) false) (w':=w.setRow b C') jL pP (dQ rfl) (fun b' h _=>setRow_other w b b' _ h) (by simp) ⟨rfl,rfl⟩ Gq
         (fun b' h=>(cP (h.flat (by simp))).symm) (fun hle=> .arr au rfl L6 (by rw[nH,←aR];exact di _ (by simpa using rn)) (fun h=>by cases h) (fun _=>dQ rfl) fun i j y t' a b c=>by
          obtain ⟨v,hv,hp⟩:=cE i j y t' a b c
          refine ⟨v,?_,hp.mono hle.cV hle.bU⟩
          rw[←u9,mi]
          rw[dq] at hv⊢
          simpa[kW] using hv)
        refine ⟨_,_,_,_,cI,k1.trans a1,a2,?_⟩
        have a3:=ao.whole (P:=P) (w:=w.setRow b C') (I:=I) (β:=aH β nb (some b)) (hp:=aH (aH hp id (some .dead)) nb (some (.arr e (es++xs) false))) (cap:=cap) (b:=b) (es:=es++xs) (fz:=false) (id:=nb) (e:=e) (cH _ _ _) (cH _ _ _) (by rw[mC L6,nH,aR]) (by simpa using rn) hm
        rw[b8,lM] at a3
        exact a3
       ·have hold: ∀(j:Nat) v,(Ca.toList.take (es.length*P.cellsOf e))[j]? =some v→w.cell? ((⟨b,0,none⟩:Addr).add j)=some v:=by
         intro j v hj
         have bV:=(bj.1 hj).1
         have fH:j<es.length*P.cellsOf e:=by rw[ff] at bV;omega
         rw[eD fH] at hj
         rw[mF,cell?_cells hh,gi]
         simpa using hj
        have cI:=Lib.run_append_grow_string (P:=P) w t u ty e i z hu nL hi hz ⟨b,0,none⟩ es.length cap (Ca.toList.take (es.length*P.cellsOf e)) (by rw[h3];simp;omega) hold x (by omega) (by omega)
         (growslice_fits (by omega) (by rw[←lI,←lM];simp only[cB] at dA;omega))
        rw[←lM] at cI
        have oM:=grownCap_ge w (es.length+xs.length) cap e
        have sS:grownCap w (es.length+xs.length) cap e≤maxLen:=grownCap_le_maxLen w _ cap e (by simp only[maxLen];omega)
        have cE:=Ci (P:=P) (w:=w) (I:=I) (n:=es.length) (c:=Ca.toList) rfl (fun i j y t' a b c=>by
         obtain ⟨v,hv,hp⟩:=lJ i j y t' a b c
         exact ⟨v,by simpa using hv,hp⟩) Cr kY (Builtin.zeroCells z.cells (grownCap w (es.length+xs.length) cap e-(es.length+xs.length))).toList
        obtain ⟨n1,n2,n3⟩:=vd k2.drew (nb:=nb) (cap:=grownCap w (es.length+xs.length) cap e) (es:=es++xs)
         (C0:=(Ca.toList.take (es.length*P.cellsOf e)).toArray++(Lib.strCells x).toArray++Builtin.zeroCells z.cells (grownCap w (es.length+xs.length) cap e-(es.length+xs.length))) au jL
         (by
          have e1:(Ca.toList.take (es.length*P.cellsOf e)).length=es.length*P.cellsOf e:=by simp;omega
          simp only[Bc,pn,size_zeroCells,h4,L5,e1,←cZ];congr 1;omega) (by simpa using oM) sS
         (fun i j y t' a b c=>by
          obtain ⟨v,hv,hp⟩:=cE i j y t' a b c
          refine ⟨v,?_,Pure.drew hp⟩
          rw[←qK]
          simpa using hv)
        rw[b8] at n3
        exact ⟨_,_,_,_,cI,(k1.trans (Le.drew w I β _)).trans n1,n2,n3⟩
 | _=>cases h
end
section
variable {P:Program} {w w':World} {I I':Nat→Prop} {β β':Nat→Option Nat} {hp hp':Nat→Option an} {C:ag} {B:Nat} {M:Nat→Prop} {w0:Start}
theorem L7: ∀(ns:List Int) (s:ByteArray),(ns.foldl (fun r n=>r.push (UInt8.ofNat n.toNat)) s).data.toList=s.data.toList++ns.map fun n=>UInt8.ofNat n.toNat
 | [],s=>by simp
 | n::ns,s=>by
  simp only[List.foldl_cons,L7 ns,cG]
  simp[ByteArray.push]
theorem L8 {e:TypeId} {u:Value} {x:V} (he:P.underlying e=some (.int .u8)) (hp:Pure P w I e u x):u= .int .u8 x.toInt:=by
 cases hp with
 | int hp'=>rw[he] at hp';cases hp';rfl
 | bool hp'=>rw[he] at hp';cases hp'
 | str hp'=>rw[he] at hp';cases hp'
 | nil hp'=>rw[he] at hp';cases hp'
 | emp hp'=>rw[he] at hp';cases hp'
 | list _ hp'=>rw[he] at hp';cases hp'
theorem VP (S:aE P w I β hp B M w0) {src dst e:TypeId} {v:Value} {x:V} {r:R} {rd:List Nat} (hs:P.underlying src=some (.slice e)) (he:P.underlying e=some (.int .u8)) (hd:P.underlying dst=some .string)
  (hv:ao P w I β hp v x) (h:(Rd.aB (cD P e) (qS e x fun es=> .ret ⟨.str (j5 es),[]⟩)).run C hp=some (r,rd)):cK P ((convert src dst v).run P w) w I β hp B M w0 r:=by
 obtain ⟨au,h⟩:=aF h
 obtain ⟨xs,hx,l,h⟩:=Ch S.h.rel au hv h
 obtain rfl:=aM h
 have mL:bz P e=false:=by simp[bz,he]
 have h1:P.cellsOf e=1:=by rw[←(jH au).1,ya mL];rfl
 rcases hx with ⟨⟨a,rfl⟩,rfl⟩|⟨a,c,news,hr⟩
 ·refine .same S (v:= .string .empty) ?_ (.str (by simp[j5]))
  rw[run_convert_bytes_string w src dst e a 0 0 hs he hd]
  cases a<;>simp[Conv.bytesToString,loadCells,loadCellsFrom]
 ·have Cj:news=(xs.map V.toInt).map (Value.int .u8):=by
   apply List.ext_getElem?
   intro j
   by_cases hj:j<xs.length
   ·obtain ⟨u,hu,hp⟩:=hr.el j 0 xs[j] e (bE hj) (by simp[aQ,mL]) (by omega)
    rw[h1] at hu
    simp only[bB,mL,cond_false] at hp
    have fm:news[j]? =some u:=by simpa using hu
    rw[fm]
    have:=L8 he hp
    simp[hj,←this]
   ·have hl:news.length=xs.length:=by rw[hr.len,h1];simp
    rw[xo (by omega),xo (by simp;omega)]
  have GL:=run_loadCells_list (P:=P) w a news hr.cell
  have hl:news.length=xs.length:=by rw[hr.len,h1];simp
  rw[hl] at GL
  rw[Cj] at GL
  refine .same S (v:= .string ((xs.map V.toInt).foldl (fun r n=>r.push (UInt8.ofNat n.toNat)) ByteArray.empty)) ?_ (.str ?_)
  ·rw[hr.val,run_convert_bytes_string w src dst e _ _ _ hs he hd]
   exact run_bytesToString w a xs.length c (xs.map V.toInt) GL
  ·rw[L7]
   simp[j5]
theorem ao.Cs {v:Value} (h:ao P w I β hp v .c6):v= .pointer none:=by cases h;rfl
section
variable (w:World)
theorem VQ (t e:TypeId) (a:Addr) (h:P.underlying t=some (.pointer e)):(binOp .eql t (.pointer (some a)) (.pointer none)).run P w= .ok (.bool false) w:=by
 have h0: ∀d:Nat,(Op.equalIn (d+1) t (.pointer (some a)) (.pointer none)).run P w= .ok false w:=fun d=>by simp[Op.equalIn,run_underlying h]
 simp only[binOp]
 simp[Op.equal,Op.maxDepth,h0 9999]
theorem VR (t e:TypeId) (a:Addr) (h:P.underlying t=some (.pointer e)):(binOp .neq t (.pointer (some a)) (.pointer none)).run P w= .ok (.bool (!false)) w:=by
 have h0: ∀d:Nat,(Op.equalIn (d+1) t (.pointer (some a)) (.pointer none)).run P w= .ok false w:=fun d=>by simp[Op.equalIn,run_underlying h]
 simp only[binOp]
 simp[Op.equal,Op.maxDepth,h0 9999]
theorem VT (t e:TypeId) (a:Addr) (h:P.underlying t=some (.pointer e)):(binOp .eql t (.pointer none) (.pointer (some a))).run P w= .ok (.bool false) w:=by
 have h0: ∀d:Nat,(Op.equalIn (d+1) t (.pointer none) (.pointer (some a))).run P w= .ok false w:=fun d=>by simp[Op.equalIn,run_underlying h]
 simp only[binOp]
 simp[Op.equal,Op.maxDepth,h0 9999]
theorem VU (t e:TypeId) (a:Addr) (h:P.underlying t=some (.pointer e)):(binOp .neq t (.pointer none) (.pointer (some a))).run P w= .ok (.bool (!false)) w:=by
 have h0: ∀d:Nat,(Op.equalIn (d+1) t (.pointer none) (.pointer (some a))).run P w= .ok false w:=fun d=>by simp[Op.equalIn,run_underlying h]
 simp only[binOp]
 simp[Op.equal,Op.maxDepth,h0 9999]
theorem VV (t e:TypeId) (h:P.underlying t=some (.pointer e)):(binOp .eql t (.pointer none) (.pointer none)).run P w= .ok (.bool true) w:=by
 have h0: ∀d:Nat,(Op.equalIn (d+1) t (.pointer none) (.pointer none)).run P w= .ok true w:=fun d=>by simp[Op.equalIn,run_underlying h]
 simp only[binOp]
 simp[Op.equal,Op.maxDepth,h0 9999]
theorem VW (t e:TypeId) (h:P.underlying t=some (.pointer e)):(binOp .neq t (.pointer none) (.pointer none)).run P w= .ok (.bool (!true)) w:=by
 have h0: ∀d:Nat,(Op.equalIn (d+1) t (.pointer none) (.pointer none)).run P w= .ok true w:=fun d=>by simp[Op.equalIn,run_underlying h]
 simp only[binOp]
 simp[Op.equal,Op.maxDepth,h0 9999]
end
theorem Ct (S:aE P w I β hp B M w0) {op:BinOp} {t:TypeId} {b:Bool} {x y:Operand} {v1 v2:Value} {r:R} {rd:List Nat} (h:(ptrEq P op t b).run C hp=some (r,rd)) (hg:(eqGuard op t x y v1 v2).run P w= .ok () w)
  (he: ∀e j,P.underlying t=some (.pointer e)→P.info? e=some j→(binOp .eql t v1 v2).run P w= .ok (.bool b) w∧(binOp .neq t v1 v2).run P w= .ok (.bool (!b)) w):
  cK P ((do eqGuard op t x y v1 v2;binOp op t v1 v2:Sem Value).run P w) w I β hp B M w0 r:=by
 unfold ptrEq at h
 cases hu:P.underlying t with
 | none=>rw[hu] at h;cases h
 | some d=>
  rw[hu] at h
  cases d<;>simp only at h<;>first|(cases h;done)|skip
  rename_i e
  obtain ⟨h1,U⟩:=aF h
  obtain ⟨j,hj⟩:=xr.1 h1
  obtain ⟨k1,k2⟩:=he e j hu hj
  cases op<;>simp only at U<;>first|(cases U;done)|skip
  ·obtain rfl:=aM U
   exact .same S (by simp only[Sem.run_bind,hg,Result.andThen_ok,k1]) .bool
  ·obtain rfl:=aM U
   exact .same S (by simp only[Sem.run_bind,hg,Result.andThen_ok,k2]) .bool
theorem VX {b n:Nat}:(∀b',b'≠b→(w.freeze ⟨b,0,none⟩ n).heap[b']? =w.heap[b']?)∧bsize (w.freeze ⟨b,0,none⟩ n) b=bsize w b∧w.heap.size≤(w.freeze ⟨b,0,none⟩ n).heap.size∧(w.freeze ⟨b,0,none⟩ n).os=w.os∧(w.freeze ⟨b,0,none⟩ n).output=w.output:=by
 unfold World.freeze
 split
 ·exact ⟨fun _ _=>rfl,rfl,b6 _,rfl,rfl⟩
 ·refine ⟨fun b' hb=> ?_,?_,by simp,rfl,rfl⟩
  ·simp only[xt]
   rw[ai (fun e=>hb e.symm)]
  ·simp only[bsize,xt,db]
   cases w.heap[b]? with
   | none=>rfl
   | some o=>cases o<;>rfl
theorem VY {e:TypeId} (hb:isByte P e=true):P.underlying e=some (.int .u8):=by
 unfold isByte at hb
 split at hb
 ·assumption
 ·cases hb
theorem VZ (S:aE P w I β hp B M w0) {ts:Array TypeId} {ty e:TypeId} {v:Value} {id:Nat} {es:List V} {fz:Bool} (hv:ao P w I β hp v (.whole e id)) (ab:hp id=some (.arr e es fz)) (h0:0<es.length):
  cK P ((Builtin.unsafeSliceData_ ts ty #[v]).run P w) w I β hp B M w0 ⟨.ptr id 0 0,[]⟩:=by
 cases hv with
 | dP h=>rw[ab] at h;cases h
 | dm h _=>rw[ab] at h;cases h;simp at h0
 | dZ h _ _ _ _=>rw[ab] at h;cases h
 | @whole _ _ aJ my b cap h hb bR hle hm=>
  rw[ab] at h;cases h
  refine .same S (Lib.run_unsafeSliceData_row w ts ty ⟨b,0,none⟩ es.length cap (by omega)) ?_
  have:=ao.ptr (P:=P) (w:=w) (I:=I) (β:=β) (i:=0) (c:=0) ab (by simp) hb
  simpa using this
theorem V0 (S:aE P w I β hp B M w0) {t u ty e:TypeId} {vx:Value} {id:Nat} {n:Int} {es:List V} (hu:P.underlying t=some (.pointer e)) (hb:isByte P e=true) (hv:ao P w I β hp vx (.ptr id 0 0))
  (ab:hp id=some (.arr e es false)) (h0:0<n) (hn:n≤es.length) (hm:n.toNat≤mu) (mH:(es.take n.toNat).all uK=true):cK P ((Builtin.unsafeString_ #[t,u] ty #[vx,.int .i64 n]).run P w) w I β hp B M w0 ⟨.str (j5 (es.take n.toNat)),[(id,.dead)]⟩:=by
 obtain ⟨b,GM,rfl⟩:=hv.gv ab (by simp)
 have he:P.underlying e=some (.int .u8):=by
  unfold isByte at hb
  split at hb
  ·assumption
  ·cases hb
 have mL:bz P e=false:=by simp[bz,he]
 have hr:=S.h.rel id _ ab
 rw[GM] at hr
 cases hr with
 | dp az=>cases az
 | @arr _ _ _ b1 Ca au kY hh hs hI cC cE=>
  cases kY
  have h1:P.cellsOf e=1:=by rw[←(jH au).1,ya mL];rfl
  have aO:=S.Ua ab (by simp) GM
  have hl:(j5 (es.take n.toNat)).length=n.toNat:=by simp[j5];omega
  have GJ:n=((j5 (es.take n.toNat)).length:Nat):=by rw[hl];omega
  have cI:=Lib.run_unsafeString_row (P:=P) w t u ty e hu h1 b Ca.size (by simp[World.shape?,hh]) (j5 (es.take n.toNat)) (fun h=>by rw[h] at hl;simp at hl;omega) (by rw[hl];rw[h1] at hs;omega) (by rw[hl];unfold mu at hm;omega) (fun j x hx=>by
   have hj:j<n.toNat:=by
    have:=(bj.1 hx).1
    rw[hl] at this;exact this
   have gU:j<es.length:=by omega
   simp only[j5,gk,eD hj,bE gU,Option.map_some,dD] at hx
   obtain ⟨v,ve,bh⟩:=cE j 0 es[j] e (bE gU) (by simp[aQ,mL]) (by omega)
   rw[h1] at ve
   simp only[bB,mL,cond_false] at bh
   have:=L8 he bh
   have hr:=eM.1 mH es[j] (jb (by rw[eD hj];exact bE gU))
   simp only[uK,aI,dM] at hr
   have oJ:(x.toNat:Int)=es[j].toInt:=by
    rw[←hx]
    have:es[j].toInt.toNat<256:=by omega
    simp only[UInt8.toNat_ofNat']
    omega
   rw[mF,cell?_cells hh,oJ]
   rw[show 0+j=j*1+0 by omega,ve,this])
  obtain ⟨f1,f2,f3,f4,f5⟩:=VX (w:=w) (b:=b) (n:=n.toNat)
  obtain ⟨k1,k2⟩:=BR (w':=w.freeze ⟨b,0,none⟩ n.toNat) S ab (by simp) (blk':= .dead) (by trivial) GM (cC rfl) (by simp) f1 f2 f3 ⟨f4,f5⟩ (fun _=> .dead)
  rw[←GJ,hl] at cI
  refine ⟨.string ⟨(j5 (es.take n.toNat)).toArray⟩,_,I,β,?_,k1,k2,.str ?_⟩
  ·simpa using cI
  ·rfl
def GN:Op→Bool
 | .call {callee:= .value (.func _),..}=>true
 | .call {callee:= .value (.tmp _),..}=>true
 | .defer _=>true
 | _=>false
theorem oG.val {o:Oper} {a:Act} {s:Sem Value} {r:R} (he:execOp a.eval o=(do Pure.pure (Next.value (←s)))) (h:cK P (s.run P w) w I β hp B M w0 r):oG P ((execOp a.eval o).run P w) w I β hp B M w0 r:=by
 rw[he];exact h.op
theorem V1 {A:ct} (S:aE P w I β hp B M w0) (hg:gh P A.aD w I) {a:Act} {sl:Nat→V} (hs:ka P w I β hp a sl) {ix nb:Nat} {o:Oper} (GO:GN o.op=false) {r:R} {rd:List Nat}
  (h:(eZ P A sl ix nb o).run C hp=some (r,rd)):oG P ((execOp a.eval o).run P w) w I β hp B M w0 r:=by
 obtain ⟨dst,op,ty,pos,after,guard⟩:=o
 cases op<;>simp only[eZ] at h<;>first|(cases h;done)|skip
 case move x=>
  obtain rfl:=aM h
  exact ⟨_,w,I,β,.inl (by simp[execOp]),Le.refl w I β hp,S,hs.ev hg ty x⟩
 case assign x=>
  obtain rfl:=aM h
  exact ⟨_,w,I,β,.inl (by simp[execOp]),Le.refl w I β hp,S,hs.ev hg ty x⟩
 case pick c x y=>
  have hc:=hs.ev hg ty c
  cases sP:aN P A.aD ty sl c<;>rw[sP] at h hc<;>simp only at h<;>first|(cases h;done)|skip
  rename_i t
  have V2:=hc.jI
  have hx:=hs.ev hg ty x
  have hy:=hs.ev hg ty y
  have fin: ∀z:V,ao P w I β hp (if t then a.eval x else a.eval y) z→oG P ((execOp a.eval ⟨dst,.pick c x y,ty,pos,after,guard⟩).run P w) w I β hp B M w0 ⟨z,[]⟩:=by
   intro z hz
   exact ⟨_,w,I,β,.inl (by simp[execOp,V2,asBool]),Le.refl w I β hp,S,hz⟩
  cases L9:gone (aN P A.aD ty sl x) with
  | true=>
   rw[L9] at h
   obtain ⟨h1,h⟩:=aF h
   obtain rfl:=aM h
   have:t=false:=by simpa using h1
   subst this
   refine fin _ ?_
   simpa using hy
  | false=>
   rw[L9] at h
   simp only[cond_false] at h
   cases sY:gone (aN P A.aD ty sl y) with
   | true=>
    rw[sY] at h
    obtain ⟨h1,h⟩:=aF h
    obtain rfl:=aM h
    subst h1
    refine fin _ ?_
    simpa using hx
   | false=>
    rw[sY] at h
    obtain rfl:=aM h
    exact fin _ (KW hx hy)
 case makeFunc fn x y=>
  cases fn<;>simp only[eZ] at h<;>first|(cases h;done)|skip
  rename_i f
  obtain rfl:=aM h
  refine ⟨.func (.func f) (x.map a.eval) (y.map a.eval),w,I,β,.inl (by simp[execOp,Instr.makeFunc]),Le.refl w I β hp,S,.fn (by simp) (fun j v z hj hz=> ?_) (by simp) (fun j v z hj hz=> ?_)⟩
  ·rw[Array.getElem?_map] at hj
   rw[gk,qK] at hz
   cases hx:x[j]? with
   | none=>rw[hx] at hj;cases hj
   | some o1=>
    rw[hx] at hj hz
    cases hj
    cases hz
    exact hs.ev hg ty o1
  ·rw[Array.getElem?_map] at hj
   rw[gk,qK] at hz
   cases hx:y[j]? with
   | none=>rw[hx] at hj;cases hj
   | some o1=>
    rw[hx] at hj hz
    cases hj
    cases hz
    exact hs.ev hg ty o1
 case defer c=>cases GO
 case makeMap t res=>
  cases res with
  | some x=>cases h
  | none=>exact .val rfl (VF S h)
 case lookup t m k ok=>
  cases ht:kO P t with
  | none=>rw[ht] at h;cases h
  | some q=>
   obtain ⟨kt,vt⟩:=q
   rw[ht] at h
   exact .val (s:=Instr.lookup t (a.eval m) (a.eval k) ok) rfl (VE S ht (hs.ev hg t m) (hs.ev hg kt k) h)
 case mapUpdate t m k x=>
  cases ht:kO P t with
  | none=>rw[ht] at h;cases h
  | some q=>
   obtain ⟨kt,vt⟩:=q
   rw[ht] at h
   have:=L1 S ht (hs.ev hg t m) (hs.ev hg kt k) (hs.ev hg vt x) h
   exact this.op
 case insert t m k x=>
  cases ht:kO P t with
  | none=>rw[ht] at h;cases h
  | some q=>
   obtain ⟨kt,vt⟩:=q
   rw[ht] at h
   have:=L1 S ht (hs.ev hg t m) (hs.ev hg kt k) (hs.ev hg vt x) h
   exact this.op
 case alloc e=>
  exact .val rfl (UR S h)
 case box e x=>
  exact .val rfl (US S (hs.ev hg e x) h)
 case build t ps=>exact .val rfl (UU S hs hg h)
 case buildSlice t len ps=>
  cases hu:P.underlying t with
  | none=>rw[hu] at h;cases h
  | some d=>
   rw[hu] at h
   cases d<;>simp only at h<;>first|(cases h;done)|skip
   exact .val rfl (U3 S hs hg hu h)
 case load t x=>exact .val rfl (Uq S (hs.ev hg ty x) h)
 case store t x y=>
  have:=UM S (hs.ev hg ty x) (hs.ev hg t y) h
  exact this.op
 case nilCheck x=>
  have hx:=hs.ev hg ty x
  cases eQ:aN P A.aD ty sl x<;>rw[eQ] at h hx<;>simp only at h<;>first|(cases h;done)|skip
  ·obtain ⟨⟨blk,ab,hd⟩,l,h⟩:=uW h
   obtain rfl:=aM h
   have cf:=hx
   obtain ⟨b,hb,he⟩:=hx.gv ab hd
   rw[he] at cf
   exact ⟨_,w,I,β,.inl (by simp only[execOp,he];rfl),Le.refl w I β hp,S,cf⟩
  ·obtain rfl:=aM h
   have cf:=hx
   obtain ⟨b,o,he,_⟩:=hx.BV
   rw[he] at cf
   exact ⟨_,w,I,β,.inl (by simp only[execOp,he];rfl),Le.refl w I β hp,S,cf⟩
  ·obtain ⟨e0,es,aq,l,ab,h1,U,h3,h⟩:=nB h
   obtain rfl:=aM h
   have cf:=hx
   obtain ⟨b,o,he,_⟩:=hx.KU ab h1 U h3
   rw[he] at cf
   exact ⟨_,w,I,β,.inl (by simp only[execOp,he];rfl),Le.refl w I β hp,S,cf⟩
 case binOp op t x y yt=>
  have hx:=hs.ev hg t x
  have hy:=hs.ev hg t y
  refine .val (s:=do eqGuard op t x y (a.eval x) (a.eval y);binOp op t (a.eval x) (a.eval y)) rfl ?_
  cases eQ:aN P A.aD t sl x<;>cases rp:aN P A.aD t sl y<;>rw[eQ,rp] at h<;>rw[eQ] at hx<;>rw[rp] at hy<;>first|(simp only[jB] at h;cases h;done)|skip
  ·rw[hx.dS,hy.dS]
   have:=Ug S h
   simpa[Ud] using this
  ·rw[hx.jI,hy.jI]
   have:=Ui S h
   simpa[Ue] using this
  ·obtain ⟨s1,e1,l1⟩:=hx.lF
   obtain ⟨s2,e2,l2⟩:=hy.lF
   rw[e1,e2]
   rw[←l1,←l2] at h
   have:=Uj (t:=t) S h
   simpa[Uf] using this
  ·obtain ⟨cs,e1,h1,U⟩:=hx.kf
   obtain ⟨ds,e2,h3,h4⟩:=hy.kf
   rw[e1,e2]
   exact Uk S h1 h3 U h4 h
  ·
   simp only[jB] at h
   obtain ⟨h1,U⟩:=aF h
   clear h
   simp only[aI,aP] at h1
   obtain ⟨rfl,rfl,rfl⟩:=h1
   obtain ⟨⟨blk,ab,hd⟩,l,h⟩:=uW U
   obtain ⟨b,hb,e1⟩:=hx.gv ab hd
   obtain ⟨b',az,e2⟩:=hy.gv ab hd
   rw[hb] at az;cases az
   rw[e1,e2]
   exact Ct S h (by cases op<;>simp[eqGuard]) fun e j he hj=>⟨run_eql_ptr_same w _ he hj,Lib.run_neq_ptr_same w _ he hj⟩
  ·simp only[jB] at h
   obtain ⟨⟨blk,ab,hd⟩,l,h⟩:=uW h
   obtain ⟨b,_,e1⟩:=hx.gv ab hd
   rw[e1,hy.Cs]
   exact Ct S h (by cases op<;>simp[eqGuard]) fun e j he hj=>⟨VQ w t e _ he,VR w t e _ he⟩
  ·simp only[jB] at h
   obtain ⟨⟨blk,ab,hd⟩,l,h⟩:=uW h
   obtain ⟨b,_,e1⟩:=hy.gv ab hd
   rw[e1,hx.Cs]
   exact Ct S h (by cases op<;>simp[eqGuard]) fun e j he hj=>⟨VT w t e _ he,VU w t e _ he⟩
  ·simp only[jB] at h
   rw[hx.Cs,hy.Cs]
   exact Ct S h (by cases op<;>simp[eqGuard]) fun e j he hj=>⟨VV w t e he,VW w t e he⟩
  ·
   simp only[jB] at h
   obtain ⟨l,h⟩:=run_get h
   split at h
   ·rename_i t2 es ab
    obtain ⟨b,hb⟩:=hx.VJ ab
    rw[hy.GK,hb]
    exact L3 (a:=some b) S x y h
   ·cases h
  ·simp only[jB] at h
   rw[hx.GK,hy.GK]
   exact L3 (a:=none) S x y h
 case unOp op t x=>exact .val rfl (Ul S (hs.ev hg ty x) h)
 case convert src dst x=>
  have hx:=hs.ev hg ty x
  refine .val (s:=convert src dst (a.eval x)) rfl ?_
  cases ij:P.underlying src with
  | none=>rw[ij] at h;cases h
  | some d1=>
   cases k0:P.underlying dst with
   | none=>rw[ij,k0] at h;cases d1<;>cases h
   | some d2=>
    rw[ij,k0] at h
    have gL: ∀{b:Nat} {T:TypeId} {cs:List V} {id:Nat},hp id=some (.var T cs)→β id=some b→w.shape? b=some (T,cs.length):=by
     intro b T cs id ab hb
     have hr:=S.h.rel id _ ab
     rw[hb] at hr
     cases hr with
     | var az hh aR _ _ _=>cases az;simp[World.shape?,hh,aR]
    cases d1<;>(try (cases d2<;>cases h;done))
    ·cases d2<;>(try (cases h;done))
     rename_i k1 k2
     cases eQ:aN P A.aD ty sl x<;>rw[eQ] at h hx<;>simp only at h<;>first|(cases h;done)|skip
     obtain rfl:=aM h
     rw[hx.dS]
     exact .same S (by simp[convert,run_underlying ij,run_underlying k0,Conv.intToInt]) .int
    ·cases d2<;>(try (cases h;done))
     rename_i u
     cases eQ:aN P A.aD ty sl x<;>rw[eQ] at h hx<;>simp only at h<;>first|(cases h;done)|skip
     rename_i id i c
     obtain ⟨l,h1⟩:=run_get h
     cases ab:hp id with
     | none=>rw[ab] at h1;cases h1
     | some blk=>
      rw[ab] at h1
      cases blk<;>simp only at h1<;>first|(cases h1;done)|skip
      rename_i T cs
      obtain ⟨U,h3⟩:=aF h1
      simp only[aI,aP] at U
      obtain ⟨rfl,h4,h5⟩:=U
      obtain ⟨b,hb,e1⟩:=hx.gv ab (by simp)
      obtain rfl:=aM h3
      obtain ⟨j,hj⟩:=xr.1 h4
      have cf:=hx
      rw[e1] at cf⊢
      exact .same S (Lib.run_from_unsafe w _ ij k0 hj (gL ab hb) (by simpa using h5)) cf
    ·cases d2<;>(try (cases h;done))
     rename_i t
     cases eQ:aN P A.aD ty sl x<;>rw[eQ] at h hx<;>simp only at h<;>first|(cases h;done)|skip
     rename_i id i c
     obtain ⟨l,h1⟩:=run_get h
     cases ab:hp id with
     | none=>rw[ab] at h1;cases h1
     | some blk=>
      rw[ab] at h1
      cases blk<;>simp only at h1<;>first|(cases h1;done)|skip
      rename_i T cs
      obtain ⟨U,h3⟩:=aF h1
      simp only[aI,aP,jw] at U
      obtain ⟨rfl,h4,h5⟩:=U
      obtain ⟨b,hb,e1⟩:=hx.gv ab (by simp)
      obtain rfl:=aM h3
      cases hj:P.info? t with
      | none=>rw[hj] at h5;cases h5
      | some j=>
       rw[hj] at h5
       simp only[mh] at h5
       have h6:j.size≠0:=fun e=>by rw[e] at h5;cases h5
       have cf:=hx
       rw[e1] at cf⊢
       exact .same S (Lib.run_to_unsafe w _ ij k0 hj h6 (gL ab hb) (by simpa using h4)) cf
    ·rename_i e
     cases d2<;>(try (cases h;done))
     simp only at h
     cases he:P.underlying e with
     | none=>rw[he] at h;cases h
     | some d3=>
      rw[he] at h
      cases d3<;>(try (cases h;done))
      rename_i k
      cases k<;>(try (cases h;done))
      exact VP S ij he k0 hx h
 case fieldAddr s x f=>exact .val rfl (Um S (hs.ev hg ty x) h)
 case field s x f=>exact .val rfl (Vk S (hs.ev hg ty x) h)
 case indexAddr t x y=>exact .val rfl (Vt S (hs.ev hg ty x) (hs.ev hg 0 y) h)
 case index t x y=>
  have hx:=hs.ev hg ty x
  have hy:=hs.ev hg 0 y
  refine .val (s:=Instr.index t (a.eval x) (a.eval y)) rfl ?_
  cases hu:P.underlying t with
  | none=>rw[hu] at h;cases h
  | some d=>
   rw[hu] at h
   cases d<;>(try (cases h;done))
   cases eQ:aN P A.aD ty sl x<;>rw[eQ] at h hx<;>(try (cases h;done))
   cases rp:aN P A.aD 0 sl y<;>rw[rp] at h hy<;>(try (cases h;done))
   obtain ⟨s,e1,l1⟩:=hx.lF
   rw[e1,hy.dS]
   exact Vm S hu l1 h
 case slice t x lo hi mx=>
  cases mx with
  | some m=>
   simp only at h
   refine .val (s:=Instr.sliceAt t (a.eval x) (lo.map a.eval) (hi.map a.eval) (some (a.eval m))) (by simp[execOp]) (Vr S (hs.ev hg ty x) (fun hy=> ?_) (fun y hy=> ?_) (fun y hy=> ?_) h)
   ·cases lo with
    | none=>rfl
    | some l=>cases hy
   ·cases hi with
    | none=>cases hy
    | some l=>cases hy;exact ⟨_,rfl,hs.ev hg 0 l⟩
   ·cases hy;exact ⟨_,rfl,hs.ev hg 0 m⟩
  | none=>
   simp only at h
   have plain:(Bx P t (aN P A.aD ty sl x) (lo.map (aN P A.aD 0 sl)) (hi.map (aN P A.aD 0 sl))).run C hp=some (r,rd)→oG P ((execOp a.eval ⟨dst,.slice t x lo hi none,ty,pos,after,guard⟩).run P w) w I β hp B M w0 r:=by
    intro h
    refine .val (s:=Instr.sliceAt t (a.eval x) (lo.map a.eval) (hi.map a.eval) none) (by simp[execOp]) (Vq S (hs.ev hg ty x) (fun y hy=> ?_) (fun y hy=> ?_) (fun hy=> ?_) (fun hy=> ?_) h)
    ·cases lo with
     | none=>cases hy
     | some l=>cases hy;exact ⟨_,rfl,hs.ev hg 0 l⟩
    ·cases hi with
     | none=>cases hy
     | some l=>cases hy;exact ⟨_,rfl,hs.ev hg 0 l⟩
    ·cases lo with
     | none=>rfl
     | some l=>cases hy
    ·cases hi with
     | none=>rfl
     | some l=>cases hy
   have tr:(By P nb t (aN P A.aD ty sl x) (lo.map (aN P A.aD 0 sl)) (hi.map (aN P A.aD 0 sl))).run C hp=some (r,rd)→oG P ((execOp a.eval ⟨dst,.slice t x lo hi none,ty,pos,after,guard⟩).run P w) w I β hp B M w0 r:=by
    intro h
    refine .val (s:=Instr.sliceAt t (a.eval x) (lo.map a.eval) (hi.map a.eval) none) (by simp[execOp]) (Vv S (hs.ev hg ty x) (fun y hy=> ?_) (fun hy=> ?_) h)
    ·cases hi with
     | none=>cases hy
     | some l=>cases hy;exact ⟨_,rfl,hs.ev hg 0 l⟩
    ·cases lo with
     | none=>rfl
     | some l=>cases hy
   cases dst with
   | none=>exact plain h
   | some d=>
    simp only at h
    cases Ma:jz A.uB d with
    | true=>rw[Ma] at h;exact tr h
    | false=>rw[Ma] at h;exact plain h
 case extract x i=>
  have hx:=hs.ev hg ty x
  cases eQ:aN P A.aD ty sl x<;>rw[eQ] at h hx<;>simp only at h<;>first|(cases h;done)|skip
  exact .val (s:=Instr.extract (a.eval x) i) rfl (Vl S hx h)
 case makeSlice t l c=>
  have hl:=hs.ev hg 0 l
  have hc:=hs.ev hg 0 c
  refine .val (s:=Instr.makeSlice t (a.eval l) (a.eval c)) rfl ?_
  cases hu:P.underlying t with
  | none=>rw[hu] at h;cases h
  | some d=>
   rw[hu] at h
   cases d<;>(try (cases h;done))
   cases GP:aN P A.aD 0 sl l<;>rw[GP] at h hl<;>(try (cases h;done))
   cases sP:aN P A.aD 0 sl c<;>rw[sP] at h hc<;>(try (cases h;done))
   rw[hl.dS,hc.dS]
   cases dst with
   | none=>exact Lw S hu h
   | some d=>
    simp only at h
    cases hg:jz A.uB d with
    | true=>rw[hg] at h;exact U5 S hu h
    | false=>rw[hg] at h;exact Lw S hu h
 case call c=>
  obtain ⟨callee,args,argTypes⟩:=c
  cases callee with
  | invoke r m=>cases h
  | value f=>
   cases f with
   | func f=>cases GO
   | tmp f=>cases GO
   | _=>cases h
  | builtin b=>
   have one: ∀{x:Operand},args.toList=[x]→args= #[x]:=fun h=>by rw[←Array.toArray_toList (xs:=args),h]
   have p9: ∀(s:Array TypeId→TypeId→Array Value→Sem Value),builtin b argTypes ty (args.map fun| .const _=>true|_=>false) (args.map a.eval)=(do Pure.pure (Next.value (←s argTypes ty (args.map a.eval))))→
     execOp a.eval ⟨dst,.call ⟨.builtin b,args,argTypes⟩,ty,pos,after,guard⟩=(do Pure.pure (Next.value (←s argTypes ty (args.map a.eval)))):=by
    intro s hb
    simp only[execOp,resolve,pure_bind,invoke]
    exact hb
   cases b<;>(try (cases h;done))
   case append=>
    simp only at h
    cases ha:args.toList with
    | nil=>rw[ha] at h;cases h
    | cons x l=>
     cases l with
     | nil=>rw[ha] at h;cases h
     | cons y l2=>
      cases l2 with
      | cons _ _=>rw[ha] at h;cases h
      | nil=>
       cases cW:argTypes.toList with
       | nil=>rw[ha,cW] at h;cases h
       | cons t l3=>
        cases l3 with
        | nil=>rw[ha,cW] at h;cases h
        | cons u l4=>
         cases l4 with
         | cons _ _=>rw[ha,cW] at h;cases h
         | nil=>
          rw[ha,cW] at h
          simp only at h
          have e1:args= #[x,y]:=by rw[←Array.toArray_toList (xs:=args),ha]
          have e2:argTypes= #[t,u]:=by rw[←Array.toArray_toList (xs:=argTypes),cW]
          cases hu:P.underlying t with
          | none=>rw[hu] at h;cases h
          | some d=>
           rw[hu] at h
           cases d<;>(try (cases h;done))
           cases hc:Nat.beq t u with
           | true=>
            rw[hc] at h
            rw[aP] at hc
            subst hc
            have:=U8 (ty:=ty) S hu (hs.ev hg t x) (hs.ev hg t y) h
            refine .val (p9 Builtin.append_ rfl) ?_
            rw[e1,e2]
            simpa using this
           | false=>
            rw[hc] at h
            simp only[cond_false] at h
            have hy:=hs.ev hg u y
            cases nL:P.underlying u with
            | none=>rw[nL] at h;cases h
            | some du=>
             rw[nL] at h
             cases du<;>(try (cases h;done))
             cases rp:aN P A.aD u sl y<;>rw[rp] at h hy<;>(try (cases h;done))
             simp only at h
             obtain ⟨hb,h⟩:=aF h
             obtain ⟨s1,q1,q2⟩:=hy.lF
             subst q2
             have:=VO (ty:=ty) S hu nL (VY hb) (hs.ev hg t x) h
             refine .val (p9 Builtin.append_ rfl) ?_
             rw[e1,e2]
             simpa[q1] using this
   case len=>
    simp only at h
    cases ha:args.toList with
    | nil=>rw[ha] at h;cases h
    | cons x l=>
     cases l with
     | cons _ _=>rw[ha] at h;cases h
     | nil=>
      cases cW:argTypes.toList with
      | nil=>rw[ha,cW] at h;cases h
      | cons t l3=>
       cases l3 with
       | cons _ _=>rw[ha,cW] at h;cases h
       | nil=>
        rw[ha,cW] at h
        simp only at h
        have e1:args= #[x]:=by rw[←Array.toArray_toList (xs:=args),ha]
        have e2:argTypes= #[t]:=by rw[←Array.toArray_toList (xs:=argTypes),cW]
        have hx:=hs.ev hg ty x
        refine .val (p9 Builtin.len_ rfl) ?_
        rw[e1,e2]
        cases hu:P.underlying t with
        | none=>rw[hu] at h;cases h
        | some d=>
         rw[hu] at h
         cases d<;>(try (cases h;done))
         ·cases eQ:aN P A.aD ty sl x<;>rw[eQ] at h hx<;>(try (cases h;done))
          have:=KX (t:=t) (ty:=ty) S hx (fun l hl=>hu) (fun hn=>absurd rfl (hn _)) h
          simpa using this
         ·have U:(∀l,aN P A.aD ty sl x≠ .str l)∧(Bs P (aN P A.aD ty sl x)).run C hp=some (r,rd):=by
           cases eQ:aN P A.aD ty sl x<;>rw[eQ] at h<;>first|(cases h;done)|exact ⟨fun l=>by simp,h⟩
          have:=KX (t:=t) (ty:=ty) S hx (fun l hl=>absurd hl (U.1 l)) (fun _=>⟨_,hu⟩) U.2
          simpa using this
         ·have U:(Bw (aN P A.aD ty sl x)).run C hp=some (r,rd):=by
           cases eQ:aN P A.aD ty sl x<;>rw[eQ] at h<;>exact h
          have:=VI (t:=t) (ty:=ty) S hu hx U
          simpa using this
   case unsafeSliceData=>
    simp only at h
    cases ha:args.toList with
    | nil=>rw[ha] at h;cases h
    | cons x l=>
     cases l with
     | cons _ _=>rw[ha] at h;cases h
     | nil=>
      rw[ha] at h
      simp only at h
      have e1:args= #[x]:=by rw[←Array.toArray_toList (xs:=args),ha]
      have hx:=hs.ev hg ty x
      refine .val (p9 Builtin.unsafeSliceData_ rfl) ?_
      rw[e1]
      cases eQ:aN P A.aD ty sl x<;>rw[eQ] at h hx<;>simp only at h<;>first|(cases h;done)|skip
      rename_i e id
      obtain ⟨l2,h1⟩:=run_get h
      cases ab:hp id with
      | none=>rw[ab] at h1;cases h1
      | some blk=>
       rw[ab] at h1
       cases blk<;>simp only at h1<;>first|(cases h1;done)|skip
       rename_i e' es fz
       obtain ⟨U,h3⟩:=aF h1
       simp only[aI,aP,jw] at U
       obtain ⟨rfl,h4⟩:=U
       obtain rfl:=aM h3
       have:=VZ (ts:=argTypes) (ty:=ty) S hx ab h4
       simpa using this
   case unsafeString=>
    simp only at h
    cases ha:args.toList with
    | nil=>rw[ha] at h;cases h
    | cons x l=>
     cases l with
     | nil=>rw[ha] at h;cases h
     | cons y l2=>
      cases l2 with
      | cons _ _=>rw[ha] at h;cases h
      | nil=>
       cases cW:argTypes.toList with
       | nil=>rw[ha,cW] at h;cases h
       | cons t l3=>
        cases l3 with
        | nil=>rw[ha,cW] at h;cases h
        | cons u l4=>
         cases l4 with
         | cons _ _=>rw[ha,cW] at h;cases h
         | nil=>
          rw[ha,cW] at h
          simp only at h
          have e1:args= #[x,y]:=by rw[←Array.toArray_toList (xs:=args),ha]
          have e2:argTypes= #[t,u]:=by rw[←Array.toArray_toList (xs:=argTypes),cW]
          have hx:=hs.ev hg ty x
          have hy:=hs.ev hg ty y
          cases hu:P.underlying t with
          | none=>rw[hu] at h;cases h
          | some d=>
           rw[hu] at h
           cases d<;>(try (cases h;done))
           rename_i e
           cases eQ:aN P A.aD ty sl x<;>rw[eQ] at h hx<;>(try (cases h;done))
           cases rp:aN P A.aD ty sl y<;>rw[rp] at h hy<;>(try (cases h;done))
           rename_i id i c k n
           cases k<;>(try (cases h;done))
           simp only at h
           obtain ⟨l2,h1⟩:=run_get h
           cases ab:hp id with
           | none=>rw[ab] at h1;cases h1
           | some blk=>
            rw[ab] at h1
            cases blk<;>simp only at h1<;>first|(cases h1;done)|skip
            rename_i e' es fz
            cases fz<;>simp only at h1<;>first|(cases h1;done)|skip
            obtain ⟨U,h3⟩:=aF h1
            simp only[aI,aP,dC,dM] at U
            obtain ⟨rfl,h4,rfl,rfl,h5,h6,h7,h8⟩:=U
            obtain rfl:=aM h3
            have:=V0 (u:=u) (ty:=ty) S hu h4 hx ab h5 h6 h7 h8
            refine .val (p9 Builtin.unsafeString_ rfl) ?_
            rw[e1,e2]
            simpa[hy.dS] using this
   case copy=>
    simp only at h
    cases ha:args.toList with
    | nil=>rw[ha] at h;cases h
    | cons x l=>
     cases l with
     | nil=>rw[ha] at h;cases h
     | cons y l2=>
      cases l2 with
      | cons _ _=>rw[ha] at h;cases h
      | nil=>
       cases cW:argTypes.toList with
       | nil=>rw[ha,cW] at h;cases h
       | cons t l3=>
        cases l3 with
        | nil=>rw[ha,cW] at h;cases h
        | cons u l4=>
         cases l4 with
         | cons _ _=>rw[ha,cW] at h;cases h
         | nil=>
          rw[ha,cW] at h
          simp only at h
          have e1:args= #[x,y]:=by rw[←Array.toArray_toList (xs:=args),ha]
          have e2:argTypes= #[t,u]:=by rw[←Array.toArray_toList (xs:=argTypes),cW]
          cases hu:P.underlying t with
          | none=>rw[hu] at h;cases h
          | some d=>
           rw[hu] at h
           cases d<;>(try (cases h;done))
           have:=Ve (u:=u) (ty:=ty) S hu (hs.ev hg t x) (hs.ev hg u y) h
           refine .val (p9 Builtin.copy_ rfl) ?_
           rw[e1,e2]
           simpa using this
   case clear=>
    simp only at h
    cases ha:args.toList with
    | nil=>rw[ha] at h;cases h
    | cons x l=>
     cases l with
     | cons _ _=>rw[ha] at h;cases h
     | nil=>
      cases cW:argTypes.toList with
      | nil=>rw[ha,cW] at h;cases h
      | cons t l3=>
       cases l3 with
       | cons _ _=>rw[ha,cW] at h;cases h
       | nil=>
        rw[ha,cW] at h
        simp only at h
        have e1:args= #[x]:=by rw[←Array.toArray_toList (xs:=args),ha]
        have e2:argTypes= #[t]:=by rw[←Array.toArray_toList (xs:=argTypes),cW]
        cases hu:P.underlying t with
        | none=>rw[hu] at h;cases h
        | some d=>
         rw[hu] at h
         cases d<;>(try (cases h;done))
         have:=Vf (ty:=ty) S hu (hs.ev hg t x) h
         refine .val (p9 Builtin.clear_ rfl) ?_
         rw[e1,e2]
         simpa using this
   case max=>
    simp only at h
    cases ha:args.toList with
    | nil=>rw[ha] at h;cases h
    | cons x l=>
     rw[ha] at h
     simp only at h
     have:=Gv S true (vs:=l.map a.eval) (xs:=l.map (aN P A.aD ty sl)) (hs.ev hg ty x) (by simp) (fun j u y hu hy=>by
      simp only[gk] at hu hy
      cases hl:l[j]? with
      | none=>rw[hl] at hu;cases hu
      | some z=>rw[hl] at hu hy;cases hu;cases hy;exact hs.ev hg ty z) h
     refine .val (p9 Builtin.max_ rfl) ?_
     simpa[Builtin.max_,ha] using this
   case min=>
    simp only at h
    cases ha:args.toList with
    | nil=>rw[ha] at h;cases h
    | cons x l=>
     rw[ha] at h
     simp only at h
     have:=Gv S false (vs:=l.map a.eval) (xs:=l.map (aN P A.aD ty sl)) (hs.ev hg ty x) (by simp) (fun j u y hu hy=>by
      simp only[gk] at hu hy
      cases hl:l[j]? with
      | none=>rw[hl] at hu;cases hu
      | some z=>rw[hl] at hu hy;cases hu;cases hy;exact hs.ev hg ty z) h
     refine .val (p9 Builtin.min_ rfl) ?_
     simpa[Builtin.min_,ha] using this
end
section
variable {P:Program} {A:ct} {w w':World} {I I' I2:Nat→Prop} {μ β β':Nat→Option Nat} {hp hp':Nat→Option an} {C:ag} {B:Nat} {M:Nat→Prop} {w0:Start}
theorem vj: ∀{l m:List Nat},dX.nu l m=true→l=m
 | [],[],_=>rfl
 | [],_::_,h=>by cases h
 | _::_,[],h=>by cases h
 | a::l,b::m,h=>by
  simp only[dX.nu,aI,aP] at h
  rw[h.1,vj h.2]
@[simp] theorem Mb (n:Nat):j6 (dN n)=n:=by simp[j6,dN,V.toInt]
theorem Cu: ∀(path:List (Nat × Nat)) (rest:List V),xJ (path.map (·.2)) ((path.map fun p=>dN p.1)++rest)=path
 | [],_=>rfl
 | p::l,rest=>by
  simp only[cG,List.cons_append,xJ,V.nth,Mb,j4,iI,Cu l rest]
theorem Cv {l:LS} {x:V} {ds:List V} (h:dX l x=some ds):ds.length=l.size∧(l= .pz∨∀rest,hZ l (ds++rest)=x):=by
 cases l with
 | pz=>simp only[dX,dD] at h;subst h;exact ⟨rfl,.inl rfl⟩
 | int k=>
  cases x<;>simp only[dX] at h<;>first|(cases h;done)|skip
  rename_i k' n
  by_cases hk:k=k'
  ·subst hk
   simp only[qH,cond_true,dD] at h
   subst h
   exact ⟨rfl,.inr fun _=>rfl⟩
  ·simp[hk] at h
 | bool=>
  cases x<;>simp only[dX] at h<;>first|(cases h;done)|skip
  cases h
  exact ⟨rfl,.inr fun _=>rfl⟩
 | str=>
  cases x<;>simp only[dX] at h<;>first|(cases h;done)|skip
  cases h
  exact ⟨rfl,.inr fun _=>rfl⟩
 | list e=>
  cases x<;>simp only[dX] at h<;>first|(cases h;done)|skip
  rename_i e' es
  cases hb:Nat.beq e e' with
  | false=>rw[hb] at h;cases h
  | true=>
   rw[hb] at h
   rw[aP] at hb
   subst hb
   cases h
   exact ⟨rfl,.inr fun _=>rfl⟩
 | whole e j=>
  cases x<;>simp only[dX] at h<;>first|(cases h;done)|skip
  rename_i e' id
  cases hb:(Nat.beq e e'&&Nat.beq j id) with
  | false=>rw[hb] at h;cases h
  | true=>
   rw[hb] at h
   simp only[aI,aP] at hb
   obtain ⟨rfl,rfl⟩:=hb
   cases h
   exact ⟨rfl,.inr fun _=>rfl⟩
 | sub e j=>
  cases x<;>simp only[dX] at h<;>first|(cases h;done)|skip
  rename_i e' id o n
  cases hb:(Nat.beq e e'&&Nat.beq j id) with
  | false=>rw[hb] at h;cases h
  | true=>
   rw[hb] at h
   simp only[aI,aP] at hb
   obtain ⟨rfl,rfl⟩:=hb
   cases h
   exact ⟨rfl,.inr fun _=>by simp[hZ,V.nth]⟩
 | ptr j=>
  cases x<;>simp only[dX] at h<;>first|(cases h;done)|skip
  rename_i id i c
  cases hb:(Nat.beq j id) with
  | false=>rw[hb] at h;cases h
  | true=>
   rw[hb] at h
   rw[aP] at hb
   subst hb
   cases h
   exact ⟨rfl,.inr fun _=>by simp[hZ,V.nth]⟩
 | mq j i c=>
  cases x<;>simp only[dX] at h<;>first|(cases h;done)|skip
  rename_i id i' c'
  cases hb:(Nat.beq j id&&(Nat.beq i i'&&Nat.beq c c')) with
  | false=>rw[hb] at h;cases h
  | true=>
   rw[hb] at h
   simp only[aI,aP] at hb
   obtain ⟨rfl,rfl,rfl⟩:=hb
   cases h
   exact ⟨rfl,.inr fun _=>rfl⟩
 | nilS e=>
  cases x<;>simp only[dX] at h<;>first|(cases h;done)|skip
  rename_i e'
  cases hb:Nat.beq e e' with
  | false=>rw[hb] at h;cases h
  | true=>
   rw[hb] at h
   rw[aP] at hb
   subst hb
   cases h
   exact ⟨rfl,.inr fun _=>rfl⟩
 | c6=>
  cases x<;>simp only[dX] at h<;>first|(cases h;done)|skip
  cases h
  exact ⟨rfl,.inr fun _=>rfl⟩
 | cb e j=>
  cases x<;>simp only[dX] at h<;>first|(cases h;done)|skip
  rename_i e' id
  cases hb:(Nat.beq e e'&&Nat.beq j id) with
  | false=>rw[hb] at h;cases h
  | true=>
   rw[hb] at h
   simp only[aI,aP] at hb
   obtain ⟨rfl,rfl⟩:=hb
   cases h
   exact ⟨rfl,.inr fun _=>rfl⟩
 | dc e=>
  cases x<;>simp only[dX] at h<;>first|(cases h;done)|skip
  rename_i e'
  cases hb:Nat.beq e e' with
  | false=>rw[hb] at h;cases h
  | true=>
   rw[hb] at h
   rw[aP] at hb
   subst hb
   cases h
   exact ⟨rfl,.inr fun _=>rfl⟩
 | Bl k n=>
  cases x<;>simp only[dX] at h<;>first|(cases h;done)|skip
  rename_i k' m
  cases hb:(decide (k=k')&&decide (m=n)) with
  | false=>rw[hb] at h;cases h
  | true=>
   rw[hb] at h
   simp only[aI,dM] at hb
   obtain ⟨rfl,rfl⟩:=hb
   cases h
   exact ⟨rfl,.inr fun _=>rfl⟩
 | Bm b=>
  cases x<;>simp only[dX] at h<;>first|(cases h;done)|skip
  rename_i c
  cases hb:decide (b=c) with
  | false=>rw[hb] at h;cases h
  | true=>
   rw[hb] at h
   obtain rfl:=lr hb
   cases h
   exact ⟨rfl,.inr fun _=>rfl⟩
 | row e j cs=>
  cases x<;>simp only[dX] at h<;>first|(cases h;done)|skip
  rename_i e' id ver path
  cases hb:(Nat.beq e e'&&(Nat.beq j id&&(Nat.beq ver 0&&dX.nu cs (path.map (·.2))))) with
  | false=>rw[hb] at h;cases h
  | true=>
   rw[hb] at h
   simp only[aI,aP] at hb
   obtain ⟨rfl,rfl,rfl,nE⟩:=hb
   have:=vj nE
   subst this
   cases h
   exact ⟨by simp[LS.size],.inr fun rest=>by simp only[hZ,Cu]⟩
 | cm j cs c=>
  cases x<;>simp only[dX] at h<;>first|(cases h;done)|skip
  rename_i id ver path i c'
  cases hb:(Nat.beq j id&&(Nat.beq ver 0&&(Nat.beq c c'&&dX.nu cs (path.map (·.2))))) with
  | false=>rw[hb] at h;cases h
  | true=>
   rw[hb] at h
   simp only[aI,aP] at hb
   obtain ⟨rfl,rfl,rfl,nE⟩:=hb
   have:=vj nE
   subst this
   cases h
   exact ⟨by simp[LS.size],.inr fun rest=>by simp only[hZ,List.cons_append,V.nth,Mb,j4,iI,Cu]⟩
def LS.below (n:Nat) (x:V):Prop:= ∀id∈dY x,id<n
def Mc:V→Prop
 | .agg _=>False
 | .aX _=>False
 | .fn .. =>False
 | .pref .. =>False
 | _=>True
theorem sZ {c:Bool} {a d:List V} (h:(bif c then some a else none)=some d):c=true:=by
 cases c with
 | true=>rfl
 | false=>cases h
theorem V3 {l:LS} {x:V} {ds:List V} {n:Nat} (h:dX l x=some ds) (hl:l≠ .pz) (au:l.ok n=true):Mc x∧LS.below n x:=by
 cases l<;>cases x<;>simp only[dX] at h<;>first|(cases h;done)|(exact absurd rfl hl)|skip
 all_goals refine ⟨trivial,fun id ab=> ?_⟩
 all_goals simp only[dY,dW,List.not_mem_nil] at ab
 all_goals subst ab
 all_goals simp only[LS.ok,jw] at au
 all_goals
  have hb:=sZ h
  simp only[aI,aP] at hb
  omega
theorem ao.V4 {v:Value} {x:V} (h:ao P w I β hp v x) (hx:Mc x) (hs: ∀id∈dY x,hp' id=hp id∧β' id=β id):ao P w I β' hp' v x:=by
 have one: ∀{id},id∈dY x→hp' id=hp id∧β' id=β id:=fun h=>hs _ h
 cases h with
 | undef=>exact .undef
 | int=>exact .int
 | bool=>exact .bool
 | str h=>exact .str h
 | list h=>exact .list h
 | nilS=>exact .nilS
 | agg=>exact hx.elim
 | aX=>exact hx.elim
 | c6=>exact .c6
 | fn=>exact hx.elim
 | pref=>exact hx.elim
 | dP h=>exact .dP ((one (by simp[dY])).1.trans h)
 | fE h=>exact .fE ((one (by simp[dY])).1.trans h)
 | jF h=>exact .jF ((one (by simp[dY])).1.trans h)
 | dm h hb=>exact .dm ((one (by simp[dY])).1.trans h) ((one (by simp[dY])).2.trans hb)
 | whole h hb a b c=>exact .whole ((one (by simp[dY])).1.trans h) ((one (by simp[dY])).2.trans hb) a b c
 | dZ h hb a b c=>exact .dZ ((one (by simp[dY])).1.trans h) ((one (by simp[dY])).2.trans hb) a b c
 | fl h hb=>exact .fl ((one (by simp[dY])).1.trans h) ((one (by simp[dY])).2.trans hb)
 | sub h hb a b c=>exact .sub ((one (by simp[dY])).1.trans h) ((one (by simp[dY])).2.trans hb) a b c
 | ptr h hd hb=>exact .ptr ((one (by simp[dY])).1.trans h) hd ((one (by simp[dY])).2.trans hb)
 | je h p5=>exact .je ((one (by simp[dY])).1.trans h) p5
 | jf h p5=>exact .jf ((one (by simp[dY])).1.trans h) p5
 | row h hb a b c d=>exact .row ((one (by simp[dY])).1.trans h) ((one (by simp[dY])).2.trans hb) a b c d
 | cm h hb a b c d e=>exact .cm ((one (by simp[dY])).1.trans h) ((one (by simp[dY])).2.trans hb) a b c d e
 | dc=>exact .dc
 | gS h=>exact .gS ((one (by simp[dY])).1.trans h)
 | cb h hb=>exact .cb ((one (by simp[dY])).1.trans h) ((one (by simp[dY])).2.trans hb)
theorem mM {a b:List V} {n:Nat} (h:a.length=n):(a++b).drop n=b:=by subst h;simp
def yB (n:Nat) (β:Nat→Option Nat) (hp:Nat→Option an) (β':Nat→Option Nat) (hp':Nat→Option an):Prop:= ∀id,id<n→hp' id=hp id∧β' id=β id
theorem Md {l:LS} {x:V} {ds:List V} {n:Nat} {v:Value} (h:dX l x=some ds) (au:l.ok n=true) (iw:yB n β hp β' hp') (hv:ao P w I β hp v x) (rest:List V):
  ao P w I β' hp' v (hZ l (ds++rest)):=by
 rcases (Cv h).2 with e|e
 ·subst e;exact .undef
 ·rw[e rest]
  by_cases hu:l= .pz
  ·subst hu
   have:x= .undef:=(e rest).symm
   subst this
   exact .undef
  ·obtain ⟨h1,U⟩:=V3 h hu au
   exact hv.V4 h1 fun id ab=>iw id (U id ab)
theorem yC {n:Nat} (iw:yB n β hp β' hp'): ∀{ls:List LS} {xs:List V} {ds:List V},oB ls xs=some ds→ls.all (LS.ok n)=true→
  ds.length=jC ls∧(∀rest,(gM ls (ds++rest)).length=xs.length)∧
  ∀(rest:List V) (j:Nat) (v:Value) (y:V),(∀x,xs[j]? =some x→ao P w I β hp v x)→(gM ls (ds++rest))[j]? =some y→ao P w I β' hp' v y
 | [],[],ds,h,_=>by cases h;exact ⟨rfl,fun _=>rfl,fun rest j v y _ hy=>by simp[gM] at hy⟩
 | [],_::_,ds,h,_=>by cases h
 | _::_,[],ds,h,_=>by cases h
 | l::ls,x::xs,ds,h,au=>by
  simp only[oB] at h
  obtain ⟨a,h1,h⟩:=bind_some h
  obtain ⟨b,U,h⟩:=bind_some h
  cases h
  simp only[List.all_cons,aI] at au
  obtain ⟨i1,i2,i3⟩:=yC iw U au.2
  have bW:=(Cv h1).1
  have hd: ∀rest,(a++b++rest).drop l.size=b++rest:=fun rest=>by rw[ca];exact mM bW
  refine ⟨by simp only[b8,jC];omega,fun rest=>by simp only[gM,List.length_cons,hd,i2],fun rest j v y hv hy=> ?_⟩
  simp only[gM,hd] at hy
  cases j with
  | zero=>
   simp at hy
   subst hy
   exact Md h1 au.1 iw (hv x rfl) _
  | succ j=>exact i3 rest j v y (fun x hx=>hv x (by simpa using hx)) (by simpa using hy)
theorem GQ: ∀{ls:List LS} {xs:List V} {ds:List V},oB ls xs=some ds→ls.all LS.plain=true→ds.length=jC ls∧∀rest,gM ls (ds++rest)=xs
 | [],[],ds,h,_=>by cases h;exact ⟨rfl,fun _=>rfl⟩
 | [],_::_,ds,h,_=>by cases h
 | _::_,[],ds,h,_=>by cases h
 | l::ls,x::xs,ds,h,au=>by
  simp only[oB] at h
  obtain ⟨a,h1,h⟩:=bind_some h
  obtain ⟨b,U,h⟩:=bind_some h
  cases h
  simp only[List.all_cons,aI] at au
  obtain ⟨i1,i2⟩:=GQ U au.2
  obtain ⟨bW,hm⟩:=Cv h1
  refine ⟨by simp only[b8,jC];omega,fun rest=> ?_⟩
  simp only[gM]
  rw[show (a++b++rest).drop l.size=b++rest by rw[ca];exact mM bW,i2,ca]
  rcases hm with e|e
  ·subst e;cases au.1
  ·rw[e]
theorem GR {n:Nat} (iw:yB n β hp β' hp') {s:VS} {x:V} {ds:List V} (h:oC s x=some ds) (au:s.ok n=true):
  ds.length=s.size∧∀(rest:List V) (v:Value),ao P w I β hp v x→ao P w I β' hp' v (j8 s (ds++rest)):=by
 cases s with
 | one l=>exact ⟨(Cv h).1,fun rest v hv=>Md h au iw hv rest⟩
 | agg ls=>
  cases x<;>simp only[oC] at h<;>first|(cases h;done)|skip
  rename_i xs
  obtain ⟨i1,i2,i3⟩:=yC (P:=P) (w:=w) (I:=I) iw h au
  refine ⟨i1,fun rest v hv=> ?_⟩
  obtain ⟨cs,rfl,e1,e2⟩:=hv.kf
  exact .agg (by rw[i2];exact e1) fun j v y hj hy=>i3 rest j v y (fun x hx=>e2 j v x hj hx) hy
 | aX ls=>
  cases x<;>simp only[oC] at h<;>first|(cases h;done)|skip
  rename_i xs
  obtain ⟨i1,i2,i3⟩:=yC (P:=P) (w:=w) (I:=I) iw h au
  refine ⟨i1,fun rest v hv=> ?_⟩
  obtain ⟨cs,rfl,e1,e2⟩:=hv.sH
  exact .aX (by rw[i2];exact e1) fun j v y hj hy=>i3 rest j v y (fun x hx=>e2 j v x hj hx) hy
 | fn f a b=>
  cases x<;>simp only[oC] at h<;>first|(cases h;done)|skip
  rename_i f' xs ys
  cases hb:Nat.beq f f' with
  | false=>rw[hb] at h;cases h
  | true=>
   rw[hb] at h
   rw[aP] at hb
   subst hb
   simp only[cond_true] at h
   obtain ⟨p,h1,h⟩:=bind_some h
   obtain ⟨q,U,h⟩:=bind_some h
   cases h
   simp only[VS.ok,aI] at au
   obtain ⟨i1,i2,i3⟩:=yC (P:=P) (w:=w) (I:=I) iw h1 au.1
   obtain ⟨j1,j2,j3⟩:=yC (P:=P) (w:=w) (I:=I) iw U au.2
   refine ⟨by simp only[b8,VS.size];omega,fun rest v hv=> ?_⟩
   cases hv with
   | fn a1 a2 b1 b2=>
    simp only[j8]
    rw[show (p++q++rest).drop (jC a)=q++rest by rw[ca];exact mM i1,ca]
    exact .fn (by rw[i2];exact a1) (fun j v y hj hy=>i3 _ j v y (fun x hx=>a2 j v x hj hx) hy) (by rw[j2];exact b1) (fun j v y hj hy=>j3 _ j v y (fun x hx=>b2 j v x hj hx) hy)
 | pref ts ls=>
  cases x<;>simp only[oC] at h<;>first|(cases h;done)|skip
  rename_i uI xs
  cases hb:dX.nu ts uI with
  | false=>rw[hb] at h;cases h
  | true=>
   rw[hb] at h
   have:=vj hb
   subst this
   simp only[cond_true] at h
   refine ⟨?_,fun rest v hv=> ?_⟩
   ·exact (GQ h au).1
   ·simp only[j8]
    rw[(GQ h au).2]
    cases hv with
    | pref hl hI hc=>exact .pref hl hI hc
theorem yD {n:Nat} (iw:yB n β hp β' hp'): ∀{ls:List VS} {xs:List V} {ds:List V},qE ls xs=some ds→ls.all (VS.ok n)=true→
  ds.length=qU ls∧(∀rest,(eY ls (ds++rest)).length=xs.length)∧
  ∀(rest:List V) (j:Nat) (v:Value) (y:V),(∀x,xs[j]? =some x→ao P w I β hp v x)→(eY ls (ds++rest))[j]? =some y→ao P w I β' hp' v y
 | [],[],ds,h,_=>by cases h;exact ⟨rfl,fun _=>rfl,fun rest j v y _ hy=>by simp[eY] at hy⟩
 | [],_::_,ds,h,_=>by cases h
 | _::_,[],ds,h,_=>by cases h
 | l::ls,x::xs,ds,h,au=>by
  simp only[qE] at h
  obtain ⟨a,h1,h⟩:=bind_some h
  obtain ⟨b,U,h⟩:=bind_some h
  cases h
  simp only[List.all_cons,aI] at au
  obtain ⟨i1,i2,i3⟩:=yD iw U au.2
  obtain ⟨bW,ve⟩:=GR (P:=P) (w:=w) (I:=I) iw h1 au.1
  have hd: ∀rest,(a++b++rest).drop l.size=b++rest:=fun rest=>by rw[ca];exact mM bW
  refine ⟨by simp only[b8,qU];omega,fun rest=>by simp only[eY,List.length_cons,hd,i2],fun rest j v y hv hy=> ?_⟩
  simp only[eY,hd] at hy
  cases j with
  | zero=>
   simp at hy
   subst hy
   exact ve _ v (hv x rfl)
  | succ j=>exact i3 rest j v y (fun x hx=>hv x (by simpa using hx)) (by simpa using hy)
end
section
variable {P:Program} {A:ct} {w w':World} {I I' I2:Nat→Prop} {μ β β':Nat→Option Nat} {hp hp' hp0:Nat→Option an} {C:ag} {B:Nat} {M:Nat→Prop} {w0:Start}
theorem gB: ∀{l:List an} {j:Nat},jc l j=l[j]?
 | [],j=>by simp[jc]
 | b::l,0=>rfl
 | b::l,j+1=>by simp only[jc,gB,List.getElem?_cons_succ]
theorem GS {sl:Nat→V} {k:Nat} {y:V}: ∀{l:List (Nat × VS)} {ds:List V},xH sl l=some ds→(∀p∈l,∀d,oC p.2 (sl p.1)=some d→d.length=p.2.size)→
  ds.length=nw l∧∀rest,dk (eN l (ds++rest)) k=some y→∃s d fJ,(k,s)∈l∧oC s (sl k)=some d∧y=j8 s (d++fJ)
 | [],ds,h,_=>by cases h;exact ⟨rfl,fun rest h=>by cases h⟩
 | (q,s)::l,ds,h,hz=>by
  simp only[xH] at h
  obtain ⟨a,h1,h⟩:=bind_some h
  obtain ⟨b,U,h⟩:=bind_some h
  cases h
  obtain ⟨i1,i2⟩:=GS (k:=k) (y:=y) U fun p hp=>hz p (kJ _ hp)
  have bW:=hz (q,s) (qL ..) a h1
  refine ⟨by simp only[b8,nw];simp only at bW;omega,fun rest hl=> ?_⟩
  simp only[eN,dk] at hl
  rw[show (a++b++rest).drop s.size=b++rest by rw[ca];exact mM bW] at hl
  cases hb:Nat.beq k q with
  | true=>
   rw[hb] at hl
   rw[aP] at hb
   subst hb
   cases hl
   exact ⟨s,a,b++rest,qL ..,h1,by rw[ca]⟩
  | false=>
   rw[hb] at hl
   obtain ⟨s',d,fJ,m1,m2,m3⟩:=i2 rest hl
   exact ⟨s',d,fJ,kJ _ m1,m2,m3⟩
theorem GU {α:Type} {c:Bool} {x:Option α} {a:α} (h:(bif c then x else none)=some a):c=true∧x=some a:=by
 cases c with
 | true=>exact ⟨rfl,h⟩
 | false=>cases h
theorem V5 {n:Nat} {b:BS} {o:Option an} {ds:List V} (h:j7 b o=some ds) (au:b.ok n=true):ds.length=b.size:=by
 cases b with
 | dead=>cases o<;>(cases h;rfl)
 | var T0 ls=>
  cases o with
  | none=>cases h
  | some blk=>
   cases blk<;>simp only[j7] at h<;>first|(cases h;done)|skip
   exact (yD (P:=default) (w:=default) (I:=fun _=>False) (β:=fun _=>none) (hp:=fun _=>none) (fun _ _=>⟨rfl,rfl⟩) (GU h).2 au).1
 | arr e fz=>
  cases o with
  | none=>cases h
  | some blk=>
   cases blk<;>simp only[j7] at h<;>first|(cases h;done)|skip
   rw[sZ h] at h
   cases h
   rfl
 | nest e=>
  cases o with
  | none=>cases h
  | some blk=>
   cases blk<;>simp only[j7] at h<;>first|(cases h;done)|skip
   rw[sZ h] at h
   cases h
   rfl
 | map t=>
  cases o with
  | none=>cases h
  | some blk=>
   cases blk<;>simp only[j7] at h<;>first|(cases h;done)|skip
   rw[sZ h] at h
   cases h
   rfl
theorem Me {n:Nat}: ∀{l:List BS} {j:Nat} {ds:List V},xI hp j l=some ds→l.all (BS.ok n)=true→
  (∀rest,(ej l (ds++rest)).length=l.length)∧∀(rest:List V) (i:Nat) (blk:an),(ej l (ds++rest))[i]? =some blk→∃b d fJ,l[i]? =some b∧b.ok n=true∧j7 b (hp (j+i))=some d∧blk=fi b (d++fJ)
 | [],j,ds,h,_=>by cases h;exact ⟨fun _=>rfl,fun rest i blk hb=>by simp[ej] at hb⟩
 | b::l,j,ds,h,au=>by
  simp only[xI] at h
  obtain ⟨a,h1,h⟩:=bind_some h
  obtain ⟨c,U,h⟩:=bind_some h
  cases h
  simp only[List.all_cons,aI] at au
  obtain ⟨i1,i2⟩:=Me U au.2
  have bW:=V5 h1 au.1
  have hd: ∀rest,(a++c++rest).drop b.size=c++rest:=fun rest=>by rw[ca];exact mM bW
  refine ⟨fun rest=>by simp only[ej,List.length_cons,hd,i1],fun rest i blk hb=> ?_⟩
  simp only[ej,hd] at hb
  cases i with
  | zero=>
   simp at hb
   exact ⟨b,a,c++rest,rfl,au.1,h1,by rw[←hb]⟩
  | succ i=>
   obtain ⟨b',d,fJ,m1,m2,m3,m4⟩:=i2 rest i blk (by simpa using hb)
   exact ⟨b',d,fJ,by simpa using m1,m2,by rw[show j+(i+1)=j+1+i by omega];exact m3,m4⟩
theorem V6 {n:Nat} {b:BS} {blk:an} {ds rest:List V} (h:j7 b (some blk)=some ds) (au:b.ok n=true):
  blk.le (fi b (ds++rest))∧(fi b (ds++rest)= .dead∨fi b (ds++rest)=blk∨∃T ls cs,b= .var T ls∧blk= .var T cs∧qE ls cs=some ds∧fi b (ds++rest)= .var T (eY ls (ds++rest))):=by
 cases b with
 | dead=>exact ⟨by cases blk<;>trivial,.inl rfl⟩
 | var T0 ls=>
  cases blk<;>simp only[j7] at h<;>first|(cases h;done)|skip
  obtain ⟨hT,h0⟩:=GU h
  clear h
  rw[aP] at hT
  subst hT
  exact ⟨rfl,.inr (.inr ⟨_,_,_,rfl,rfl,h0,rfl⟩)⟩
 | arr e fz=>
  cases blk<;>simp only[j7] at h<;>first|(cases h;done)|skip
  rename_i e' es my
  have hb:=sZ h
  simp only[aI,aP,beq_iff_eq] at hb
  obtain ⟨rfl,rfl⟩:=hb
  simp only[ja,beq_self_eq_true,Bool.and_self,cond_true,dD] at h
  subst h
  exact ⟨⟨rfl,rfl⟩,.inr (.inl rfl)⟩
 | nest e=>
  cases blk<;>simp only[j7] at h<;>first|(cases h;done)|skip
  rename_i e' es aq
  have hb:=sZ h
  simp only[aI,aP] at hb
  obtain ⟨rfl,hv⟩:=hb
  have:=vj hv
  subst this
  simp only[ja,ml] at h
  cases h
  exact ⟨⟨rfl,rfl,rfl,fun _=>b6 _⟩,.inr (.inl rfl)⟩
 | map t=>
  cases blk<;>simp only[j7] at h<;>first|(cases h;done)|skip
  rename_i t' es
  have hb:=sZ h
  rw[aP] at hb
  subst hb
  simp only[ja,cond_true,dD] at h
  subst h
  exact ⟨rfl,.inr (.inl rfl)⟩
theorem Mf {m:Nat} {S:Shape} {st:St} {ds:List V} (h:jd m S st=some ds):
  S.ok=true∧m≤S.a8.length∧∃a b,xH st.sl S.bI=some a∧xI st.hp 0 S.a8=some b∧ds=a++b:=by
 unfold jd at h
 cases hc:(S.ok&&Nat.ble m S.a8.length) with
 | false=>rw[hc] at h;cases h
 | true=>
  rw[hc] at h
  simp only[cond_true] at h
  simp only[aI,dC] at hc
  obtain ⟨a,h1,h⟩:=bind_some h
  obtain ⟨b,U,h⟩:=bind_some h
  cases h
  exact ⟨hc.1,hc.2,a,b,h1,U,rfl⟩
theorem reshape {m:Nat} {S:Shape} {st:St} {ds:List V} (h:jd m S st=some ds) (hS:aE P w I β st.hp B M w0):
  aE P w I β (bd S ds).hp B M w0∧(∀(k:Nat) (v:Value),ao P w I β st.hp v (st.sl k)→ao P w I β (bd S ds).hp v ((bd S ds).sl k))∧
  (∀(μ:Nat→Option Nat) (hp0:Nat→Option an),(∀id blk,hp0 id=some blk→id<m)→Le P w0.w w0.I μ hp0 w I β st.hp→Le P w0.w w0.I μ hp0 w I β (bd S ds).hp)∧
  ∀j blk',(bd S ds).hp j=some blk'→blk'≠ .dead→∃blk,st.hp j=some blk∧blk.le blk'∧∀o b,bn P w o blk' b→bn P w o blk b:=by
 obtain ⟨au,hm,a,b,h1,U,rfl⟩:=Mf h
 unfold Shape.ok at au
 rw[aI] at au
 obtain ⟨Mg,Gx⟩:=au
 have aR: ∀p∈S.bI,∀d,oC p.2 (st.sl p.1)=some d→d.length=p.2.size:=fun p hp d hd=>
  (GR (P:=P) (w:=w) (I:=I) (β:=β) (hp:=st.hp) (fun _ _=>⟨rfl,rfl⟩) hd (eM.1 Mg p hp)).1
 have bW:a.length=nw S.bI:=(GS (k:=0) (y:= .undef) h1 aR).1
 have Cn:(bd S (a++b)).hp=jc (ej S.a8 (b++[])):=by
  simp only[bd,mk,dz]
  rw[mM bW]
 obtain ⟨bl,bg⟩:=Me U Gx
 have get: ∀j blk',(bd S (a++b)).hp j=some blk'→j<S.a8.length∧∃bs d fJ,bs.ok S.a8.length=true∧j7 bs (st.hp j)=some d∧blk'=fi bs (d++fJ):=by
  intro j blk' hj
  rw[Cn,gB] at hj
  obtain ⟨bs,d,fJ,m1,m2,m3,m4⟩:=bg [] j blk' hj
  rw[gi] at m3
  exact ⟨(bj.1 m1).1,bs,d,fJ,m2,m3,m4⟩
 have have': ∀j,j<S.a8.length→∃blk',(bd S (a++b)).hp j=some blk':=by
  intro j hj
  rw[Cn,gB]
  exact ⟨_,bE (by rw[bl];exact hj)⟩
 generalize gr:(bd S (a++b)).hp=s0 at*
 let bh:Nat→Option an:=fun id=>if id<S.a8.length then s0 id else st.hp id
 have back: ∀j blk',s0 j=some blk'→blk'≠ .dead→∃blk,st.hp j=some blk∧blk.le blk'∧(blk'=blk∨∃T ls cs d fJ,ls.all (VS.ok S.a8.length)=true∧blk= .var T cs∧qE ls cs=some d∧blk'= .var T (eY ls (d++fJ))):=by
  intro j blk' hj hd
  obtain ⟨bV,bs,d,fJ,m1,m2,m3⟩:=get j blk' hj
  cases bL:st.hp j with
  | none=>
   rw[bL] at m2
   cases bs<;>simp only[j7] at m2<;>first|(cases m2;done)|skip
   exact absurd m3 hd
  | some blk=>
   rw[bL] at m2
   obtain ⟨n1,n2⟩:=V6 (rest:=fJ) m2 m1
   rw[←m3] at n1 n2
   refine ⟨blk,rfl,n1,?_⟩
   rcases n2 with e|e|⟨T,ls,cs,e1,e2,e3,e4⟩
   ·exact absurd e hd
   ·exact .inl e
   ·subst e1
    exact .inr ⟨T,ls,cs,d,fJ,m1,e2,e3,e4⟩
 have V7: ∀j blk,st.hp j=some blk→j<S.a8.length→∃blk',s0 j=some blk'∧blk.le blk':=by
  intro j blk hj bV
  obtain ⟨blk',az⟩:=have' j bV
  refine ⟨blk',az,?_⟩
  by_cases hd:blk'= .dead
  ·subst hd;cases blk<;>trivial
  ·obtain ⟨bO,e1,e2,_⟩:=back j blk' az hd
   rw[hj] at e1;cases e1
   exact e2
 have V8: ∀j e es aq e' aJ vers',st.hp j=some (.nest e es aq)→s0 j=some (.nest e' aJ vers')→e'=e∧aJ=es∧vers'=aq:=by
  intro j e es aq e' aJ vers' hj fS
  obtain ⟨blk,e1,_,e3⟩:=back j _ fS (by simp)
  rw[hj] at e1;cases e1
  rcases e3 with e3|⟨_,_,_,_,_,_,e3,_⟩
  ·cases e3;exact ⟨rfl,rfl,rfl⟩
  ·cases e3
 have hle:Le P w I β st.hp w I β bh:=by
  refine ⟨fun _ h=>h,fun _ _=>rfl,fun id blk ab=> ?_,fun _ _ _ _ _ _ _ _=>rfl,Le.ra (fun _ _ _ _ _ _=>rfl) fun id e es aq e' aJ vers' ab bx=> ?_⟩
  ·by_cases hl:id<S.a8.length
   ·obtain ⟨blk',e1,e2⟩:=V7 id blk ab hl
    exact ⟨blk',by simp only[bh,aj hl];exact e1,e2,fun _=>rfl⟩
   ·exact ⟨blk,by simp only[bh,ai hl];exact ab,an.le_refl _,fun _=>rfl⟩
  ·by_cases hl:id<S.a8.length
   ·simp only[bh,aj hl] at bx
    exact V8 _ _ _ _ _ _ _ ab bx
   ·simp only[bh,ai hl] at bx
    rw[ab] at bx;cases bx
    exact ⟨rfl,rfl,rfl⟩
 have iw:yB S.a8.length β bh β s0:=fun id ab=>⟨by simp only[bh,aj ab],rfl⟩
 have u6: ∀j blk' blk o b,s0 j=some blk'→st.hp j=some blk→bn P w o blk' b→bn P w o blk b:=by
  intro j blk' blk o b fS hj ho
  obtain ⟨bO,e1,_,e3⟩:=back j blk' fS ho.alive
  rw[hj] at e1;cases e1
  rcases e3 with e3|⟨T,ls,cs,d,fJ,_,e3,_,e5⟩
  ·subst e3;exact ho
  ·subst e3;subst e5
   exact .root (by simp) (ho.flat (by simp))
 refine ⟨⟨⟨fun j blk' hj=> ?_,fun j1 j2 b1 b2 b' e1 e2 o1 o2=> ?_,fun j blk b' hj ho=> ?_,hS.h.jg⟩,hS.bU,hS.size,hS.new,hS.io⟩,fun k v hv=> ?_,fun μ hp0 aO hE=> ?_,fun j blk' hj hd=> ?_⟩
 ·by_cases hd:blk'= .dead
  ·subst hd;exact .dead
  ·obtain ⟨blk,e1,_,e3⟩:=back j blk' hj hd
   have hr:=hS.h.rel j blk e1
   generalize β j=o at hr
   rcases e3 with e3|⟨T0,ls,cs,d,fJ,q1,e3,e4,e5⟩
   ·subst e3
    cases hr with
    | @var xs b' Ca T hb hh hs cC hx fG=>
     obtain ⟨bV,bs,d,fJ,m1,m2,m3⟩:=get j _ hj
     rw[e1] at m2
     cases bs<;>simp only[j7] at m2<;>first|(cases m2;done)|skip
     ·rename_i T0 ls
      simp only[fi] at m3
      obtain ⟨hT,m2⟩:=GU m2
      obtain ⟨i1,i2,i3⟩:=yD (P:=P) (w:=w) (I:=I) iw m2 m1
      injection m3 with m4 m3
      rw[m3]
      exact .var hb hh (by rw[i2];exact hs) cC (fun i v y hi hy=>i3 fJ i v y (fun x cf=>(hx i v x hi cf).mono hle) hy) fG
     ·simp only[fi] at m3
      cases m3
    | dp hb=>exact .dp hb
    | arr a1 a2 a3 a4 a5 a6 a7=>exact .arr a1 a2 a3 a4 a5 a6 a7
    | dead=>exact absurd rfl hd
    | nest a1 a2 a3=>exact .nest a1 a2 a3
    | map a1 a2 a3 a4 a5 a6 a7=>exact .map a1 a2 a3 a4 a5 a6 a7
   ·subst e3
    subst e5
    cases hr with
    | @var xs b' Ca T hb hh hs cC hx fG=>
     obtain ⟨i1,i2,i3⟩:=yD (P:=P) (w:=w) (I:=I) iw e4 q1
     exact .var hb hh (by rw[i2];exact hs) cC (fun i v y hi hy=>i3 fJ i v y (fun x cf=>(hx i v x hi cf).mono hle) hy) fG
 ·obtain ⟨c1,x1,_,_⟩:=back j1 b1 e1 o1.alive
  obtain ⟨c2,x2,_,_⟩:=back j2 b2 e2 o2.alive
  exact hS.h.inj j1 j2 c1 c2 b' x1 x2 (u6 _ _ _ _ _ e1 x1 o1) (u6 _ _ _ _ _ e2 x2 o2)
 ·obtain ⟨c1,x1,_,_⟩:=back j blk hj ho.alive
  exact hS.h.own j c1 b' x1 (u6 _ _ _ _ _ hj x1 ho)
 ·change ao P w I β s0 v (iL (eN S.bI (a++b)) k)
  unfold iL
  cases GV:dk (eN S.bI (a++b)) k with
  | none=>exact .undef
  | some y=>
   obtain ⟨s,d,fJ,n1,n2,n3⟩:=(GS h1 aR).2 b GV
   simp only[Option.getD_some,n3]
   exact (GR (P:=P) (w:=w) (I:=I) iw n2 (eM.1 Mg _ n1)).2 fJ v (hv.mono hle)
 ·have h3:=hE.trans hle
  refine ⟨h3.cV,h3.bU,fun id blk ab=> ?_,fun id blk blk' b' ab bx hd hb=> ?_,fun id e es aq e' aJ vers' b2 q i c t v e1 l ab bx=> ?_⟩
  ·have hl:=aO id blk ab
   obtain ⟨blk',k1,k2,k3⟩:=h3.blk id blk ab
   simp only[bh,aj (show id<S.a8.length by omega)] at k1
   exact ⟨blk',k1,k2,k3⟩
  ·have hl:=aO id blk ab
   exact h3.size id blk blk' b' ab (by simp only[bh,aj (show id<S.a8.length by omega)];exact bx) hd hb
  ·have hl:=aO id _ ab
   exact h3.row id e es aq e' aJ vers' b2 q i c t v e1 l ab (by simp only[bh,aj (show id<S.a8.length by omega)];exact bx)
 ·obtain ⟨blk,e1,e2,_⟩:=back j blk' hj hd
  exact ⟨blk,e1,e2,fun o b' ho=>u6 _ _ _ _ _ hj e1 ho⟩
end
section
variable {P:Program} {A:ct} {w w':World} {I I' I2:Nat→Prop} {μ β β':Nat→Option Nat} {hp hp' hp0:Nat→Option an} {C:ag} {B:Nat} {M:Nat→Prop} {w0:Start}
inductive dH (P:Program) (w:World) (β:Nat→Option Nat) (hp:Nat→Option an):Place→Option Nat→an→Prop
 | var {id:Nat} {T:TypeId} {cs GW:List V}:hp id=some (.var T cs)→dH P w β hp (.blk id) (β id) (.var T GW)
 | arr {id:Nat} {e:TypeId} {es:List V}:hp id=some (.arr e es false)→dH P w β hp (.blk id) (β id) (.arr e es false)
 | nest {id:Nat} {e:TypeId} {es:List V} {aq:List Nat}:hp id=some (.nest e es aq)→dH P w β hp (.blk id) (β id) (.nest e es [0,0,0])
 | row {id ver b b':Nat} {path:Path} {e0 e':TypeId} {es l:List V} {aq:List Nat}:hp id=some (.nest e0 es aq)→β id=some b→At P w b e0 es path b' e' l→xG P e'=true→
   0<path.length→path.length≤aq.length→bu aq (path.length-1)=ver→0<l.length→dH P w β hp (.row id ver path) (some b') (.arr e' l false)
 | map {id:Nat} {t:TypeId} {es:List V}:hp id=some (.map t es)→dH P w β hp (.blk id) (β id) (.map t es)
def yE (P:Program) (w:World) (β:Nat→Option Nat) (hp:Nat→Option an) (ρ:List Place) (μ:Nat→Option Nat) (hp0:Nat→Option an):Prop:=
 ∀j p,dO ρ j=some p→∃blk,hp0 j=some blk∧dH P w β hp p (μ j) blk
theorem nM: ∀{l m:List Place} {j:Nat} {p:Place},dO l j=some p→dO (l++m) j=some p
 | [],m,j,p,h=>by cases h
 | a::l,m,0,p,h=>h
 | a::l,m,j+1,p,h=>nM (l:=l) h
theorem k9: ∀{l:List Place} {j:Nat},dO l j=l[j]?
 | [],j=>by simp[dO]
 | a::l,0=>rfl
 | a::l,j+1=>by simp only[dO,k9,List.getElem?_cons_succ]
structure Ext (P:Program) (w:World) (I:Nat→Prop) (β:Nat→Option Nat) (hp:Nat→Option an) (h h':Hand) (d:List V) (u:List (Nat × an)):Prop where
 ds:h'.ds=h.ds++d
 upd:h'.upd=h.upd++u
 Cw: ∀q∈u,xZ hp q
 pl: ∃m,h'.pl=h.pl++m
 nodup:(h.pl.map Place.id).Nodup→(h'.pl.map Place.id).Nodup
theorem Ext.refl (h:Hand):Ext P w I β hp h h [] []:=⟨by simp,by simp,by simp,⟨[],by simp⟩,id⟩
theorem Ext.trans {h1 U h3:Hand} {d1 d2:List V} {u1 u2:List (Nat × an)} (a:Ext P w I β hp h1 U d1 u1) (b:Ext P w I β hp U h3 d2 u2):Ext P w I β hp h1 h3 (d1++d2) (u1++u2):=by
 obtain ⟨m1,e1⟩:=a.pl
 obtain ⟨m2,e2⟩:=b.pl
 exact ⟨by rw[b.ds,a.ds,ca],by rw[b.upd,a.upd,ca],fun q hq=>(eh.1 hq).elim (a.Cw q) (b.Cw q),⟨m1++m2,by rw[e2,e1,ca]⟩,fun h=>b.nodup (a.nodup h)⟩
theorem Ext.look {h h':Hand} {d:List V} {u:List (Nat × an)} (a:Ext P w I β hp h h' d u) {j:Nat} {p:Place} (hj:dO h.pl j=some p):dO h'.pl j=some p:=by
 obtain ⟨m,e⟩:=a.pl
 rw[e]
 exact nM hj
theorem Ext.leaf (h:Hand) (x:V):Ext P w I β hp h {h with ds:=h.ds++[x]} [x] []:=⟨rfl,by simp,by simp,⟨[],by simp⟩,id⟩
theorem V9 {α:Type} {ρ:List Place} {j:Nat} {p:Place} {k:List Place→Rd α} {r:α} {rd:List Nat} (h:(unify ρ j p k).run C hp=some (r,rd)) (hb: ∃id,p= .blk id∨∃ver path,p= .row id ver path):
  ∃jl,(k jl).run C hp=some (r,rd)∧(∃m,jl=ρ++m)∧dO jl j=some p∧((ρ.map Place.id).Nodup→(jl.map Place.id).Nodup):=by
 unfold unify at h
 cases hc:Nat.blt j ρ.length with
 | true=>
  rw[hc] at h
  obtain ⟨h1,U⟩:=aF h
  refine ⟨ρ,U,⟨[],by simp⟩,?_,id⟩
  unfold KK at h1
  split at h1
  ·rename_i a b he
   rw[aP] at h1
   subst h1
   exact he
  ·cases h1
 | false=>
  rw[hc] at h
  obtain ⟨h1,U⟩:=aF h
  simp only[aI,aP,mh] at h1
  obtain ⟨rfl,h3⟩:=h1
  refine ⟨ρ++[p],U,⟨[p],rfl⟩,?_,fun hn=> ?_⟩
  ·rw[k9];simp
  ·rw[fP,Bf]
   refine ⟨hn,by simp,fun a ha b hb=> ?_⟩
   simp only[cG,gl,dW] at hb
   subst hb
   intro e
   subst e
   rw[u3 ha] at h3
   cases h3
theorem s4 {α:Type} {h:Hand} {j:Nat} {p:Place} {k:List Place→Rd α} {r:α} {rd:List Nat} (hr:(unify h.pl j p k).run C hp=some (r,rd)) (ds:List V):
  ∃jl,(k jl).run C hp=some (r,rd)∧dO jl j=some p∧Ext P w I β hp h {h with pl:=jl,ds:=h.ds++ds} ds []:=by
 obtain ⟨jl,a,b,c,d⟩:=V9 hr (by cases p with|blk id=>exact ⟨id,.inl rfl⟩|row id ver path=>exact ⟨id,.inr ⟨ver,path,rfl⟩⟩)
 exact ⟨jl,a,c,⟨rfl,by simp,by simp,b,d⟩⟩
theorem Wa {o:Option Nat} {blk:an} {e:TypeId} {id j:Nat} {v:Value} (hv:ao P w I β hp v (.whole e id)) (hl:dH P w β hp (.blk id) o blk) (hj:hp0 j=some blk) (jm:μ j=o):ao P w I' μ hp0 v (.whole e j):=by
 cases hl with
 | var h=>
  cases hv with
  | dP U=>rw[h] at U;cases U
  | dm U=>rw[h] at U;cases U
  | whole U=>rw[h] at U;cases U
  | dZ U=>rw[h] at U;cases U
 | arr h=>
  cases hv with
  | dP U=>rw[h] at U;cases U
  | dm U hb=>rw[h] at U;cases U;exact .dm hj (jm.trans hb)
  | whole U hb a b c=>rw[h] at U;cases U;exact .whole hj (jm.trans hb) a b c
  | dZ U=>rw[h] at U;cases U
 | nest h=>
  cases hv with
  | dP U=>rw[h] at U;cases U
  | dm U=>rw[h] at U;cases U
  | whole U=>rw[h] at U;cases U
  | dZ U hb a b c=>rw[h] at U;cases U;exact .dZ hj (jm.trans hb) a b c
 | map h=>
  cases hv with
  | dP U=>rw[h] at U;cases U
  | dm U=>rw[h] at U;cases U
  | whole U=>rw[h] at U;cases U
  | dZ U=>rw[h] at U;cases U
theorem Wb {o:Option Nat} {blk:an} {t:TypeId} {id j:Nat} {v:Value} (hv:ao P w I β hp v (.cb t id)) (hl:dH P w β hp (.blk id) o blk) (hj:hp0 j=some blk) (jm:μ j=o):ao P w I' μ hp0 v (.cb t j):=by
 cases hv with
 | gS U=>cases hl<;>(rename_i h;rw[h] at U;cases U)
 | cb U hb=>
  cases hl<;>(rename_i h;rw[h] at U;cases U)
  exact .cb hj (jm.trans hb)
theorem Wc {o:Option Nat} {blk:an} {e:TypeId} {id off n j:Nat} {v:Value} (hv:ao P w I β hp v (.sub e id off n)) (hl:dH P w β hp (.blk id) o blk) (hj:hp0 j=some blk) (jm:μ j=o):ao P w I' μ hp0 v (.sub e j off n):=by
 cases hl with
 | var h=>
  cases hv with
  | fE U=>rw[h] at U;cases U
  | fl U=>rw[h] at U;cases U
  | sub U=>rw[h] at U;cases U
 | arr h=>
  cases hv with
  | fE U=>rw[h] at U;cases U
  | fl U hb=>rw[h] at U;cases U;exact .fl hj (jm.trans hb)
  | sub U hb a b c=>rw[h] at U;cases U;exact .sub hj (jm.trans hb) a b c
 | nest h=>
  cases hv with
  | fE U=>rw[h] at U;cases U
  | fl U=>rw[h] at U;cases U
  | sub U=>rw[h] at U;cases U
 | map h=>
  cases hv with
  | fE U=>rw[h] at U;cases U
  | fl U=>rw[h] at U;cases U
  | sub U=>rw[h] at U;cases U
theorem Mh {o:Option Nat} {blk:an} {id i c j:Nat} {v:Value} (hv:ao P w I β hp v (.ptr id i c)) (hl:dH P w β hp (.blk id) o blk) (hj:hp0 j=some blk) (jm:μ j=o):ao P w I' μ hp0 v (.ptr j i c):=by
 cases hl with
 | @var _ T0 cs GW h=>
  obtain ⟨b,hb,rfl⟩:=hv.gv h (by simp)
  exact ao.ptr (blk:= .var T0 GW) hj (by simp) (jm.trans hb)
 | @arr _ e es h=>
  obtain ⟨b,hb,rfl⟩:=hv.gv h (by simp)
  exact ao.ptr (blk:= .arr e es false) hj (by simp) (jm.trans hb)
 | @nest _ e es aq h=>
  obtain ⟨b,hb,rfl⟩:=hv.gv h (by simp)
  exact ao.ptr (blk:= .nest e es [0,0,0]) hj (by simp) (jm.trans hb)
 | @map _ t es h=>
  obtain ⟨b,hb,rfl⟩:=hv.gv h (by simp)
  exact ao.ptr (blk:= .map t es) hj (by simp) (jm.trans hb)
theorem Wd (cp: ∀id blk,hp id=some blk→dE P w I β hp (β id) blk) {id b i c:Nat} {e0 t:TypeId} {es l:List V} {aq:List Nat} {q:Path} {e:TypeId} {v:Value} (ab:hp id=some (.nest e0 es aq)) (hb:β id=some b)
  (ht:P.underlying t=some (.slice e)) (hc:lD P w b e0 es q i c t v (.list e l)) (hl:0<l.length): ∃b1 cap,v= .slice (some ⟨b1,0,none⟩) l.length cap∧cap*P.cellsOf e=bsize w b1∧l.length≤cap∧cap≤maxLen∧At P w b e0 es (q++[(i,c)]) b1 e l:=by
 obtain ⟨b2,e1,m,Ca,T,f,x,n1,n2,n3,n4,n5,n6⟩:=hc
 have hr:=cp _ _ ab
 cases hr with
 | nest az hr hn=>
  rw[hb] at az;cases az
  have hR:=hr _ _ _ _ n1
  obtain ⟨yc,c1,c2,c3⟩:=hR.cells
  rw[n2] at c1
  cases c1
  have sG:c<P.cellsOf e1:=by rw[←e8 hR.ok];exact (bj.1 n4).1
  obtain ⟨v',d1,d2⟩:=c3 i c x t n3 n4 sG
  rw[n6] at d1
  cases d1
  rw[n5] at d2
  generalize hy:V.list e l=y at d2
  cases d2 with
  | fk a p=>unfold fh at a;rw[ht] at a;cases a
  | emp hu ha=>cases hy;simp at hl
  | row hu jh aR bR nC=>
   cases hy
   exact ⟨_,_,rfl,aR,bR,nC,n1.snoc n2 n3 n4 ht n5 jh n6⟩
theorem We (S:aE P w I β hp B M w0) {o:Option Nat} {blk:an} {e:TypeId} {id ver j:Nat} {path:Path} {v:Value} (hv:ao P w I β hp v (.row e id ver path)) (hl:dH P w β hp (.row id ver path) o blk) (hj:hp0 j=some blk) (jm:μ j=o):ao P w I' μ hp0 v (.whole e j):=by
 cases hl with
 | row h hb ha hf h1 U h3 h4=>
  obtain ⟨b2,q,i,c,t,l2,rfl,im,ht,hc⟩:=hv.KS h h1 U h3
  rw[hb] at im;cases im
  obtain ⟨p1,p2⟩:=FR ha
  have ig:=hc
  obtain ⟨b3,e3,m3,Ca,T,f,x,n1,n2,n3,n4,n5,n6⟩:=ig
  obtain ⟨q1,q2⟩:=BM n1 n3 n4 ht n5
  rw[p1] at q1
  rw[p2] at q2
  cases q1
  cases q2
  obtain ⟨b1,cap,rfl,m1,m2,m4,m5⟩:=Wd S.h.rel h hb ht hc h4
  have:=Wf ha m5
  subst this
  exact .whole hj jm m1 m2 m4
where
 Wf {b b1 b2:Nat} {e e1 e2:TypeId} {es l l2:List V} {q:Path} (h:At P w b e es q b1 e1 l) (U:At P w b e es q b2 e2 l2):b2=b1:=(h.fun U).1
theorem Mi (S:aE P w I β hp B M w0) {α:Type} {l:LS} {x:V} {h:Hand} {k:Hand→Rd α} {r:α} {rd:List Nat} {v:Value} (hr:(BA P l x h k).run C hp=some (r,rd)) (hv:ao P w I β hp v x):
  ∃h' ez d u,(k h').run C hp=some (r,ez)∧Ext P w I β hp h h' d u∧d.length=l.size∧
   ∀(I':Nat→Prop) (μ:Nat→Option Nat) (hp0:Nat→Option an),(∀b,I b→I' b)→(∀q∈u,∀b,rb P w β hp q.1 b→I' b)→∀ρ m,ρ=h'.pl++m→yE P w β hp ρ μ hp0→∀rest,ao P w I' μ hp0 v (hZ l (d++rest)):=by
 have plain: ∀{x':V} {iQ:List Nat},(k {h with ds:=h.ds++[x']}).run C hp=some (r,iQ)→l.size=1→(∀I' μ hp0 rest,ao P w I' μ hp0 v (hZ l ([x']++rest)))→∃h' ez d u,(k h').run C hp=some (r,ez)∧Ext P w I β hp h h' d u∧d.length=l.size∧
   ∀(I':Nat→Prop) (μ:Nat→Option Nat) (hp0:Nat→Option an),(∀b,I b→I' b)→(∀q∈u,∀b,rb P w β hp q.1 b→I' b)→∀ρ m,ρ=h'.pl++m→yE P w β hp ρ μ hp0→∀rest,ao P w I' μ hp0 v (hZ l (d++rest)):=
  fun hk hs hx=>⟨_,_,_,_,hk,Ext.leaf h _,hs.symm,fun I' μ hp0 _ _ _ _ _ _ rest=>hx I' μ hp0 rest⟩
 have mJ: ∀{iQ:List Nat},(k h).run C hp=some (r,iQ)→l.size=0→(∀I' μ hp0 rest,ao P w I' μ hp0 v (hZ l rest))→∃h' ez d u,(k h').run C hp=some (r,ez)∧Ext P w I β hp h h' d u∧d.length=l.size∧
   ∀(I':Nat→Prop) (μ:Nat→Option Nat) (hp0:Nat→Option an),(∀b,I b→I' b)→(∀q∈u,∀b,rb P w β hp q.1 b→I' b)→∀ρ m,ρ=h'.pl++m→yE P w β hp ρ μ hp0→∀rest,ao P w I' μ hp0 v (hZ l (d++rest)):=
  fun hk hs hx=>⟨_,_,_,_,hk,Ext.refl h,by simp[hs],fun I' μ hp0 _ _ _ _ _ _ rest=>hx I' μ hp0 rest⟩
 unfold BA at hr
 cases l with
 | pz=>exact mJ hr rfl fun _ _ _ _=> .undef
 | int kd=>
  cases x<;>simp only at hr<;>first|(cases hr;done)|skip
  obtain ⟨h1,U⟩:=aF hr
  simp only[dM] at h1
  subst h1
  obtain rfl:=hv.dS
  exact plain U rfl fun _ _ _ _=> .int
 | bool=>
  cases x<;>simp only at hr<;>first|(cases hr;done)|skip
  obtain rfl:=hv.jI
  exact plain hr rfl fun _ _ _ _=> .bool
 | str=>
  cases x<;>simp only at hr<;>first|(cases hr;done)|skip
  obtain ⟨s,rfl,hl⟩:=hv.lF
  exact plain hr rfl fun _ _ _ _=> .str hl
 | nilS e=>
  cases x<;>simp only at hr<;>first|(cases hr;done)|skip
  obtain ⟨h1,U⟩:=aF hr
  cases hv with
  | nilS=>exact mJ U rfl fun _ _ _ _=> .nilS
 | c6=>
  cases x<;>simp only at hr<;>first|(cases hr;done)|skip
  cases hv with
  | c6=>exact mJ hr rfl fun _ _ _ _=> .c6
 | row e j cs=>
  cases x<;>simp only at hr<;>first|(cases hr;done)|skip
  rename_i e' id ver path
  obtain ⟨e0,es,aq,l0,ab,p1,p2,p3,hr⟩:=nB hr
  obtain ⟨h1,U⟩:=aF hr
  simp only[aI,aP,dC] at h1
  obtain ⟨rfl,nE,Wg⟩:=h1
  have:=vj nE
  subst this
  obtain ⟨jl,a,b,c⟩:=s4 (P:=P) (w:=w) (I:=I) (β:=β) U (path.map fun p=>dN p.1)
  refine ⟨_,_,path.map fun p=>dN p.1,[],a,c,by simp[LS.size],fun I' μ hp0 i1 i2 ρ m c7 cN rest=> ?_⟩
  obtain ⟨blk,k1,k2⟩:=cN j _ (by rw[c7];exact nM b)
  obtain ⟨bb,q,i,cc,t,l,rfl,hb,ht,hc⟩:=hv.KS ab p1 p2 p3
  have pQ:blk= .nest e0 es [0,0,0]∧μ j=β id:=by
   generalize μ j=o at k2
   cases k2 with
   | var h=>rw[ab] at h;cases h
   | arr h=>rw[ab] at h;cases h
   | map h=>rw[ab] at h;cases h
   | nest h=>rw[ab] at h;cases h;exact ⟨rfl,rfl⟩
  obtain ⟨rfl,jm⟩:=pQ
  simp only[hZ,Cu]
  have hq:q.length<3:=by rw[b8,List.length_singleton] at Wg;omega
  refine .row k1 (jm.trans hb) (by simpa using hq) ?_ ht hc
  match q.length,hq with
  | 0,_=>rfl
  | 1,_=>rfl
  | 2,_=>rfl
 | cm j cs c=>cases hr
 | Bl k n=>cases hr
 | Bm b=>cases hr
 | dc t=>
  cases x<;>simp only at hr<;>first|(cases hr;done)|skip
  obtain ⟨h1,U⟩:=aF hr
  cases hv with
  | dc=>exact mJ U rfl fun _ _ _ _=> .dc
 | cb t j=>
  cases x<;>simp only at hr<;>first|(cases hr;done)|skip
  rename_i t' id
  obtain ⟨h1,U⟩:=aF hr
  rw[aP] at h1
  subst h1
  obtain ⟨jl,a,b,c⟩:=s4 (P:=P) (w:=w) (I:=I) (β:=β) U []
  refine ⟨_,_,[],[],a,by simpa using c,rfl,fun I' μ hp0 i1 i2 ρ m c7 cN rest=> ?_⟩
  obtain ⟨blk,k1,k2⟩:=cN j _ (by rw[c7];exact nM b)
  exact Wb hv k2 k1 rfl
 | list e=>
  obtain ⟨⟨y,u⟩,l1,l2,h1,U⟩:=kb hr
  cases y<;>simp only at U<;>first|(cases U;done)|skip
  rename_i e' es
  obtain ⟨h3,h4⟩:=aF U
  rw[aP] at h3
  subst h3
  obtain ⟨p1,p2⟩:=BN S.h.rel h1 hv
  exact ⟨_,_,[.list e es],u,h4,⟨rfl,rfl,p1,⟨[],by simp⟩,id⟩,rfl,fun I' μ hp0 i1 i2 _ _ _ _ rest=> .list (p2 I' i1 i2)⟩
 | whole e j=>
  cases x<;>simp only at hr<;>first|(cases hr;done)|skip
  ·rename_i e' id
   obtain ⟨h1,U⟩:=aF hr
   rw[aP] at h1
   subst h1
   obtain ⟨jl,a,b,c⟩:=s4 (P:=P) (w:=w) (I:=I) (β:=β) U []
   refine ⟨_,_,[],[],a,by simpa using c,rfl,fun I' μ hp0 i1 i2 ρ m c7 cN rest=> ?_⟩
   obtain ⟨blk,k1,k2⟩:=cN j _ (by rw[c7];exact nM b)
   exact Wa hv k2 k1 rfl
  ·rename_i e' id ver path
   obtain ⟨h1,U⟩:=aF hr
   rw[aP] at h1
   subst h1
   obtain ⟨jl,a,b,c⟩:=s4 (P:=P) (w:=w) (I:=I) (β:=β) U []
   refine ⟨_,_,[],[],a,by simpa using c,rfl,fun I' μ hp0 i1 i2 ρ m c7 cN rest=> ?_⟩
   obtain ⟨blk,k1,k2⟩:=cN j _ (by rw[c7];exact nM b)
   exact We S hv k2 k1 rfl
 | sub e j=>
  cases x<;>simp only at hr<;>first|(cases hr;done)|skip
  rename_i e' id o n
  obtain ⟨h1,U⟩:=aF hr
  rw[aP] at h1
  subst h1
  obtain ⟨jl,a,b,c⟩:=s4 (P:=P) (w:=w) (I:=I) (β:=β) U [dN o,dN n]
  refine ⟨_,_,[dN o,dN n],[],a,c,rfl,fun I' μ hp0 i1 i2 ρ m c7 cN rest=> ?_⟩
  obtain ⟨blk,k1,k2⟩:=cN j _ (by rw[c7];exact nM b)
  simpa[hZ,V.nth] using Wc (I':=I') hv k2 k1 rfl
 | ptr j=>
  cases x<;>simp only at hr<;>first|(cases hr;done)|skip
  rename_i id i c
  obtain ⟨jl,a,b,c'⟩:=s4 (P:=P) (w:=w) (I:=I) (β:=β) hr [dN i,dN c]
  refine ⟨_,_,[dN i,dN c],[],a,c',rfl,fun I' μ hp0 i1 i2 ρ m c7 cN rest=> ?_⟩
  obtain ⟨blk,k1,k2⟩:=cN j _ (by rw[c7];exact nM b)
  simpa[hZ,V.nth] using Mh (I':=I') hv k2 k1 rfl
 | mq j i c=>
  cases x<;>simp only at hr<;>first|(cases hr;done)|skip
  rename_i id i' c'
  obtain ⟨h1,U⟩:=aF hr
  simp only[aI,aP] at h1
  obtain ⟨rfl,rfl⟩:=h1
  obtain ⟨jl,a,b,c'⟩:=s4 (P:=P) (w:=w) (I:=I) (β:=β) U []
  refine ⟨_,_,[],[],a,by simpa using c',rfl,fun I' μ hp0 i1 i2 ρ m c7 cN rest=> ?_⟩
  obtain ⟨blk,k1,k2⟩:=cN j _ (by rw[c7];exact nM b)
  exact Mh hv k2 k1 rfl
end
section
variable {P:Program} {A:ct} {w w':World} {I I' I2:Nat→Prop} {μ β β':Nat→Option Nat} {hp hp' hp0:Nat→Option an} {C:ag} {B:Nat} {M:Nat→Prop} {w0:Start}
def lN (P:Program) (w:World) (I:Nat→Prop) (β:Nat→Option Nat) (hp:Nat→Option an) (h':Hand) (u:List (Nat × an)) (K:(Nat→Prop)→(Nat→Option Nat)→(Nat→Option an)→Prop):Prop:=
 ∀(I':Nat→Prop) (μ:Nat→Option Nat) (hp0:Nat→Option an),(∀b,I b→I' b)→(∀q∈u,∀b,rb P w β hp q.1 b→I' b)→∀ρ m,ρ=h'.pl++m→yE P w β hp ρ μ hp0→K I' μ hp0
theorem lN.yF {h h':Hand} {d:List V} {u u':List (Nat × an)} {K:(Nat→Prop)→(Nat→Option Nat)→(Nat→Option an)→Prop} (t:lN P w I β hp h u K) (e:Ext P w I β hp h h' d u'):lN P w I β hp h' (u++u') K:=by
 obtain ⟨m1,e1⟩:=e.pl
 exact fun I' μ hp0 i1 i2 ρ m c7 cN=>t I' μ hp0 i1 (fun q hq=>i2 q (eh.2 (.inl hq))) ρ (m1++m) (by rw[c7,e1,ca]) cN
theorem lN.more {h:Hand} {u u':List (Nat × an)} {K:(Nat→Prop)→(Nat→Option Nat)→(Nat→Option an)→Prop} (t:lN P w I β hp h u K):lN P w I β hp h (u'++u) K:=
 fun I' μ hp0 i1 i2 ρ m c7 cN=>t I' μ hp0 i1 (fun q hq=>i2 q (eh.2 (.inr hq))) ρ m c7 cN
theorem Cx (S:aE P w I β hp B M w0) {α:Type}: ∀{ls:List LS} {xs:List V} {h:Hand} {k:Hand→Rd α} {r:α} {rd:List Nat} {vs:List Value},(uJ P ls xs h k).run C hp=some (r,rd)→vs.length=xs.length→
  (∀(j:Nat) v x,vs[j]? =some v→xs[j]? =some x→ao P w I β hp v x)→
  ∃h' ez d u,(k h').run C hp=some (r,ez)∧Ext P w I β hp h h' d u∧d.length=jC ls∧ls.length=xs.length∧
   lN P w I β hp h' u fun I' μ hp0=> ∀rest,(gM ls (d++rest)).length=xs.length∧∀(j:Nat) v y,vs[j]? =some v→(gM ls (d++rest))[j]? =some y→ao P w I' μ hp0 v y
 | [],[],h,k,r,rd,vs,hr,hl,hv=>⟨h,rd,[],[],hr,Ext.refl h,rfl,rfl,fun I' μ hp0 _ _ _ _ _ _ rest=>⟨rfl,fun j v y _ hy=>by simp[gM] at hy⟩⟩
 | [],_::_,h,k,r,rd,vs,hr,hl,hv=>by cases hr
 | _::_,[],h,k,r,rd,vs,hr,hl,hv=>by cases hr
 | l::ls,x::xs,h,k,r,rd,vs,hr,hl,hv=>by
  cases vs with
  | nil=>simp at hl
  | cons v vs=>
   simp only[uJ] at hr
   obtain ⟨h1,iQ,d1,u1,a1,a2,a3,a4⟩:=Mi S hr (hv 0 v x rfl rfl)
   obtain ⟨U,rq,d2,u2,b1,b2,b3,b5,b4⟩:=Cx S a1 (by simpa using hl) (vs:=vs) (fun j v x hj hx=>hv (j+1) v x (by simpa using hj) (by simpa using hx))
   have Wh:lN P w I β hp h1 u1 fun I' μ hp0=> ∀rest,ao P w I' μ hp0 v (hZ l (d1++rest)):=a4
   refine ⟨U,rq,d1++d2,u1++u2,b1,a2.trans b2,by simp only[b8,jC];omega,by simp[b5],fun I' μ hp0 i1 i2 ρ m c7 cN rest=> ?_⟩
   have k1:=(Wh.yF b2) I' μ hp0 i1 i2 ρ m c7 cN (d2++rest)
   obtain ⟨k2,k3⟩:=b4.more I' μ hp0 i1 i2 ρ m c7 cN rest
   simp only[gM]
   rw[show (d1++d2++rest).drop l.size=d2++rest by rw[ca];exact mM a3,ca]
   refine ⟨by simp[k2],fun j v' y hj hy=> ?_⟩
   cases j with
   | zero=>simp at hj hy;subst hj;subst hy;exact k1
   | succ j=>exact k3 j v' y (by simpa using hj) (by simpa using hy)
theorem Wi (S:aE P w I β hp B M w0) {α:Type} {s:VS} {x:V} {h:Hand} {k:Hand→Rd α} {r:α} {rd:List Nat} {v:Value} (hr:(xK P s x h k).run C hp=some (r,rd)) (hv:ao P w I β hp v x):
  ∃h' ez d u,(k h').run C hp=some (r,ez)∧Ext P w I β hp h h' d u∧d.length=s.size∧
   lN P w I β hp h' u fun I' μ hp0=> ∀rest,ao P w I' μ hp0 v (j8 s (d++rest)):=by
 cases s with
 | one l=>
  simp only[xK] at hr
  obtain ⟨h1,iQ,d1,u1,a1,a2,a3,a4⟩:=Mi S hr hv
  exact ⟨h1,iQ,d1,u1,a1,a2,a3,a4⟩
 | agg ls=>
  cases x<;>simp only[xK] at hr<;>first|(cases hr;done)|skip
  rename_i xs
  obtain ⟨cs,rfl,e1,e2⟩:=hv.kf
  obtain ⟨h1,iQ,d1,u1,a1,a2,a3,a5,a4⟩:=Cx S hr (vs:=cs.toList) (by simpa using e1) (fun j v x hj hx=>e2 j v x (by simpa using hj) hx)
  refine ⟨h1,iQ,d1,u1,a1,a2,a3,fun I' μ hp0 i1 i2 ρ m c7 cN rest=> ?_⟩
  obtain ⟨k1,k2⟩:=a4 I' μ hp0 i1 i2 ρ m c7 cN rest
  exact .agg (by rw[k1];exact e1) fun j v y hj hy=>k2 j v y (by simpa using hj) hy
 | aX ls=>cases x<;>cases hr
 | pref ts ls=>cases x<;>cases hr
 | fn f a b=>
  cases x<;>simp only[xK] at hr<;>first|(cases hr;done)|skip
  rename_i f' xs ys
  obtain ⟨hc,s5⟩:=aF hr
  clear hr
  rw[aP] at hc
  subst hc
  cases hv with
  | @fn _ fs cs _ _ q1 q2 q3 q4=>
   obtain ⟨h1,iQ,d1,u1,a1,a2,a3,a5,a4⟩:=Cx S s5 (vs:=fs.toList) (by simpa using q1) (fun j v x hj hx=>q2 j v x (by simpa using hj) hx)
   obtain ⟨U,rq,d2,u2,b1,b2,b3,b5,b4⟩:=Cx S a1 (vs:=cs.toList) (by simpa using q3) (fun j v x hj hx=>q4 j v x (by simpa using hj) hx)
   refine ⟨U,rq,d1++d2,u1++u2,b1,a2.trans b2,by simp only[b8,VS.size];omega,fun I' μ hp0 i1 i2 ρ m c7 cN rest=> ?_⟩
   obtain ⟨k1,k2⟩:=(a4.yF b2) I' μ hp0 i1 i2 ρ m c7 cN (d2++rest)
   obtain ⟨k3,k4⟩:=b4.more I' μ hp0 i1 i2 ρ m c7 cN rest
   simp only[j8]
   rw[show (d1++d2++rest).drop (jC a)=d2++rest by rw[ca];exact mM a3,ca]
   exact .fn (by rw[k1];exact q1) (fun j v y hj hy=>k2 j v y (by simpa using hj) hy) (by rw[k3];exact q3) (fun j v y hj hy=>k4 j v y (by simpa using hj) hy)
theorem GX (S:aE P w I β hp B M w0) {α:Type}: ∀{ls:List VS} {xs:List V} {h:Hand} {k:Hand→Rd α} {r:α} {rd:List Nat} {vs:List Value},(xL P ls xs h k).run C hp=some (r,rd)→vs.length=xs.length→
  (∀(j:Nat) v x,vs[j]? =some v→xs[j]? =some x→ao P w I β hp v x)→
  ∃h' ez d u,(k h').run C hp=some (r,ez)∧Ext P w I β hp h h' d u∧d.length=qU ls∧ls.length=xs.length∧
   lN P w I β hp h' u fun I' μ hp0=> ∀rest,(eY ls (d++rest)).length=xs.length∧∀(j:Nat) v y,vs[j]? =some v→(eY ls (d++rest))[j]? =some y→ao P w I' μ hp0 v y
 | [],[],h,k,r,rd,vs,hr,hl,hv=>⟨h,rd,[],[],hr,Ext.refl h,rfl,rfl,fun I' μ hp0 _ _ _ _ _ _ rest=>⟨rfl,fun j v y _ hy=>by simp[eY] at hy⟩⟩
 | [],_::_,h,k,r,rd,vs,hr,hl,hv=>by cases hr
 | _::_,[],h,k,r,rd,vs,hr,hl,hv=>by cases hr
 | l::ls,x::xs,h,k,r,rd,vs,hr,hl,hv=>by
  cases vs with
  | nil=>simp at hl
  | cons v vs=>
   simp only[xL] at hr
   obtain ⟨h1,iQ,d1,u1,a1,a2,a3,a4⟩:=Wi S hr (hv 0 v x rfl rfl)
   obtain ⟨U,rq,d2,u2,b1,b2,b3,b5,b4⟩:=GX S a1 (by simpa using hl) (vs:=vs) (fun j v x hj hx=>hv (j+1) v x (by simpa using hj) (by simpa using hx))
   refine ⟨U,rq,d1++d2,u1++u2,b1,a2.trans b2,by simp only[b8,qU];omega,by simp[b5],fun I' μ hp0 i1 i2 ρ m c7 cN rest=> ?_⟩
   have k1:=(a4.yF b2) I' μ hp0 i1 i2 ρ m c7 cN (d2++rest)
   obtain ⟨k2,k3⟩:=b4.more I' μ hp0 i1 i2 ρ m c7 cN rest
   simp only[eY]
   rw[show (d1++d2++rest).drop l.size=d2++rest by rw[ca];exact mM a3,ca]
   refine ⟨by simp[k2],fun j v' y hj hy=> ?_⟩
   cases j with
   | zero=>simp at hj hy;subst hj;subst hy;exact k1
   | succ j=>exact k3 j v' y (by simpa using hj) (by simpa using hy)
def Cy:List BS→Nat
 | []=>0
 | b::l=>b.size+Cy l
theorem Mj: ∀{b:Nat} {e e':TypeId} {es:List V} {v:V},(∀q b' e' m,At P w b e es q b' e' m→iM P w I b' e' m)→∀(path:Path),jA P e path=some e'→lz P e es path=some v→0<v.toList.length→
  ∃b1,At P w b e es path b1 e' v.toList
 | b,e,e',es,v,cq,[],ht,hv,hl=>by
  simp only[jA,dD] at ht
  simp only[lz,dD] at hv
  subst ht;subst hv
  exact ⟨b,.here⟩
 | b,e,e',es,v,cq,(i,c)::q,ht,hv,hl=>by
  simp only[jA] at ht
  simp only[lz] at hv
  obtain ⟨x,hx,hv⟩:=bind_some hv
  cases GY:(jA.xB P e)[c]? with
  | none=>rw[GY] at ht;cases ht
  | some t=>
   rw[GY] at ht
   simp only at ht
   have Cz:(aQ P e)[c]? =some t:=GY
   cases hu:P.underlying t with
   | none=>rw[hu] at ht;cases ht
   | some d=>
    rw[hu] at ht
    cases d<;>simp only at ht<;>first|(cases ht;done)|skip
    rename_i e1
    rw[mD Cz] at hv
    have hR:=cq _ _ _ _ .here
    obtain ⟨Ca,c1,c2,c3⟩:=hR.cells
    have sG:c<P.cellsOf e:=by rw[←e8 hR.ok];exact (bj.1 Cz).1
    obtain ⟨u,d1,d2⟩:=c3 i c x t hx Cz sG
    rw[d2.rh] at hv
    generalize hy:bB P e x c=y at d2 hv
    cases d2 with
    | fk a p=>unfold fh at a;rw[hu] at a;cases a
    | @emp e2 a cap lL ha=>
     rw[hu] at lL;cases lL
     simp only at hv
     cases q with
     | nil=>simp only[lz,dD] at hv;subst hv;simp[V.toList] at hl
     | cons a q=>simp[lz] at hv
    | @row e2 bQ b2 cap lL jh aR bR nC=>
     rw[hu] at lL;cases lL
     simp only at hv
     have dF: ∀{q b' e' aJ},At P w b2 e1 bQ q b' e' aJ→At P w b e es ((i,c)::q) b' e' aJ:=fun h=> .step c1 hx Cz hu hy jh d1 h
     obtain ⟨b1,kY⟩:=Mj (fun q b' e' m h=>cq _ _ _ _ (dF h)) q ht hv hl
     exact ⟨b1,dF kY⟩
theorem Mk (S:aE P w I β hp B M w0) {α:Type}: ∀{bs:List BS} {j:Nat} {h:Hand} {k:Hand→Rd α} {r:α} {rd:List Nat},(pB P bs j h k).run C hp=some (r,rd)→
  ∃h' ez d u,(k h').run C hp=some (r,ez)∧Ext P w I β hp h h' d u∧d.length=Cy bs∧
   ∀rest,(ej bs (d++rest)).length=bs.length∧∃o:Nat→Option Nat,
    (∀(i:Nat) blk,(ej bs (d++rest))[i]? =some blk→∃p,dO h'.pl (j+i)=some p∧dH P w β hp p (o i) blk)∧
    lN P w I β hp h' u fun I' μ hp0=> ∀(i:Nat) blk,(ej bs (d++rest))[i]? =some blk→(∀b,bn P w (o i) blk b→¬I' b)→dE P w I' μ hp0 (o i) blk
 | [],j,h,k,r,rd,hr=>⟨h,rd,[],[],hr,Ext.refl h,rfl,fun rest=>⟨rfl,fun _=>none,fun i blk hb=>by simp[ej] at hb,fun I' μ hp0 _ _ _ _ _ _ i blk hb=>by simp[ej] at hb⟩⟩
 | b::bs,j,h,k,r,rd,hr=>by
  simp only[pB] at hr
  have fin: ∀{h1:Hand} {iQ:List Nat} {d1:List V} {u1:List (Nat × an)} {o1:Option Nat} {p:Place},(pB P bs (j+1) h1 k).run C hp=some (r,iQ)→Ext P w I β hp h h1 d1 u1→d1.length=b.size→dO h.pl j=some p→
    (∀rest,dH P w β hp p o1 (fi b (d1++rest)))→(∀rest,lN P w I β hp h1 u1 fun I' μ hp0=>(∀bb,bn P w o1 (fi b (d1++rest)) bb→¬I' bb)→dE P w I' μ hp0 o1 (fi b (d1++rest)))→
    ∃h' ez d u,(k h').run C hp=some (r,ez)∧Ext P w I β hp h h' d u∧d.length=Cy (b::bs)∧
     ∀rest,(ej (b::bs) (d++rest)).length=(b::bs).length∧∃o:Nat→Option Nat,
      (∀(i:Nat) blk,(ej (b::bs) (d++rest))[i]? =some blk→∃p,dO h'.pl (j+i)=some p∧dH P w β hp p (o i) blk)∧
      lN P w I β hp h' u fun I' μ hp0=> ∀(i:Nat) blk,(ej (b::bs) (d++rest))[i]? =some blk→(∀b,bn P w (o i) blk b→¬I' b)→dE P w I' μ hp0 (o i) blk:=by
   intro h1 iQ d1 u1 o1 p hk he hd bh hl ht
   obtain ⟨U,rq,d2,u2,b1,b2,b3,b4⟩:=Mk S hk
   refine ⟨U,rq,d1++d2,u1++u2,b1,he.trans b2,by simp only[b8,Cy];omega,fun rest=> ?_⟩
   obtain ⟨c1,o,c2,c3⟩:=b4 rest
   simp only[ej]
   rw[show (d1++d2++rest).drop b.size=d2++rest by rw[ca];exact mM hd,ca]
   refine ⟨by simp[c1],fun i=>match i with|0=>o1|i+1=>o i,fun i blk hb=> ?_,fun I' μ hp0 i1 i2 ρ m c7 cN i blk hb cC=> ?_⟩
   ·cases i with
    | zero=>
     simp at hb
     subst hb
     exact ⟨p,b2.look (he.look bh),hl _⟩
    | succ i=>
     obtain ⟨q,e1,e2⟩:=c2 i blk (by simpa using hb)
     exact ⟨q,by rw[show j+(i+1)=j+1+i by omega];exact e1,e2⟩
   ·cases i with
    | zero=>
     simp at hb
     subst hb
     exact ((ht _).yF b2) I' μ hp0 i1 i2 ρ m c7 cN cC
    | succ i=>exact c3.more I' μ hp0 i1 i2 ρ m c7 cN i blk (by simpa using hb) cC
  cases bh:dO h.pl j with
  | none=>rw[bh] at hr;cases hr
  | some p=>
   rw[bh] at hr
   cases p with
   | blk id=>
    obtain ⟨l1,hr⟩:=run_get hr
    cases ab:hp id with
    | none=>rw[ab] at hr;cases hr
    | some blk=>
     rw[ab] at hr
     cases blk with
     | dead=>cases hr
     | var T0 cs=>
      cases b<;>simp only at hr<;>first|(cases hr;done)|skip
      rename_i T1 ss
      obtain ⟨hT,Wj⟩:=aF hr
      clear hr
      rw[aP] at hT
      subst hT
      have cp:=S.h.rel id _ ab
      generalize ho:β id=o at cp
      cases cp with
      | @var _ bb Ca T hb hh hs hI hx fG=>
       obtain ⟨h1,iQ,d1,u1,a1,a2,a3,a5,a4⟩:=GX S Wj (vs:=Ca.toList) (by simpa using hs) (fun j v x hj cf=>hx j v x (by simpa using hj) cf)
       refine fin (o1:=β id) a1 a2 a3 bh (fun rest=> .var ab) fun rest I' μ hp0 i1 i2 ρ m c7 cN cC=> ?_
       obtain ⟨k1,k2⟩:=a4 I' μ hp0 i1 i2 ρ m c7 cN rest
       exact .var (ho.trans hb) hh (by rw[k1];exact hs) (cC _ (.root (by simp[fi]) (ho.trans hb))) (fun i v y hi hy=>k2 i v y (by simpa using hi) hy) fG
     | arr e' es fz=>
      cases fz with
      | true=>cases hr
      | false=>
       cases b with
       | arr e fz=>
        cases fz with
        | true=>cases hr
        | false=>
         obtain ⟨hc,s5⟩:=aF hr
         clear hr
         rw[aP] at hc
         subst hc
         refine fin (d1:=[.list e es]) (o1:=β id) s5 (Ext.leaf h _) rfl bh (fun rest=>dH.arr ab) fun rest I' μ hp0 i1 i2 ρ m c7 cN cC=> ?_
         change dE P w I' μ hp0 (β id) (.arr e es false)
         have cp:=S.h.rel id _ ab
         generalize ho:β id=o at cp cC⊢
         cases cp with
         | dp hb=>exact .dp hb
         | arr a1 a2 a3 a4 a5 a6 a7=>
          refine .arr a1 a2 a3 a4 (fun h=>by cases h) (fun _=>cC _ (.root (by simp[fi]) a2)) fun i j x t' y1 y2 y3=> ?_
          obtain ⟨v,z1,z2⟩:=a7 i j x t' y1 y2 y3
          exact ⟨v,z1,z2.mono i1 fun _ _=>rfl⟩
       | _=>cases hr
     | nest e' es aq=>
      cases b with
      | nest e=>
       obtain ⟨hc,s5⟩:=aF hr
       clear hr
       rw[aP] at hc
       subst hc
       refine fin (d1:=[.list e es]) (o1:=β id) s5 (Ext.leaf h _) rfl bh (fun rest=>dH.nest ab) fun rest I' μ hp0 i1 i2 ρ m c7 cN cC=> ?_
       have Ml: ∀bb,bn P w (β id) (.nest e es [0,0,0]) bb→¬I' bb:=cC
       change dE P w I' μ hp0 (β id) (.nest e es [0,0,0])
       have cp:=S.h.rel id _ ab
       generalize ho:β id=o at cp Ml⊢
       cases cp with
       | nest hb cq nF=>
        refine .nest hb (fun q b' e1 m1 hq=> ?_) nF
        obtain ⟨ok,⟨Ca,c1,c2,c3⟩,nI⟩:=cq q b' e1 m1 hq
        refine ⟨ok,⟨Ca,c1,c2,fun i j x t' y1 y2 y3=> ?_⟩,Ml _ (.row hb hq)⟩
        obtain ⟨v,z1,z2⟩:=c3 i j x t' y1 y2 y3
        exact ⟨v,z1,z2.mono i1 (fun _ _=>rfl) fun _ _ _ _ _=>rfl⟩
      | _=>cases hr
     | map t' es=>
      cases b with
      | map t=>
       obtain ⟨hc,s5⟩:=aF hr
       clear hr
       rw[aP] at hc
       subst hc
       refine fin (d1:=[.list t es]) (o1:=β id) s5 (Ext.leaf h _) rfl bh (fun rest=>dH.map ab) fun rest I' μ hp0 i1 i2 ρ m c7 cN cC=> ?_
       change dE P w I' μ hp0 (β id) (.map t es)
       have cp:=S.h.rel id _ ab
       generalize ho:β id=o at cp cC⊢
       cases cp with
       | map a1 a2 a3 a4 a5 a6 a7=>exact .map a1 a2 a3 a4 (cC _ (.root (by simp[fi]) a2)) a6 a7
      | _=>cases hr
   | row id ver path=>
    obtain ⟨e0,es,aq,l1,k1,k2,k3,k4,k5⟩:=nB hr
    obtain ⟨e',vv,m1,m2,m3⟩:=uS k5
    cases b with
    | arr e fz=>
     cases fz with
     | true=>cases m3
     | false=>
      obtain ⟨hc,m4⟩:=aF m3
      clear m3
      simp only[aI,aP,jw] at hc
      obtain ⟨rfl,yG,jh⟩:=hc
      have cp:=S.h.rel id _ k1
      cases hb:β id with
      | none=>
       rw[hb] at cp
       cases cp with
       | nest az _ _=>cases az
      | some b0=>
       rw[hb] at cp
       cases cp with
       | nest az cq nF=>
        cases az
        obtain ⟨b1,cW⟩:=Mj cq path m1 m2 jh
        refine fin (d1:=[.list e vv.toList]) (o1:=some b1) m4 (Ext.leaf h _) rfl bh (fun rest=>dH.row k1 hb cW yG k2 k3 k4 jh) fun rest I' μ hp0 i1 i2 ρ m c7 cN cC=> ?_
        change dE P w I' μ hp0 (some b1) (.arr e vv.toList false)
        obtain ⟨ok,⟨Ca,c1,c2,c3⟩,nI⟩:=cq _ _ _ _ cW
        refine .arr ok rfl c1 c2 (fun h=>by cases h) (fun _=>cC _ (.root (by simp[fi]) rfl)) fun i j x t' y1 y2 y3=> ?_
        obtain ⟨v,z1,z2⟩:=c3 i j x t' y1 y2 y3
        refine ⟨v,z1,?_⟩
        generalize bB P e x j=y at z2⊢
        cases z2 with
        | fk _ p=>exact p.mono i1 fun _ _=>rfl
        | emp hu _=>exact absurd hu (Mm yG y2 _)
        | row hu _ _ _ _=>exact absurd hu (Mm yG y2 _)
    | _=>cases m3
where
 Mm {e t:TypeId} {j:Nat} (h:xG P e=true) (ht:(aQ P e)[j]? =some t) (e':TypeId):P.underlying t≠some (.slice e'):=by
  intro hu
  have U:=eM.1 h t (jb ht)
  rw[hu] at U
  cases U
end
end Go.AM
