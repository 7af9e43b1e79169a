/-
  Functions of the program, lifted to plain data.
-/
import Derived.Great.BuildSlice
import Derived.Maps.Keyed
import Derived.WideKeyArr
import Derived.MapKept
import Derived.ChangeMaps4
import Derived.Carry
import Derived.Lib.AppendStr
import Derived.Laws.BytesString
import Derived.Lib.Builder
import Derived.Lib.UnsafeStr
import Derived.Test.YtmcdbnalaobmpaaDoorP1
set_option linter.unusedVariables false
set_option linter.unusedSimpArgs false
namespace Go.AM
section
variable {P:Program} {w w':World} {I I':Nat→Prop} {β av:Nat→Option Nat} {hp hp':Nat→Option aj} {C:ae} {B:Nat} {M:Nat→Prop} {w0:Start}
theorem adb (S:aI P w I β hp B M w0) {t:TypeId} {a v:Value} {xa x:V} {r:R} {rd:List Nat} (ha:an P w I β hp a xa) (hv:an P w I β hp v x)
  (h:(KY P t xa x).run C hp=some (r,rd)):qH P ((Instr.storeAt t a v).run P w) w I β hp B M w0 r:=by
 unfold KY at h
 obtain ⟨h0,h⟩:=aJ h
 simp only[aL,aW] at h0
 obtain ⟨ht,hn⟩:=h0
 cases xa with
 | ptr id i c=>
  obtain ⟨l,h⟩:=run_get h
  cases af:hp id with
  | none=>rw[af] at h;cases h
  | some blk=>
   rw[af] at h
   cases blk with
   | dead=>cases h
   | var T0 cs=>
    obtain ⟨Tf,h⟩:=aJ h
    have nW:qw P T0=true→0<c:=fun cd=>by
     rw[cd] at Tf
     simpa using Tf
    obtain ⟨b,hb,rfl⟩:=ha.iY af (by simp)
    simp only[aj.sz,Nat.mul_zero,fe]
    cases qG:(Bj P t cs&&fv P t x) with
    | true=>
     dsimp only at h
     rw[qG] at h
     simp only[cond_true] at h
     obtain ⟨hc,h⟩:=aJ h
     obtain rfl:=aS h
     simp only[aL,lA] at hc qG
     obtain ⟨o1,o2⟩:=S8 hv qG.2
     have m8:=acW qG.2
     refine S6 S af hb ht hn (by rw[o2,m8];rfl) nW (fun j u y hu hy=> ?_) (by rw[o2];simp[o1]) (by rw[m8];simp;omega) (S5 _ _ _ _) (fun j y hy hj u hu=> ?_) (fun j y hy hj u hu=> ?_)
     ·rw[o2] at hu
      rw[m8] at hy
      cases j with
      | zero=>simp at hu hy;subst hu;subst hy;exact hv
      | succ j=>simp at hy
     ·rw[LB] at hy
      cases yO:cs[j]? with
      | none=>rw[yO] at hy;cases hy
      | some y0=>
       rw[yO] at hy
       simp only[Option.map_some,ez] at hy
       rw[m8] at hj
       simp only[List.length_singleton] at hj
       have bZ:Nat.beq c (0+j)=false:=by
        cases hq:Nat.beq c (0+j) with
        | false=>rfl
        | true=>rw[aW] at hq;omega
       rw[bZ] at hy
       have:=SQ (c:=false) hv (hu y0 yO)
       rw[←hy]
       simpa using this
     ·rw[m8] at hj hu
      have hj0:j=0:=by simpa using hj
      subst hj0
      rw[LB] at hy
      cases yO:cs[c+0]? with
      | none=>rw[yO] at hy;cases hy
      | some y0=>
       rw[yO] at hy
       simp only[Option.map_some,ez] at hy
       have heq:Nat.beq c (0+(c+0))=true:=by rw[aW];omega
       rw[heq] at hy
       have h2:an P w I β hp u x:=hu x rfl
       have:ur true x y0=x:=acX x y0
       rw[←hy,this]
       exact h2
    | false=>
     dsimp only at h
     rw[qG] at h
     simp only[cond_false] at h
     obtain ⟨hc,h⟩:=aJ h
     simp only[aL,fO] at hc
     obtain ⟨e1,e2⟩:=Ly hv h
     obtain ⟨h1,l2,h⟩:=Hd h (vs:=v.cells.toList) (by simpa using e1) (fun j u y a b=>e2 j u y (by simpa using a) b)
     obtain rfl:=aS h
     refine S6 S af hb ht hn e1 nW e2 h1 hc.2 (BW _ _ _ hc.2) (fun j y hy hj u hu=> ?_) (fun j y hy hj u hu=> ?_)
     ·unfold gU at hy
      rw[o6 _ _ _ _ hc.2] at hy
      rcases hj with hj|hj
      ·rw[ag hj] at hy;exact hu y hy
      ·rw[ah (by omega),ah (by omega)] at hy;exact hu y hy
     ·unfold gU at hy
      rw[o6 _ _ _ _ hc.2,ah (by omega),ag (by omega)] at hy
      rw[show c+j-c=j by omega] at hy
      exact hu y hy
   | arr e es fz=>
    cases fz with
    | true=>cases h
    | false=>
    obtain ⟨b,hb,rfl⟩:=ha.iY af (by simp)
    obtain ⟨az,h⟩:=aJ h
    obtain ⟨⟨ys,fr⟩,l1,l2,bG,h⟩:=mq h
    obtain ⟨hc,h⟩:=aJ h
    obtain ⟨x0,sC,h⟩:=m7 h
    obtain rfl:=aS h
    simp only[aL,oL,fO] at hc
    obtain ⟨eL,hc3,jQ⟩:=hc
    have qJ:v.cells.size=x.cells.length∧∀(j:Nat) u y,v.cells.toList[j]? =some u→x.cells[j]? =some y→an P w I β hp u y:=by
     cases x with
     | agg xs=>
      obtain ⟨cs,rfl,h1,h2⟩:=hv.mr
      exact ⟨h1,fun j u y a b=>h2 j u y (by simpa[Value.cells] using a) b⟩
     | _=>
      simp only[V.cells] at bG jQ⊢
      simp only[uq] at bG
      obtain ⟨⟨y1,u1⟩,l3,l4,hq,bG⟩:=mq bG
      obtain ⟨q1,q2⟩:=G2 S.h.rel hq hv
      obtain ⟨⟨y2,u2⟩,l5,l6,mw,bG⟩:=mq bG
      cases mw
      have:=aS bG
      cases this
      obtain ⟨tl,tg⟩:=v7 jQ
      have gH:=tg 0 _ y1 (bM (by rw[tl];exact Nat.one_pos)) rfl
      have gG:=q2 (jR P w I β hp u1) (fun _ h=> .inl h) (fun p hp b h=> .inr ⟨p,hp,h⟩)
      have ho:=gG.pure gH
      have LR:v.cells= #[v]:=by cases ho<;>rfl
      rw[LR]
      refine ⟨rfl,fun j u y hu hy=> ?_⟩
      cases j with
      | zero=>simp at hu hy;subst hu;subst hy;exact hv
      | succ j=>simp at hy
    obtain ⟨k1,k2,k3⟩:=Ls S.h.rel bG (vs:=v.cells.toList) (by simpa using qJ.1) qJ.2
    obtain ⟨sA,S1⟩:=BN S k2
    have B5:bY hp fr id=some (.arr e es false):=by
     rcases vV (hp:=hp) (l:=fr) (id:=id) with h|⟨b',hm,_⟩
     ·exact h.trans af
     ·exfalso
      have qK:lE (fr.map (·.1)) id=true:=yH (fE.2 ⟨_,hm,rfl⟩)
      rw[qK] at eL;cases eL
    have Tg:=k3 (jR P w I β hp fr) (fun _ h=> .inl h) (fun p hp b h=> .inr ⟨p,hp,h⟩)
    obtain ⟨tl,tg⟩:=v7 jQ
    have yB:=(lO az).1
    have wa:ys.length=v.cells.size:=by rw[k1,qJ.1]
    have hcn:c+v.cells.size≤P.cellsOf e:=by rw[qJ.1];exact hc3
    have hr:=S1.h.rel id _ B5
    cases hr with
    | eK aB=>simp at sC
    | @arr _ _ _ b' Ca Lx aB hh hs hf fi hx=>
     rw[hb] at aB
     cases aB
     have m9:i<es.length:=(bE.1 sC).1
     have hbound:i*P.cellsOf e+P.cellsOf e≤Ca.size:=by
      have:(i+1)*P.cellsOf e≤es.length*P.cellsOf e:=dP _ m9
      rw[eU] at this
      omega
     simp only[aj.sz]
     have uJ:i*P.cellsOf e+c+v.cells.size≤Ca.size:=by omega
     have dh: ¬jR P w I β hp fr b:=fi rfl
     have h1: ∀u∈v.cells.toList,u.oneCell'=true:=by
      intro u hu
      obtain ⟨j,hj⟩:=uf hu
      have dt:j<ys.length:=by rw[wa];simpa using (bE.1 hj).1
      have pT:j<(((flat P e).drop c).take x.cells.length).length:=by rw[tl];exact dt
      exact (Tg j u ys[j] hj (bM dt)).one (tg j _ ys[j] (bM pT) (bM dt))
     have dv:=LA (t:=t) (o:=i*P.cellsOf e+c) (v:=v) ht (by rw[qJ.1];exact hn.symm) hh uJ h1
     have hlen:(Ca.toList.take (i*P.cellsOf e+c)++(v.cells.toList++Ca.toList.drop (i*P.cellsOf e+c+v.cells.toList.length))).length=Ca.size:=by
      rw[BW _ _ _ (by simpa using uJ)];simp
     have gG:(parts P e x0).length=P.cellsOf e:=by rw[yE];exact gF az
     have BX:=He S1 (blk':= .arr e (es.set i (cN P e (gU (parts P e x0) c ys))) false)
      (Cb:=(Ca.toList.take (i*P.cellsOf e+c)++(v.cells.toList++Ca.toList.drop (i*P.cellsOf e+c+v.cells.toList.length))).toArray) B5 (by simp) ⟨rfl,by simp⟩ hb dh (by simp) hh (by simpa using hlen)
      (fun hle fR=> .arr az rfl fR (by simp only[rR,oN];omega) (fun h=>by cases h) (fun _=>dh) fun i' j z t' hz pT hj=>by
       simp only[oM]
       rw[o6 _ _ _ _ (by simpa using uJ)]
       simp only[Array.length_toList]
       rw[xW] at hz
       by_cases jU:i=i'
       ·subst jU
        rw[ag rfl,ag m9] at hz
        cases hz
        have Hm:j<(parts P e x0).length:=by omega
        have wc:(gU (parts P e x0) c ys)[j]? =if j<c then (parts P e x0)[j]? else if j<c+ys.length then ys[j-c]? else (parts P e x0)[j]? :=by
         unfold gU;exact o6 _ _ _ _ (by omega)
        by_cases su:j<c
        ·rw[ag (by omega)]
         rw[ag su] at wc
         obtain ⟨u,t2,a1,a2,a3⟩:=Ha hx az sC (bM Hm)
         rw[pT] at a1;cases a1
         refine ⟨u,by simpa using a2,?_⟩
         rw[sw (wc.trans (bM Hm)) pT]
         exact a3.mono hle.dQ hle.cB
        ·rw[ah su] at wc
         by_cases cp:j<c+ys.length
         ·rw[ag cp] at wc
          rw[ah (by omega),ag (by omega)]
          have qL:j-c<ys.length:=by omega
          have Th:j-c<v.cells.toList.length:=by simp;omega
          have anW:j-c<v.cells.size:=by omega
          refine ⟨v.cells.toList[j-c],?_,?_⟩
          ·rw[show i*P.cellsOf e+j-(i*P.cellsOf e+c)=j-c by omega]
           exact bM Th
          ·rw[sw (wc.trans (bM qL)) pT]
           have hft:(((flat P e).drop c).take x.cells.length)[j-c]? =some t':=by
            rw[ga (by omega),jg,show c+(j-c)=j by omega,←uG]
            exact pT
           exact ((Tg (j-c) _ ys[j-c] (bM Th) (bM qL)).pure (tg (j-c) t' ys[j-c] hft (bM qL))).mono hle.dQ hle.cB
         ·rw[ah cp] at wc
          rw[ah (by omega),ah (by omega)]
          obtain ⟨u,t2,a1,a2,a3⟩:=Ha hx az sC (bM Hm)
          rw[pT] at a1;cases a1
          refine ⟨u,by simpa using a2,?_⟩
          rw[sw (wc.trans (bM Hm)) pT]
          exact a3.mono hle.dQ hle.cB
       ·rw[ah jU] at hz
        obtain ⟨u,a2,a3⟩:=hx i' j z t' hz pT hj
        have bZ:i'*P.cellsOf e+j<i*P.cellsOf e+c∨i*P.cellsOf e+c+v.cells.size≤i'*P.cellsOf e+j:=by
         rcases eV i' i with aX|qM
         ·left
          have:(i'+1)*P.cellsOf e≤i*P.cellsOf e:=dP _ aX
          rw[eU] at this
          omega
         ·right
          have:(i+1)*P.cellsOf e≤i'*P.cellsOf e:=dP _ (by omega)
          rw[eU] at this
          omega
        refine ⟨u,?_,a3.mono hle.dQ hle.cB⟩
        rcases bZ with bZ|bZ
        ·rw[ag bZ];simpa using a2
        ·rw[ah (by omega),ah (by omega)];simpa using a2)
     exact ⟨_,_,_,dv,sA.trans BX.1,BX.2,rfl⟩
   | map _ _=>cases h
   | nest e es ao=>
    obtain ⟨b,hb,rfl⟩:=ha.iY af (by simp)
    exact Te S ht hn hv af hb .here h
 | cS id ver path i c=>
  obtain ⟨e0,es,ao,l,af,h1,h2,h3,h⟩:=pO h
  obtain ⟨b,b1,e1,l1,hb,dR,rfl⟩:=ha.SN af h1 h2 h3
  exact Te S ht hn hv af hb dR h
 | _=>cases h
end
section
variable {P:Program} {w w':World} {I I':Nat→Prop} {β av:Nat→Option Nat} {hp hp':Nat→Option aj} {C:ae} {B:Nat} {M:Nat→Prop} {w0:Start}
theorem LU: ∀{ts:List TypeId} {vs:List Value} {j:Nat} {y:V},(kp P ts vs)[j]? =some y→∃t v,ts[j]? =some t∧vs[j]? =some v∧y=qv P t v
 | [],vs,j,y,h=>by simp[kp] at h
 | _::_,[],j,y,h=>by simp[kp] at h
 | t::ts,v::vs,0,y,h=>by simp[kp] at h;exact ⟨t,v,rfl,rfl,h.symm⟩
 | t::ts,v::vs,j+1,y,h=>by
  simp only[kp,List.getElem?_cons_succ] at h
  obtain ⟨t',v',a,b,c⟩:=LU h
  exact ⟨t',v',by simpa using a,by simpa using b,c⟩
theorem Ti: ∀{ts:List TypeId} {vs:List Value},ts.length=vs.length→(kp P ts vs).length=vs.length
 | [],[],_=>rfl
 | [],_::_,h=>by simp at h
 | _::_,[],h=>by simp at h
 | t::ts,v::vs,h=>by simp[kp,Ti (ts:=ts) (vs:=vs) (by simpa using h)]
theorem lR {e:TypeId} (h:dj P e=true): ∃i z,P.info? e=some i∧i.zero=some z∧i.size=P.cellsOf e∧z.cells.size=P.cellsOf e∧zeroCells P e=kp P (flat P e) z.cells.toList:=by
 unfold dj at h
 simp only[aL,aW,lA] at h
 obtain ⟨h1,h2,_,h3⟩:=h
 cases hi:P.info? e with
 | none=>rw[hi] at h3;cases h3
 | some i=>
  rw[hi] at h3
  simp only[Option.bind_some] at h3
  cases hz:i.zero with
  | none=>rw[hz] at h3;cases h3
  | some z=>
   rw[hz] at h3
   simp only[aW] at h3
   exact ⟨i,z,rfl,hz,by simp[Program.cellsOf,hi],h3,by simp[zeroCells,hi,hz]⟩
theorem Tj {e:TypeId} (h:dj P e=true): ∃i z,P.info? e=some i∧i.zero=some z∧z.cells.size=(zeroCells P e).length∧z.cells.size=P.cellsOf e∧
  ∀(j:Nat) v x,z.cells[j]? =some v→(zeroCells P e)[j]? =some x→an P w I β hp v x:=by
 obtain ⟨i,z,h1,h2,h3,h4,h5⟩:=lR h
 have hl:(flat P e).length=z.cells.toList.length:=by rw[(lO h).1];simpa using h4.symm
 refine ⟨i,z,h1,h2,?_,h4,fun j v x hv hx=> ?_⟩
 ·rw[h5,Ti hl];simp
 ·rw[h5] at hx
  obtain ⟨t,v',_,yF,rfl⟩:=LU hx
  have:v'=v:=by
   have e1:z.cells[j]? =some v':=by simpa using yF
   rw[hv] at e1;exact (dq e1).symm
  subst this
  exact an.const t v'
theorem o8 {nb:Nat} {b:aj} {v:V} {upd:List (Nat × aj)} {r:R} {rd:List Nat} (h:(ky nb b v upd).run C hp=some (r,rd)):hp nb=none∧r=⟨v,(nb,b)::upd⟩:=by
 obtain ⟨l,h⟩:=run_get h
 cases hn:hp nb with
 | none=>rw[hn] at h;exact ⟨rfl,(aS h).symm⟩
 | some x=>rw[hn] at h;cases h
theorem Tk (S:aI P w I β hp B M w0) {nb:Nat} {xs:List V} {C0:Array Value} {T:TypeId} (hn:hp nb=none) (hs:C0.size=xs.length)
  (hx: ∀(j:Nat) v x,C0[j]? =some v→xs[j]? =some x→an P w I β hp v x) (il:SH P w.heap.size T C0):
  Le P w I β hp (w.alloc (.cells C0 T)) I (aO β nb (some w.heap.size)) (aO hp nb (some (.var T xs)))∧aI P (w.alloc (.cells C0 T)) I (aO β nb (some w.heap.size)) (aO hp nb (some (.var T xs))) B M w0∧
  an P (w.alloc (.cells C0 T)) I (aO β nb (some w.heap.size)) (aO hp nb (some (.var T xs))) (.pointer (some ⟨w.heap.size,0,none⟩)) (.ptr nb 0 0):=by
 obtain ⟨h1,h2⟩:=Lt S (blk:= .var T xs) (c:=C0) (T:=T) hn (fun b' h=>(dq (h.flat (by simp))).symm) (fun hle fR dh=> .var rfl fR hs dh (fun j v x a b=>(hx j v x a b).mono hle) il)
 refine ⟨h1,h2,?_⟩
 have:=an.ptr (P:=P) (w:=w.alloc (.cells C0 T)) (I:=I) (β:=aO β nb (some w.heap.size)) (hp:=aO hp nb (some (.var T xs))) (i:=0) (c:=0) (blk:= .var T xs) (dr _ _ _) (by simp) (dr _ _ _)
 simpa using this
theorem ade (S:aI P w I β hp B M w0) {e:TypeId} {nb:Nat} {r:R} {rd:List Nat}
  (h:(Rd.aC (dj P e&&(!(qw P e)||SD (zeroCells P e))) (ky nb (.var e (zeroCells P e)) (.ptr nb 0 0) [])).run C hp=some (r,rd)):dy P ((Instr.alloc e true (.tuple #[])).run P w) w I β hp B M w0 r:=by
 obtain ⟨az,h⟩:=aJ h
 rw[aL] at az
 obtain ⟨az,nW⟩:=az
 obtain ⟨hn,rfl⟩:=o8 h
 obtain ⟨i,z,h1,h2,h3,h4,h5⟩:=Tj (w:=w) (I:=I) (β:=β) (hp:=hp) az
 obtain ⟨a,b,c⟩:=Tk S (T:=e) hn h3 h5 fun cd=>by
  rw[cd,Bool.not_true,Bool.false_or] at nW
  cases hz:zeroCells P e with
  | nil=>rw[hz] at nW;cases nW
  | cons y l=>
   rw[hz] at nW h3 h5
   cases y<;>first|(cases nW;done)|skip
   have aX:0<z.cells.size:=by rw[h3];simp
   have:=h5 0 z.cells[0] .eb (mh aX) rfl
   left
   rw[mh aX]
   generalize z.cells[0]=u at this
   cases this;rfl
 exact ⟨_,_,_,_,by simp[Instr.alloc,zeroValue,typeInfo,h1,h2,newVar,newRow],a,b,c⟩
theorem adf (S:aI P w I β hp B M w0) {e:TypeId} {nb:Nat} {x:V} {v:Value} {r:R} {rd:List Nat} (hv:an P w I β hp v x)
  (h:(Rd.aC (!(qw P e)) <| mW x.cells (ky nb (.var e x.cells) (.ptr nb 0 0) [])).run C hp=some (r,rd)):dy P ((Instr.box e v).run P w) w I β hp B M w0 r:=by
 obtain ⟨nW,h⟩:=aJ h
 obtain ⟨e1,e2⟩:=Ly hv h
 obtain ⟨_,l,h⟩:=Hd h (vs:=v.cells.toList) (by simpa using e1) (fun j u y a b=>e2 j u y (by simpa using a) b)
 obtain ⟨hn,rfl⟩:=o8 h
 obtain ⟨a,b,c⟩:=Tk S (T:=e) hn e1 e2 fun cd=>by rw[cd] at nW;cases nW
 exact ⟨_,_,_,_,by simp[Instr.box,newVar,newRow],a,b,c⟩
theorem foldl_set (off:Nat): ∀(vs:List Value) (k:Nat) (cs:Array Value) (i:Nat),off+k+vs.length≤cs.size→
  ((vs.zipIdx k).foldl (fun cs p=>cs.setIfInBounds (off+p.2) p.1) cs)[i]? =if i<off+k then cs[i]? else if i<off+k+vs.length then vs[i-(off+k)]? else cs[i]?
 | [],k,cs,i,h=>by simp;intro h1 h2;omega
 | v::vs,k,cs,i,h=>by
  simp only[List.zipIdx_cons,List.foldl_cons]
  simp only[List.length_cons] at h⊢
  rw[foldl_set off vs (k+1) _ i (by simp;omega)]
  by_cases h1:i<off+k
  ·rw[ag (by omega),ag h1]
   rw[Gm (by omega)]
  ·rw[ah h1]
   by_cases h2:i=off+k
   ·subst h2
    rw[ag (by omega),ag (by omega)]
    rw[KV (by omega)]
    simp
   ·rw[ah (by omega)]
    by_cases h3:i<off+k+(vs.length+1)
    ·rw[ag (by omega),ag h3,show i-(off+k)=(i-(off+(k+1)))+1 by omega]
     simp
    ·rw[ah (by omega),ah h3,Gm (by omega)]
theorem Tl (off:Nat): ∀(vs:List Value) (k:Nat) (cs:Array Value),((vs.zipIdx k).foldl (fun cs p=>cs.setIfInBounds (off+p.2) p.1) cs).size=cs.size
 | [],k,cs=>rfl
 | v::vs,k,cs=>by
  simp only[List.zipIdx_cons,List.foldl_cons]
  rw[Tl off vs (k+1)]
  simp
theorem Tm {cells:Array Value} {off:Nat} {v:Value} (h:off+v.cells.size≤cells.size) (i:Nat):
  (v.cells.zipIdx.foldl (fun cs (p:Value × Nat)=>cs.setIfInBounds (off+p.2) p.1) cells)[i]? =if i<off then cells[i]? else if i<off+v.cells.size then v.cells[i-off]? else cells[i]? :=by
 have:=foldl_set off v.cells.toList 0 cells i (by simpa using h)
 rw[←Gn]
 simpa[Array.toList_zipIdx] using this
theorem Tn {cells:Array Value} {off:Nat} {v:Value}:(v.cells.zipIdx.foldl (fun cs (p:Value × Nat)=>cs.setIfInBounds (off+p.2) p.1) cells).size=cells.size:=by
 have:=Tl off v.cells.toList 0 cells
 rw[←Gn]
 simpa[Array.toList_zipIdx] using this
inductive yP (P:Program) (w:World) (I:Nat→Prop) (β:Nat→Option Nat) (hp:Nat→Option aj):List (Nat × Value)→List (Nat × V)→Prop
 | nil:yP P w I β hp [] []
 | cons {i:Nat} {v:Value} {x:V} {vs:List (Nat × Value)} {xs:List (Nat × V)}:v.cells.size=x.cells.length→(∀(j:Nat) u y,v.cells[j]? =some u→x.cells[j]? =some y→an P w I β hp u y)→
   yP P w I β hp vs xs→yP P w I β hp ((i,v)::vs) ((i,x)::xs)
theorem To (place:Nat→Option (Nat × Nat)): ∀{vs:List (Nat × Value)} {px:List (Nat × V)} {cells:Array Value} {xs ys:List V},yP P w I β hp vs px→cells.size=xs.length→
  (∀(j:Nat) v x,cells[j]? =some v→xs[j]? =some x→an P w I β hp v x)→vH place xs px=some ys→
  ∃qO:Array Value,Instr.fill place cells vs=some qO∧qO.size=ys.length∧∀(j:Nat) v x,qO[j]? =some v→ys[j]? =some x→an P w I β hp v x
 | _,_,cells,xs,ys,.nil,hs,hx,h=>by
  simp only[vH,ez] at h
  subst h
  exact ⟨cells,by simp[Instr.fill],hs,hx⟩
 | _,_,cells,xs,ys,@yP.cons _ _ _ _ _ i v x vs px h1 h2 h3,hs,hx,h=>by
  simp only[vH] at h
  cases gG:place i with
  | none=>rw[gG] at h;cases h
  | some os=>
   obtain ⟨off,size⟩:=os
   rw[gG] at h
   simp only at h
   cases hc:(Nat.beq x.cells.length size&&Nat.ble (off+size) xs.length) with
   | false=>rw[hc] at h;cases h
   | true=>
    rw[hc] at h
    simp only[cond_true] at h
    simp only[aL,aW,fO] at hc
    have hv:off+v.cells.size≤cells.size:=by omega
    have hb:off+x.cells.length≤xs.length:=by omega
    have hl:(gU xs off x.cells).length=xs.length:=BW _ _ _ hb
    obtain ⟨qO,f1,f2,f3⟩:=To place (cells:=v.cells.zipIdx.foldl (fun cs (p:Value × Nat)=>cs.setIfInBounds (off+p.2) p.1) cells) (xs:=gU xs off x.cells) h3 (by rw[Tn,hl,hs])
     (fun j u y hu hy=>by
      rw[Tm hv] at hu
      unfold gU at hy
      rw[o6 _ _ _ _ hb] at hy
      by_cases j1:j<off
      ·rw[ag j1] at hu hy;exact hx j u y hu hy
      ·rw[ah j1] at hu hy
       by_cases j2:j<off+x.cells.length
       ·rw[ag (by omega)] at hu
        rw[ag j2] at hy
        exact h2 (j-off) u y hu hy
       ·rw[ah (by omega)] at hu
        rw[ah j2] at hy
        exact hx j u y hu hy) h
    refine ⟨qO,?_,f2,f3⟩
    simp only[Instr.fill,gG]
    rw[ah (by simp;omega)]
    exact f1
theorem adg {t:TypeId} {parts:Array (Nat × Value)} {cells:Array Value} {z:Value} {i:TypeInfo} (hi:P.info? t=some i) (hz:i.zero=some z) (h:Instr.fill (placeOf P t) z.cells parts.toList=some cells) (ha:bP P t=true)
  (gG: ∀fs,P.underlying t=some (.struct fs)→(fs.toList.mapM fun f=>(P.info? f.type).map fun i=>(f.offset,i.size)).isSome=true) (sD: ∀n e,P.underlying t=some (.array n e)→(P.info? e).isSome=true):
  (Instr.build t parts).run P w= .ok (.agg cells) w:=by
 refine run_build w t parts cells ?_
 unfold Program.built
 unfold bP at ha
 rw[hi]
 split at ha
 ·rename_i fs hu
  have:=gG fs hu
  cases hm:fs.toList.mapM fun f=>(P.info? f.type).map fun i=>(f.offset,i.size) with
  | none=>rw[hm] at this;cases this
  | some places=>
   simp only[hu,hz,hm]
   have hq:placeOf P t=fun i=>places[i]? :=by simp[placeOf,hu,hm]
   rw[hq] at h
   simpa using h
 ·rename_i n e hu
  have:=sD n e hu
  cases kW:P.info? e with
  | none=>rw[kW] at this;cases this
  | some ie=>
   simp only[hu,hz,kW]
   have hq:placeOf P t=fun i=>some (i*ie.size,ie.size):=by simp[placeOf,hu,kW]
   rw[hq] at h
   exact h
 ·cases ha
theorem Tp {α:Type}: ∀(xs ys:List V) (k:Rd α),mW (xs++ys) k=mW xs (mW ys k)
 | [],_,_=>rfl
 | x::xs,ys,k=>by simp only[List.cons_append,mW,Tp xs ys k]
theorem Tq {a:Act} {sl:Nat→V} (hs:mo P w I β hp a sl) {G:Nat→V} (hg:iU P G w I) (t:TypeId) {α:Type}: ∀{l:List (Nat × Operand)} {k:Rd α} {r:α} {rd:List Nat},
  (mW ((l.map fun p=>(aT P G t sl p.2).cells).flatten) k).run C hp=some (r,rd)→
  yP P w I β hp (l.map fun p=>(p.1,a.eval p.2)) (l.map fun p=>(p.1,aT P G t sl p.2))∧∃fS,k.run C hp=some (r,fS)
 | [],k,r,rd,h=>⟨.nil,rd,h⟩
 | (i,x)::l,k,r,rd,h=>by
  simp only[ki,List.flatten_cons,Tp] at h
  obtain ⟨e1,e2⟩:=Ly (hs.ev hg t x) h
  obtain ⟨_,l1,h⟩:=Hd h (vs:=(a.eval x).cells.toList) (by simpa using e1) (fun j u y a b=>e2 j u y (by simpa using a) b)
  obtain ⟨h1,h2⟩:=Tq hs hg t h
  exact ⟨.cons e1 e2 h1,h2⟩
theorem adh (S:aI P w I β hp B M w0) {a:Act} {sl:Nat→V} (hs:mo P w I β hp a sl) {G:Nat→V} (hg:iU P G w I) {t ty:TypeId} {ps:Array (Nat × Operand)} {r:R} {rd:List Nat}
  (h:(Rd.aC (dj P t&&(bP P t&&GN P t)) (mW ((ps.toList.map fun p=>(aT P G ty sl p.2).cells).flatten)
   (yl (vH (placeOf P t) (zeroCells P t) (ps.toList.map fun p=>(p.1,aT P G ty sl p.2))) fun cs=> .ret ⟨.agg cs,[]⟩))).run C hp=some (r,rd)):
  dy P ((Instr.build t (ps.map fun (i,x)=>(i,a.eval x))).run P w) w I β hp B M w0 r:=by
 obtain ⟨az,h⟩:=aJ h
 simp only[aL] at az
 obtain ⟨h1,l,h⟩:=Tq hs hg ty h
 cases hf:vH (placeOf P t) (zeroCells P t) (ps.toList.map fun p=>(p.1,aT P G ty sl p.2)) with
 | none=>rw[hf] at h;cases h
 | some cs=>
  rw[hf] at h
  obtain rfl:=aS h
  obtain ⟨i,z,hi,hz,h3,h4,h5⟩:=Tj (w:=w) (I:=I) (β:=β) (hp:=hp) az.1
  obtain ⟨cells,f1,f2,f3⟩:=To (placeOf P t) h1 h3 h5 hf
  have Tr:=az.2.2
  refine .same S (v:= .agg cells) (adg hi hz (by simpa using f1) az.2.1 (fun fs hu=> ?_) (fun n e hu=> ?_)) (.agg f2 f3)
  ·simpa[GN,hu] using Tr
  ·simpa[GN,hu] using Tr
theorem adi (cW: ∀id blk,hp id=some blk→e6 P w I β hp (β id) blk) {x:V} {v:Value} {ys:List V} {fr:List (Nat × aj)} {rd:List Nat} {ts:List TypeId} (hv:an P w I β hp v x)
  (h:(uq P x.cells).run C hp=some ((ys,fr),rd)) (ht:rV P ts ys=true):
  v.cells.size=x.cells.length∧∀(j:Nat) u y,v.cells.toList[j]? =some u→x.cells[j]? =some y→an P w I β hp u y:=by
 cases x with
 | agg xs=>
  obtain ⟨cs,rfl,h1,h2⟩:=hv.mr
  exact ⟨h1,fun j u y a b=>h2 j u y (by simpa[Value.cells] using a) b⟩
 | _=>
  simp only[V.cells] at h⊢
  simp only[uq] at h
  obtain ⟨⟨y1,u1⟩,l3,l4,hq,h⟩:=mq h
  obtain ⟨q1,q2⟩:=G2 cW hq hv
  obtain ⟨⟨y2,u2⟩,l5,l6,mw,h⟩:=mq h
  cases mw
  have:=aS h
  cases this
  obtain ⟨tl,tg⟩:=v7 ht
  have gH:=tg 0 _ y1 (bM (by rw[tl];exact Nat.one_pos)) rfl
  have gG:=q2 (jR P w I β hp u1) (fun _ h=> .inl h) (fun p hp b h=> .inr ⟨p,hp,h⟩)
  have ho:=gG.pure gH
  have LR:v.cells= #[v]:=by cases ho<;>rfl
  rw[LR]
  refine ⟨rfl,fun j u y hu hy=> ?_⟩
  cases j with
  | zero=>simp at hu hy;subst hu;subst hy;exact hv
  | succ j=>simp at hy
def yQ (P:Program) (w:World) (I:Nat→Prop) (e:TypeId) (cells:Array Value) (es:List V):Prop:=
 cells.size=es.length*P.cellsOf e∧∀(i j:Nat) (x:V) (t':TypeId),es[i]? =some x→(a8 P e)[j]? =some t'→j<P.cellsOf e→∃v,cells[i*P.cellsOf e+j]? =some v∧Pure P w I t' v (bW P e x j)
theorem yQ.set {e:TypeId} {cells:Array Value} {es ys:List V} {i:Nat} {v:Value} (h:yQ P w I e cells es) (hi:i<es.length) (hv:v.cells.size=P.cellsOf e) (hy:ys.length=P.cellsOf e)
  (hr: ∀(j:Nat) (t':TypeId) (u:Value) (y:V),(a8 P e)[j]? =some t'→v.cells[j]? =some u→ys[j]? =some y→Pure P w I t' u y):
  yQ P w I e (v.cells.zipIdx.foldl (fun cs (p:Value × Nat)=>cs.setIfInBounds (i*P.cellsOf e+p.2) p.1) cells) (es.set i (cN P e ys)):=by
 obtain ⟨h1,h2⟩:=h
 have hb:i*P.cellsOf e+v.cells.size≤cells.size:=by
  have:(i+1)*P.cellsOf e≤es.length*P.cellsOf e:=dP _ hi
  rw[eU] at this
  omega
 refine ⟨by rw[Tn,oN,h1],fun i' j x t' hx ht hj=> ?_⟩
 rw[Tm hb]
 rw[xW] at hx
 by_cases jU:i=i'
 ·subst jU
  rw[ag rfl,ag hi] at hx
  cases hx
  rw[ah (by omega),ag (by omega),show i*P.cellsOf e+j-i*P.cellsOf e=j by omega]
  have h3:j<v.cells.size:=by omega
  have h4:j<ys.length:=by omega
  refine ⟨v.cells[j],mh h3,?_⟩
  rw[sw (bM h4) ht]
  exact hr j t' _ _ ht (mh h3) (bM h4)
 ·rw[ah jU] at hx
  have bZ:i'*P.cellsOf e+j<i*P.cellsOf e∨i*P.cellsOf e+v.cells.size≤i'*P.cellsOf e+j:=by
   rcases eV i' i with aX|qM
   ·left
    have:(i'+1)*P.cellsOf e≤i*P.cellsOf e:=dP _ aX
    rw[eU] at this
    omega
   ·right
    have:(i+1)*P.cellsOf e≤i'*P.cellsOf e:=dP _ (by omega)
    rw[eU] at this
    omega
  rcases bZ with bZ|bZ
  ·rw[ag bZ];exact h2 i' j x t' hx ht hj
  ·rw[ah (by omega),ah (by omega)];exact h2 i' j x t' hx ht hj
theorem adj {t':TypeId} {v:Value} (gH:fv P t' (yf (qv P t' v))=true):Pure P w I t' v (yf (qv P t' v)):=by
 have hc:=an.const (P:=P) (w:=w) (I:=I) (β:=fun _=>none) (hp:=fun _=>none) t' v
 cases we:qv P t' v<;>rw[we] at gH hc<;>simp only[yf] at gH⊢
 case int k n=>rw[hc.fq];exact Plain.pure (v:= .int k n) (y:= .int k n) rfl gH
 case bool b=>rw[hc.kU];exact Plain.pure (v:= .bool b) (y:= .bool b) rfl gH
 case str l=>obtain ⟨s,e1,e2⟩:=hc.nU;rw[e1];exact Plain.pure (v:= .string s) (y:= .str l) ⟨s,rfl,e2⟩ gH
 case nilS e'=>
  cases hc
  exact Plain.pure (y:= .list e' []) (jO.any fun _=>rfl) gH
 case list e' es=>
  cases hc with
  | list hp=>exact Plain.pure (y:= .list e' es) hp gH
 all_goals (unfold fv at gH;split at gH<;>simp_all)
theorem B6 {e:TypeId} (h:nK P e=true): ∃i z,P.info? e=some i∧i.zero=some z∧i.size=P.cellsOf e∧z.cells.size=P.cellsOf e∧
  ∀(j:Nat) (t':TypeId),(a8 P e)[j]? =some t'→j<P.cellsOf e→∃v,z.cells[j]? =some v∧Pure P w I t' v (bW P e (cN P e (fH P e)) j):=by
 unfold nK at h
 simp only[aL] at h
 obtain ⟨i,z,h1,h2,h3,h4,h5⟩:=lR h.1
 refine ⟨i,z,h1,h2,h3,h4,fun j t' ht hj=> ?_⟩
 obtain ⟨tl,tg⟩:=v7 h.2
 have dt:j<(fH P e).length:=by rw[←tl,(lO h.1).1];exact hj
 have hz:=bM dt
 have gH:=tg j t' _ (by rw[←uG];exact ht) hz
 refine ⟨z.cells[j],mh (by omega),?_⟩
 rw[sw hz ht]
 have wg:(fH P e)[j]=yf (qv P t' z.cells[j]):=by
  have:(fH P e)[j]? =((zeroCells P e)[j]?).map yf:=by simp[fH]
  rw[hz] at this
  cases hc:(zeroCells P e)[j]? with
  | none=>rw[hc] at this;cases this
  | some y=>
   rw[hc] at this
   simp only[Option.map_some,ez] at this
   rw[h5] at hc
   obtain ⟨t2,v2,a1,a2,rfl⟩:=LU hc
   have LV:t2=t':=by
    rw[←uG,ht] at a1;exact (dq a1).symm
   have sg:v2=z.cells[j]:=by
    have hjz:j<z.cells.size:=by omega
    have:z.cells.toList[j]? =some z.cells[j]:=by simp[hjz]
    rw[this] at a2;exact (dq a2).symm
   rw[this,LV,sg]
 rw[wg] at gH⊢
 exact adj gH
end
section
variable {P:Program} {w w':World} {I I':Nat→Prop} {β av:Nat→Option Nat} {hp hp':Nat→Option aj} {C:ae} {B:Nat} {M:Nat→Prop} {w0:Start}
theorem yR (S:aI P w I β hp B M w0) {nb cap:Nat} {e:TypeId} {es:List V} {C0:Array Value} (az:dj P e=true) (hn:hp nb=none) (hs:C0.size=cap*P.cellsOf e) (hl:es.length≤cap) (hm:cap≤maxLen)
  (hx: ∀(i j:Nat) (x:V) (t':TypeId),es[i]? =some x→(a8 P e)[j]? =some t'→j<P.cellsOf e→∃v,C0[i*P.cellsOf e+j]? =some v∧Pure P w I t' v (bW P e x j)):
  Le P w I β hp (w.alloc (.cells C0 e)) I (aO β nb (some w.heap.size)) (aO hp nb (some (.arr e es false)))∧aI P (w.alloc (.cells C0 e)) I (aO β nb (some w.heap.size)) (aO hp nb (some (.arr e es false))) B M w0∧
  an P (w.alloc (.cells C0 e)) I (aO β nb (some w.heap.size)) (aO hp nb (some (.arr e es false))) (.slice (some ⟨w.heap.size,0,none⟩) es.length cap) (.whole e nb):=by
 obtain ⟨h1,h2⟩:=Lt S (blk:= .arr e es false) (c:=C0) (T:=e) hn (fun b' h=>(dq (h.flat (by simp))).symm) (fun hle fR dh=> .arr az rfl fR (by rw[hs];exact dP _ hl) (fun h=>by cases h) (fun _=>dh) fun i j x t' a b c=>by
  obtain ⟨v,hv,hp⟩:=hx i j x t' a b c
  exact ⟨v,hv,hp.mono hle.dQ hle.cB⟩)
 refine ⟨h1,h2,.whole (dr _ _ _) (dr _ _ _) ?_ hl hm⟩
 rw[oY (heap_alloc_new w (.cells C0 e)),hs]
theorem At.only {b b':Nat} {e e':TypeId} {es aQ:List V} {q:Path} (hz: ∀(i j:Nat) x t' e1 l,es[i]? =some x→(a8 P e)[j]? =some t'→bW P e x j= .list e1 l→l=[])
  (h:At P w b e es q b' e' aQ):q=[]∧b'=b∧e'=e∧aQ=es:=by
 cases h with
 | here=>exact ⟨rfl,rfl,rfl,rfl⟩
 | step h1 h2 h3 h4 h5 h6=>have:=hz _ _ _ _ _ _ h2 h3 h5;subst this;simp at h6
theorem nO.se {t:TypeId} {v:Value} {x:V} (h:Pure P w I t v x) (hz: ∀e1 l,x= .list e1 l→l=[]):nO P w I t v x:=by
 cases h with
 | int h=>exact .gZ (by unfold gV;rw[h]) (.int h)
 | bool h=>exact .gZ (by unfold gV;rw[h]) (.bool h)
 | str h hl=>exact .gZ (by unfold gV;rw[h]) (.str h hl)
 | nil h=>exact .emp h fun _=>rfl
 | emp h=>exact .emp h fun h=>by cases h
 | list g hu hl _ _ _ _=>
  have:=hz _ _ rfl
  subst this
  simp at hl
  subst hl
  exact .emp hu fun h=>by cases h
theorem adk (S:aI P w I β hp B M w0) {nb cap:Nat} {e:TypeId} {es:List V} {C0:Array Value} (az:dj P e=true) (hn:hp nb=none) (hs:C0.size=cap*P.cellsOf e) (hl:es.length≤cap) (hm:cap≤maxLen)
  (hx: ∀(i j:Nat) (x:V) (t':TypeId),es[i]? =some x→(a8 P e)[j]? =some t'→j<P.cellsOf e→∃v,C0[i*P.cellsOf e+j]? =some v∧Pure P w I t' v (bW P e x j))
  (hz: ∀(i j:Nat) x t' e1 l,es[i]? =some x→(a8 P e)[j]? =some t'→bW P e x j= .list e1 l→l=[]):
  Le P w I β hp (w.alloc (.cells C0 e)) I (aO β nb (some w.heap.size)) (aO hp nb (some (.nest e es [0,0,0])))∧aI P (w.alloc (.cells C0 e)) I (aO β nb (some w.heap.size)) (aO hp nb (some (.nest e es [0,0,0]))) B M w0∧
  an P (w.alloc (.cells C0 e)) I (aO β nb (some w.heap.size)) (aO hp nb (some (.nest e es [0,0,0]))) (.slice (some ⟨w.heap.size,0,none⟩) es.length cap) (.whole e nb):=by
 obtain ⟨h1,h2⟩:=Lt S (blk:= .nest e es [0,0,0]) (c:=C0) (T:=e) hn (fun b' h=>by
   cases h with
   | root _ h=>exact (dq h).symm
   | row h ha=>cases h;exact (At.only hz ha).2.1)
  (fun hle fR dh=> .nest rfl (fun q b' e' aQ ha=>by
   obtain ⟨rfl,rfl,rfl,rfl⟩:=At.only hz ha
   refine ⟨az,⟨C0,fR,by rw[hs];exact dP _ hl,fun i j x t' a b c=> ?_⟩,dh⟩
   obtain ⟨v,hv,hp⟩:=hx i j x t' a b c
   exact ⟨v,hv,.se (hp.mono hle.dQ hle.cB) fun e1 l h=>hz i j x t' e1 l a b h⟩)
   fun q1 q2 b' e1 cI e2 cw a1 a2=>(At.only hz a1).1.trans (At.only hz a2).1.symm)
 refine ⟨h1,h2,.fp (dr _ _ _) (dr _ _ _) ?_ hl hm⟩
 rw[oY (heap_alloc_new w (.cells C0 e)),hs]
theorem Ts (cW: ∀id blk,hp id=some blk→e6 P w I β hp (β id) blk) {a:Act} {sl:Nat→V} (hs:mo P w I β hp a sl) {G:Nat→V} (hg:iU P G w I) {e:TypeId} {len:Nat}: ∀{l:List (Nat × Operand)} {ps:List (Nat × V)} {upd:List (Nat × aj)} {rd:List Nat},
  (Bn P e len (l.map fun p=>(p.1,aT P G e sl p.2))).run C hp=some ((ps,upd),rd)→dj P e=true→(∀p∈upd,BI hp p)∧∀I':Nat→Prop,(∀b,I b→I' b)→(∀p∈upd,∀b,uF P w β hp p.1 b→I' b)→
   ∀(cells:Array Value) (es:List V),es.length=len→yQ P w I' e cells es→∃qO,Instr.fill (fun i=>some (i*P.cellsOf e,P.cellsOf e)) cells (l.map fun p=>(p.1,a.eval p.2))=some qO∧yQ P w I' e qO (Bm es ps)∧(Bm es ps).length=len
 | [],ps,upd,rd,h,_=>by
  cases h
  exact ⟨by simp,fun I' _ _ cells es hl he=>⟨cells,by simp[Instr.fill],he,hl⟩⟩
 | (i,x)::l,ps,upd,rd,h,az=>by
  simp only[ki,Bn] at h
  obtain ⟨⟨ys,u1⟩,l1,l2,h1,h⟩:=mq h
  obtain ⟨hc,h⟩:=aJ h
  obtain ⟨⟨ps',u2⟩,l3,l4,h2,h⟩:=mq h
  have:=aS h
  cases this
  simp only[aL,lA] at hc
  obtain ⟨hi,gH⟩:=hc
  obtain ⟨tl,tg⟩:=v7 gH
  have yG:=hs.ev hg e x
  obtain ⟨v1,v2⟩:=adi cW yG h1 gH
  obtain ⟨k1,k2,k3⟩:=Ls cW h1 (vs:=(a.eval x).cells.toList) (by simpa using v1) v2
  obtain ⟨m1,m2⟩:=Ts cW hs hg h2 az
  refine ⟨fun p hp=> ?_,fun I' i1 i2 cells es hl he=> ?_⟩
  ·rcases ew.1 hp with h|h
   ·exact k2 p h
   ·exact m1 p h
  ·have gG:=k3 I' i1 (fun p hp=>i2 p (ew.2 (.inl hp)))
   have a9:=(lO az).1
   have wa:ys.length=P.cellsOf e:=by rw[←tl,a9]
   have S7:(a.eval x).cells.size=P.cellsOf e:=by rw[v1,←k1,wa]
   have wh:=he.set (i:=i) (ys:=ys) (by omega) S7 wa (fun j t' u y ht hu hy=>by
    exact (gG j u y (by simpa using hu) hy).pure (tg j t' y (by rw[←uG];exact ht) hy))
   obtain ⟨qO,f1,f2,f3⟩:=m2 I' i1 (fun p hp=>i2 p (ew.2 (.inr hp))) _ (es.set i (cN P e ys)) (by simpa using hl) wh
   refine ⟨qO,?_,f2,f3⟩
   have hb:i*P.cellsOf e+P.cellsOf e≤cells.size:=by
    rw[he.1,hl]
    have:(i+1)*P.cellsOf e≤len*P.cellsOf e:=dP _ hi
    rw[eU] at this
    omega
   simp only[ki,Instr.fill]
   rw[ah (by simp;omega)]
   exact f1
theorem Tt {z:Array Value} {n k:Nat} (hk:k<n) (hz:0<z.size):((Array.range n).map (z[· %z.size]!))[k]? =z[k %z.size]? :=by
 have hm:k %z.size<z.size:=vr _ hz
 simp[hk,hm]
theorem Hn {e:TypeId} (h:nK P e=true) {i:TypeInfo} {z:Value} (hi:P.info? e=some i) (hz:i.zero=some z) (n m:Nat) (pH:n≤m):
  ∀(k j:Nat) (x:V) (t':TypeId),(List.replicate n (cN P e (fH P e)))[k]? =some x→(a8 P e)[j]? =some t'→j<P.cellsOf e→
   ∃v,((Array.range (m*P.cellsOf e)).map (z.cells[· %z.cells.size]!))[k*P.cellsOf e+j]? =some v∧Pure P w I t' v (bW P e x j):=by
 intro k j x t' hx ht hj
 obtain ⟨i2,z2,h1,h2,h3,h4,h5⟩:=B6 (w:=w) (I:=I) h
 rw[hi] at h1;cases h1
 rw[hz] at h2;cases h2
 rw[AZ] at hx
 split at hx
 ·rename_i hk
  cases hx
  obtain ⟨v,hv,hp⟩:=h5 j t' ht hj
  refine ⟨v,?_,hp⟩
  have hb:k*P.cellsOf e+j<m*P.cellsOf e:=by
   have:(k+1)*P.cellsOf e≤m*P.cellsOf e:=dP _ (by omega)
   rw[eU] at this
   omega
  rw[Tt hb (by omega),h4,show (k*P.cellsOf e+j) %P.cellsOf e=j by rw[gz,Nat.mul_add_mod];exact A0 hj]
  exact hv
 ·cases hx
theorem adl {P:Program} (w:World) (t e:TypeId) (len:Nat) (parts:Array (Nat × Value)) (cells:Array Value) (ie:TypeInfo) (z:Value)
  (hu:P.underlying t=some (.slice e)) (kW:P.info? e=some ie) (hz:ie.zero=some z) (adm: ¬len*ie.size>2^24)
  (h:Instr.fill (fun i=>some (i*ie.size,ie.size)) ((Array.range (len*ie.size)).map (z.cells[· %z.cells.size]!)) parts.toList=some cells):
  (Instr.buildSlice t len parts).run P w= .ok (.slice (some ⟨w.heap.size,0,none⟩) len len) (w.alloc (.cells cells e)):=by
 by_cases pH:len*ie.size=0
 ·have h0: ∀g:Nat→Value,(Array.range (len*ie.size)).map g= #[]:=by intro g;exact Array.eq_empty_of_size_eq_zero (by simp[pH])
  have hp: ∀(u:Array Value),(Pure.pure u:Sem (Array Value)).run P w= .ok u w:=fun _=>rfl
  rw[h0] at h
  simp only[Instr.buildSlice,Sem.run_bind,run_underlying hu,Result.andThen_ok,sizeOf,typeInfo,kW]
  have h1:(Array.range (len*ie.size)).map (fun _:Nat=>(default:Value))= #[]:=h0 _
  have hs: ¬16777216<len*ie.size:=by omega
  simp[kW,hs,pH]
  simp only[pH] at h1
  simp[h1,h,newRow]
 ·exact run_buildSlice w t e len parts cells ie z hu kW hz adm pH h
theorem adn (S:aI P w I β hp B M w0) {a:Act} {sl:Nat→V} (hs:mo P w I β hp a sl) {G:Nat→V} (hg:iU P G w I) {t e:TypeId} {len nb:Nat} {ps:Array (Nat × Operand)} {r:R} {rd:List Nat} (hu:P.underlying t=some (.slice e))
  (h:(Rd.aC (nK P e&&Nat.ble (len*P.cellsOf e) (2^24)) ((Bn P e len (ps.toList.map fun p=>(p.1,aT P G e sl p.2))).bind fun r=>
    ky nb (.arr e (Bm (List.replicate len (cN P e (fH P e))) r.1) false) (.whole e nb) r.2)).run C hp=some (r,rd)):
  dy P ((Instr.buildSlice t len (ps.map fun (i,x)=>(i,a.eval x))).run P w) w I β hp B M w0 r:=by
 obtain ⟨hc,h⟩:=aJ h
 simp only[aL,fO] at hc
 obtain ⟨dk,yv⟩:=hc
 have az:dj P e=true:=by
  unfold nK at dk;simp only[aL] at dk;exact dk.1
 obtain ⟨⟨pv,upd⟩,l1,l2,h1,h⟩:=mq h
 obtain ⟨hn,rfl⟩:=o8 h
 obtain ⟨m1,m2⟩:=Ts S.h.rel hs hg h1 az
 obtain ⟨sA,S1⟩:=BN S m1
 obtain ⟨i,z,hi,hz,h3,h4,_⟩:=B6 (w:=w) (I:=I) dk
 have jP:=(lO az).2
 have h0:yQ P w (jR P w I β hp upd) e ((Array.range (len*P.cellsOf e)).map (z.cells[· %z.cells.size]!)) (List.replicate len (cN P e (fH P e))):=
  ⟨by simp,Hn dk hi hz len len (aE _)⟩
 obtain ⟨cells,f1,f2,f3⟩:=m2 (jR P w I β hp upd) (fun _ h=> .inl h) (fun p hp b h=> .inr ⟨p,hp,h⟩) _ _ (by simp) h0
 have lS:bY hp upd nb=none:=by
  rcases vV (hp:=hp) (l:=upd) (id:=nb) with h|⟨b',hm,_⟩
  ·exact h.trans hn
  ·obtain ⟨e1,cI,_,h5⟩:=m1 _ hm
   simp only[hn] at h5
   rcases h5 with ⟨_,h5⟩|⟨_,h5⟩<;>cases h5
 have pP:len≤maxLen:=by
  have:len*1≤len*P.cellsOf e:=vu _ jP
  simp only[maxLen]
  omega
 obtain ⟨n1,n2,n3⟩:=yR S1 (cap:=len) az lS (by rw[f2.1,f3]) (by rw[f3];exact aE _) pP f2.2
 have dv:=adl w t e len (ps.map fun (i,x)=>(i,a.eval x)) cells i z hu hi hz (by rw[h3];omega) (by rw[h3];simpa using f1)
 refine ⟨_,_,_,_,dv,sA.trans n1,n2,?_⟩
 rw[f3] at n3
 exact n3
theorem Tu (S:aI P w I β hp B M w0) {t e:TypeId} {nb:Nat} {kl kc:IntKind} {n m:Int} {r:R} {rd:List Nat} (hu:P.underlying t=some (.slice e))
  (h:(Rd.aC (nK P e&&(decide (0≤n)&&(decide (n≤m)&&Nat.ble (m.toNat*P.bytesOf e) cz)))
    (ky nb (.arr e (List.replicate n.toNat (cN P e (fH P e))) false) (.whole e nb) [])).run C hp=some (r,rd)):
  dy P ((Instr.makeSlice t (.int kl n) (.int kc m)).run P w) w I β hp B M w0 r:=by
 obtain ⟨hc,h⟩:=aJ h
 simp only[aL,fO,dx] at hc
 obtain ⟨dk,h0,pH,fx⟩:=hc
 have az:dj P e=true:=by
  unfold nK at dk;simp only[aL] at dk;exact dk.1
 obtain ⟨hn,rfl⟩:=o8 h
 obtain ⟨i,z,hi,hz,h3,h4,_⟩:=B6 (w:=w) (I:=I) dk
 have nZ:P.bytesOf e=i.bytes:=by simp[Program.bytesOf,hi]
 have LW:m≤9223372036854775807:=by
  have h1:m.toNat*1≤m.toNat*P.bytesOf e:=vu _ (yx az)
  simp only[cz] at fx
  omega
 have dv:=run_make (P:=P) w t e i z hu hi hz kl kc n m h0 pH (by
  rw[nZ] at fx
  simp only[cz] at fx
  have:(i.bytes:Int)*m=((m.toNat*i.bytes:Nat):Int):=by
   rw[Int.natCast_mul,Int.toNat_of_nonneg (by omega),Int.mul_comm]
  rw[this]
  omega) LW
 have hlen:(List.replicate n.toNat (cN P e (fH P e))).length=n.toNat:=by simp
 obtain ⟨n1,n2,n3⟩:=yR S (cap:=m.toNat) (es:=List.replicate n.toNat (cN P e (fH P e))) (C0:=madeCells z.cells (m.toNat*i.size)) az hn (by rw[size_madeCells,h3]) (by rw[hlen];omega) (by simp only[maxLen];omega)
  (by rw[h3];exact Hn dk hi hz n.toNat m.toNat (by omega))
 refine ⟨_,_,_,_,dv,n1,n2,?_⟩
 rw[hlen] at n3
 exact n3
theorem LX: ∀{l:List V} {j:Nat} {e1:TypeId} {k:List V},Bw l=true→V.nth l j= .list e1 k→k=[]
 | [],j,e1,k,_,h=>by cases j<;>cases h
 | x::l,0,e1,k,hn,h=>by
  simp only[V.nth] at h
  subst h
  cases k with
  | nil=>rfl
  | cons _ _=>cases hn
 | x::l,j+1,e1,k,hn,h=>by
  refine LX (l:=l) (j:=j) ?_ h
  cases x with
  | list e2 k2=>
   cases k2 with
   | nil=>exact hn
   | cons _ _=>cases hn
  | _=>exact hn
theorem ado {e:TypeId} {n:Nat} (az:dj P e=true) (h:Bw (fH P e)=true):
  ∀(i j:Nat) x t' e1 l,(List.replicate n (cN P e (fH P e)))[i]? =some x→(a8 P e)[j]? =some t'→bW P e x j= .list e1 l→l=[]:=by
 intro i j x t' e1 l hx ht hl
 have:=List.eq_of_mem_replicate (kh hx)
 subst this
 unfold bW cN at hl
 cases ha:bP P e with
 | true=>rw[ha] at hl;exact LX h hl
 | false=>rw[ha] at hl;exact LX h hl
theorem adp (S:aI P w I β hp B M w0) {t e:TypeId} {nb:Nat} {kl kc:IntKind} {n m:Int} {r:R} {rd:List Nat} (hu:P.underlying t=some (.slice e))
  (h:(Rd.aC (nK P e&&(decide (0≤n)&&(decide (n≤m)&&Nat.ble (m.toNat*P.bytesOf e) cz)))
    (Rd.aC (Bw (fH P e)) (ky nb (.nest e (List.replicate n.toNat (cN P e (fH P e))) [0,0,0]) (.whole e nb) []))).run C hp=some (r,rd)):
  dy P ((Instr.makeSlice t (.int kl n) (.int kc m)).run P w) w I β hp B M w0 r:=by
 obtain ⟨hc,h⟩:=aJ h
 simp only[aL,fO,dx] at hc
 obtain ⟨dk,h0,pH,fx⟩:=hc
 have az:dj P e=true:=by
  unfold nK at dk;simp only[aL] at dk;exact dk.1
 obtain ⟨hnr,h⟩:=aJ h
 obtain ⟨hn,rfl⟩:=o8 h
 obtain ⟨i,z,hi,hz,h3,h4,_⟩:=B6 (w:=w) (I:=I) dk
 have nZ:P.bytesOf e=i.bytes:=by simp[Program.bytesOf,hi]
 have LW:m≤9223372036854775807:=by
  have h1:m.toNat*1≤m.toNat*P.bytesOf e:=vu _ (yx az)
  simp only[cz] at fx
  omega
 have dv:=run_make (P:=P) w t e i z hu hi hz kl kc n m h0 pH (by
  rw[nZ] at fx
  simp only[cz] at fx
  have:(i.bytes:Int)*m=((m.toNat*i.bytes:Nat):Int):=by
   rw[Int.natCast_mul,Int.toNat_of_nonneg (by omega),Int.mul_comm]
  rw[this]
  omega) LW
 have hlen:(List.replicate n.toNat (cN P e (fH P e))).length=n.toNat:=by simp
 obtain ⟨n1,n2,n3⟩:=adk S (cap:=m.toNat) (es:=List.replicate n.toNat (cN P e (fH P e))) (C0:=madeCells z.cells (m.toNat*i.size)) az hn (by rw[size_madeCells,h3]) (by rw[hlen];omega) (by simp only[maxLen];omega)
  (by rw[h3];exact Hn dk hi hz n.toNat m.toNat (by omega))
  (ado az hnr)
 refine ⟨_,_,_,_,dv,n1,n2,?_⟩
 rw[hlen] at n3
 exact n3
theorem Pure.one {t:TypeId} {v:Value} {x:V} (h:Pure P w I t v x):v.oneCell'=true:=by cases h<;>rfl
structure Row (P:Program) (w:World) (I:Nat→Prop) (e:TypeId) (v:Value) (xs:List V) (a:Addr) (c:Nat) (news:List Value):Prop where
 val:v= .slice (some a) xs.length c
 len:news.length=xs.length*P.cellsOf e
 cell: ∀(j:Nat) u,news[j]? =some u→w.cell? (a.add j)=some u
 el: ∀(i j:Nat) (x:V) (t':TypeId),xs[i]? =some x→(a8 P e)[j]? =some t'→j<P.cellsOf e→∃u,news[i*P.cellsOf e+j]? =some u∧Pure P w I t' u (bW P e x j)
theorem Row.one {e:TypeId} {v:Value} {xs:List V} {a:Addr} {c:Nat} {news:List Value} (h:Row P w I e v xs a c news) (az:dj P e=true): ∀u∈news,u.oneCell'=true:=by
 intro u hu
 obtain ⟨k,hk⟩:=uf hu
 have nc:=(bE.1 hk).1
 have jP:=(lO az).2
 rw[h.len] at nc
 have hi:k/P.cellsOf e<xs.length:=Nat.div_lt_of_lt_mul (by rw[gz];exact nc)
 have hj:k %P.cellsOf e<P.cellsOf e:=vr _ jP
 have hG:k %P.cellsOf e<(a8 P e).length:=by rw[gF az];exact hj
 obtain ⟨u',hO,hp⟩:=h.el (k/P.cellsOf e) (k %P.cellsOf e) _ _ (bM hi) (bM hG) hj
 rw[Nat.div_add_mod'] at hO
 rw[hk] at hO
 cases hO
 exact hp.one
theorem Tv {e:TypeId} {es:List V} {b:Nat} {Ca:Array Value} {off len cap o:Nat} (hh:w.heap[b]? =some (.cells Ca e (0,0))) (hs:es.length*P.cellsOf e≤Ca.size)
  (hx: ∀(i j:Nat) (x:V) (t':TypeId),es[i]? =some x→(a8 P e)[j]? =some t'→j<P.cellsOf e→∃v,Ca[i*P.cellsOf e+j]? =some v∧Pure P w I t' v (bW P e x j))
  (kC:off+len≤es.length) (ho:0<len→o=off*P.cellsOf e):
  Row P w I e (.slice (some ⟨b,o,none⟩) len cap) ((es.drop off).take len) ⟨b,o,none⟩ cap ((Ca.toList.drop (off*P.cellsOf e)).take (len*P.cellsOf e)):=by
 have hlen:((es.drop off).take len).length=len:=by simp;omega
 have hb:(off+len)*P.cellsOf e≤Ca.size:=jH (dP _ kC) hs
 rw[eU] at hb
 refine ⟨by rw[hlen],by rw[hlen];simp;omega,fun j u hj=> ?_,fun i j x t' iG ht hj=> ?_⟩
 ·have dt:=(bE.1 hj).1
  have LY:j<len*P.cellsOf e:=by
   rw[kj] at dt;omega
  have nP:0<len:=by
   rcases Nat.eq_zero_or_pos len with h|h
   ·rw[h] at LY;simp at LY
   ·exact h
  rw[ga LY,jg] at hj
  rw[o5,cell?_cells hh,ho nP]
  simpa using hj
 ·have hi:i<len:=by rw[←hlen];exact (bE.1 iG).1
  rw[ga hi,jg] at iG
  obtain ⟨u,hu,hp⟩:=hx (off+i) j x t' iG ht hj
  refine ⟨u,?_,hp⟩
  have:i*P.cellsOf e+j<len*P.cellsOf e:=by
   have:(i+1)*P.cellsOf e≤len*P.cellsOf e:=dP _ hi
   rw[eU] at this
   omega
  rw[ga this,jg]
  rw[eU] at hu
  rw[←pF]
  simpa using hu
theorem Ho (cW: ∀id blk,hp id=some blk→e6 P w I β hp (β id) blk) {e:TypeId} {v:Value} {x:V} {k:List V→Rd R} {r:R} {rd:List Nat} (az:dj P e=true) (hv:an P w I β hp v x)
  (h:(uw e x k).run C hp=some (r,rd)): ∃xs,(((∃a,v= .slice a 0 0)∧xs=[])∨∃a c news,Row P w I e v xs a c news)∧∃l,(k xs).run C hp=some (r,l):=by
 cases hv with
 | list hp'=>
  obtain ⟨hc,h2⟩:=aJ h
  clear h
  rw[aW] at hc
  subst hc
  cases hp' with
  | nil=>exact ⟨[],.inl ⟨⟨_,rfl⟩,rfl⟩,rd,h2⟩
  | @emp a cap=>exact ⟨[],.inr ⟨a,cap,[],⟨rfl,by simp,fun j u hj=>by simp at hj,fun i j x t' hx _ _=>by simp at hx⟩⟩,rd,h2⟩
  | @list b o len cap es g hl cx hI ik hx=>
   refine ⟨_,.inr ⟨⟨b,o,none⟩,cap,(List.range (len*P.cellsOf e)).map fun k=>g (k/P.cellsOf e) (k %P.cellsOf e),⟨by rw[hl],by rw[hl];simp,fun j u hj=> ?_,fun i j x t' iG ht hj=> ?_⟩⟩,rd,h2⟩
   ·obtain ⟨dt,jt⟩:=bE.1 hj
    simp at dt jt
    have jP:=(lO az).2
    have hi:j/P.cellsOf e<len:=Nat.div_lt_of_lt_mul (by rw[gz];exact dt)
    have cp:j %P.cellsOf e<P.cellsOf e:=vr _ jP
    rw[o5,←jt]
    have:=ik (j/P.cellsOf e) (j %P.cellsOf e) hi cp
    rwa [Nat.div_add_mod'] at this
   ·have hi:i<len:=by rw[←hl];exact (bE.1 iG).1
    have hb:i*P.cellsOf e+j<len*P.cellsOf e:=by
     have:(i+1)*P.cellsOf e≤len*P.cellsOf e:=dP _ hi
     rw[eU] at this
     omega
    refine ⟨g i j,?_,hx i j x t' iG ht⟩
    have e1:(i*P.cellsOf e+j)/P.cellsOf e=i:=by
     rw[gz,A1 (lO az).2,A3 hj,Nat.add_zero]
    have e2:(i*P.cellsOf e+j) %P.cellsOf e=j:=by
     rw[gz,Nat.mul_add_mod];exact A0 hj
    simp[hb,e1,e2]
 | nilS=>
  obtain ⟨hc,h⟩:=aJ h
  exact ⟨[],.inl ⟨⟨_,rfl⟩,rfl⟩,rd,h⟩
 | eJ af hb=>
  obtain ⟨l,h⟩:=run_get h
  simp only[af] at h
  obtain ⟨hc,h⟩:=aJ h
  exact ⟨[],.inl ⟨⟨_,rfl⟩,rfl⟩,l,h⟩
 | @whole e' id es fz b cap af hb a9 cx hm=>
  obtain ⟨l,h⟩:=run_get h
  simp only[af] at h
  obtain ⟨hc,h2⟩:=aJ h
  clear h
  simp only[aL,aW] at hc
  obtain ⟨rfl,_⟩:=hc
  have hr:=cW _ _ af
  cases hr with
  | eK aB=>rw[aB] at hb;cases hb
  | arr Lx aB hh hs hf fi hx=>
   rw[hb] at aB;cases aB
   have:=Tv (cap:=cap) (off:=0) (len:=es.length) (o:=0) hh hs hx (by omega) (fun _=>by simp)
   exact ⟨es,.inr ⟨_,_,_,by simpa using this⟩,l,h2⟩
 | g9 af hb=>
  obtain ⟨l,h⟩:=run_get h
  simp only[af] at h
  obtain ⟨hc,h⟩:=aJ h
  exact ⟨[],.inl ⟨⟨_,rfl⟩,rfl⟩,l,by simpa using h⟩
 | @sub e' id off len es fz b o cap af hb kC cx ho=>
  obtain ⟨l,h⟩:=run_get h
  simp only[af] at h
  obtain ⟨hc,h2⟩:=aJ h
  clear h
  simp only[aL,aW] at hc
  obtain ⟨rfl,_⟩:=hc
  have hr:=cW _ _ af
  cases hr with
  | eK aB=>rw[aB] at hb;cases hb
  | arr Lx aB hh hs hf fi hx=>
   rw[hb] at aB;cases aB
   exact ⟨_,.inr ⟨_,_,_,Tv (cap:=cap) hh hs hx kC ho⟩,l,h2⟩
 | fh af=>
  obtain ⟨l,h⟩:=run_get h
  simp only[af] at h
  cases h
 | ij af=>
  obtain ⟨l,h⟩:=run_get h
  simp only[af] at h
  cases h
 | undef=>cases h
 | int=>cases h
 | bool=>cases h
 | str=>cases h
 | agg=>cases h
 | bw=>cases h
 | eb=>cases h
 | fn=>cases h
 | pref=>cases h
 | lM=>cases h
 | ptr=>cases h
 | kQ=>cases h
 | kR=>cases h
 | row=>cases h
 | cS=>cases h
 | ed=>cases h
 | js=>cases h
 | cb=>cases h
 | fp af=>
  obtain ⟨l,h⟩:=run_get h
  simp only[af] at h
  cases h
theorem Tw {t ty e:TypeId} {i:TypeInfo} (ht:P.underlying t=some (.slice e)) (hi:P.info? e=some i) (a:Option Addr) (n cap:Nat) (x:Value) (hx: ∃a c,x= .slice a 0 c) (hn:n≤cap):
  (Builtin.append_ #[t,t] ty #[.slice a n cap,x]).run P w= .ok (.slice a n cap) w:=by
 obtain ⟨a',c,rfl⟩:=hx
 cases a' with
 | none=>cases a<;>simp[Builtin.append_,run_underlying ht,sizeOf,typeInfo,hi,Builtin.lenOf,Builtin.firstCells,hn,storeCells]
 | some a'=>cases a<;>simp[Builtin.append_,run_underlying ht,sizeOf,typeInfo,hi,Builtin.lenOf,Builtin.firstCells,hn,storeCells,loadCells,loadCellsFrom]
theorem Hp {e:TypeId} {es xs:List V} {n:Nat} {c:List Value} {news:List Value} (hn:es.length=n)
  (h1: ∀(i j:Nat) (x:V) (t':TypeId),es[i]? =some x→(a8 P e)[j]? =some t'→j<P.cellsOf e→∃v,c[i*P.cellsOf e+j]? =some v∧Pure P w I t' v (bW P e x j))
  (h2: ∀(i j:Nat) (x:V) (t':TypeId),xs[i]? =some x→(a8 P e)[j]? =some t'→j<P.cellsOf e→∃v,news[i*P.cellsOf e+j]? =some v∧Pure P w I t' v (bW P e x j))
  (hb:n*P.cellsOf e≤c.length) (rest:List Value):
  ∀(i j:Nat) (x:V) (t':TypeId),(es++xs)[i]? =some x→(a8 P e)[j]? =some t'→j<P.cellsOf e→∃v,(c.take (n*P.cellsOf e)++news++rest)[i*P.cellsOf e+j]? =some v∧Pure P w I t' v (bW P e x j):=by
 intro i j x t' hx ht hj
 have hl:(c.take (n*P.cellsOf e)).length=n*P.cellsOf e:=by simp;omega
 by_cases hi:i<n
 ·rw[lB (by omega)] at hx
  obtain ⟨v,hv,hp⟩:=h1 i j x t' hx ht hj
  have:i*P.cellsOf e+j<n*P.cellsOf e:=by
   have:(i+1)*P.cellsOf e≤n*P.cellsOf e:=dP _ hi
   rw[eU] at this
   omega
  exact ⟨v,by rw[dK,lB (by omega),ga this];exact hv,hp⟩
 ·rw[lC (by omega),hn] at hx
  obtain ⟨v,hv,hp⟩:=h2 (i-n) j x t' hx ht hj
  have my:i-n<xs.length:=(bE.1 hx).1
  have e1:i*P.cellsOf e+j-n*P.cellsOf e=(i-n)*P.cellsOf e+j:=by
   rw[Nat.sub_mul]
   have:n*P.cellsOf e≤i*P.cellsOf e:=dP _ (by omega)
   omega
  have h3:(i-n)*P.cellsOf e+j<news.length:=(bE.1 hv).1
  refine ⟨v,?_,hp⟩
  have h4:n*P.cellsOf e≤i*P.cellsOf e+j:=by
   have:n*P.cellsOf e≤i*P.cellsOf e:=dP _ (by omega)
   omega
  rw[dK,lC (by omega),hl,e1,lB h3]
  exact hv
theorem Pure.drew {t:TypeId} {v:Value} {x:V} (h:Pure P w I t v x):Pure P w.drew I t v x:=Pure.mono (w:=w) (w':=w.drew) (fun _ h=>h) (fun _ _=>rfl) h
theorem adq (w:World) (t ty e:TypeId) (i:TypeInfo) (z:Value) (ht:P.underlying t=some (.slice e)) (hi:P.info? e=some i) (hz:i.zero=some z)
  (a0:Option Addr) (a:Addr) (n c:Nat) (news:List Value) (hl:news.length=n*i.size) (Hq: ∀j v,news[j]? =some v→w.cell? (a.add j)=some v)
  (h0:0<n) (Hr:(n:Int)≤9223372036854775807) (Hs:n*i.bytes≤281474976710656):
  (Builtin.append_ #[t,t] ty #[.slice a0 0 0,.slice (some a) n c]).run P w=
   .ok (.slice (some ⟨w.heap.size,0,none⟩) n (grownCap w n 0 e)) (w.drew.alloc (.cells (news.toArray++Builtin.zeroCells z.cells (grownCap w n 0 e-n)) e)):=by
 cases a0 with
 | none=>exact run_append_nil w t ty e i z ht hi hz a n c news hl Hq h0 Hr Hs
 | some b=>
  have:=run_append_grow (P:=P) w t ty e i z ht hi hz b 0 0 [] (by simp) (by simp) a n c news hl Hq (by omega) (by omega) (by rw[fe,nextslicecap_zero h0];omega)
  simpa using this
theorem LZ (S:aI P w I β hp B M w0) {t ty e:TypeId} {nb:Nat} {x:Value} {xs:List V} (hu:P.underlying t=some (.slice e)) (az:dj P e=true) (hn:hp nb=none)
  (fx:xs.length*P.bytesOf e≤cz) {a0:Option Addr} (hx:((∃a,x= .slice a 0 0)∧xs=[])∨∃a c news,Row P w I e x xs a c news):
  ∃v w' av,(Builtin.append_ #[t,t] ty #[.slice a0 0 0,x]).run P w= .ok v w'∧Le P w I β hp w' I av (aO hp nb (some (.arr e xs false)))∧aI P w' I av (aO hp nb (some (.arr e xs false))) B M w0∧
   an P w' I av (aO hp nb (some (.arr e xs false))) v (.whole e nb):=by
 obtain ⟨i,z,hi,hz,h3,h4,_⟩:=lR az
 have wi:=yx az
 have nZ:P.bytesOf e=i.bytes:=by simp[Program.bytesOf,hi]
 have hlen:xs.length≤2^45:=by
  have:xs.length*1≤xs.length*P.bytesOf e:=vu _ wi
  simp only[cz] at fx
  omega
 have empty:xs=[]→(∃a c,x= .slice a 0 c)→∃v w' av,(Builtin.append_ #[t,t] ty #[.slice a0 0 0,x]).run P w= .ok v w'∧Le P w I β hp w' I av (aO hp nb (some (.arr e xs false)))∧aI P w' I av (aO hp nb (some (.arr e xs false))) B M w0∧
   an P w' I av (aO hp nb (some (.arr e xs false))) v (.whole e nb):=by
  intro iI L0
  subst iI
  obtain ⟨a1,a2⟩:=G3 S e hn
  exact ⟨_,_,_,Tw hu hi a0 0 0 x L0 (aE _),a1,a2,.eJ (dr _ _ _) (dr _ _ _)⟩
 rcases hx with ⟨⟨_,rfl⟩,rfl⟩|⟨a,c,news,hr⟩
 ·exact empty rfl ⟨_,_,rfl⟩
 ·by_cases h0:xs.length=0
  ·have iI:xs=[]:=oK h0
   refine empty iI ⟨some a,c,?_⟩
   rw[hr.val,h0]
  ·have dv:=adq (P:=P) w t ty e i z hu hi hz a0 a xs.length c news (by rw[hr.len,h3]) hr.cell (by omega) (by omega) (by rw[←nZ];simp only[cz] at fx;omega)
   have qM:=grownCap_ge w xs.length 0 e
   have wj:grownCap w xs.length 0 e≤maxLen:=grownCap_le_maxLen w xs.length 0 e (by simp only[maxLen];omega)
   obtain ⟨n1,n2,n3⟩:=yR S.drew (nb:=nb) (cap:=grownCap w xs.length 0 e) (es:=xs) (C0:=news.toArray++Builtin.zeroCells z.cells (grownCap w xs.length 0 e-xs.length)) az hn
    (by simp only[Gp,rR,size_zeroCells,h4,hr.len,←eU];congr 1;omega) qM wj
    (fun i' j y t' hy ht hj=>by
     obtain ⟨u,hO,hp⟩:=hr.el i' j y t' hy ht hj
     have aX:=(bE.1 hO).1
     refine ⟨u,?_,Pure.drew hp⟩
     rw[Array.getElem?_append_left (by simpa using aX)]
     simpa using hO)
   rw[hr.val]
   exact ⟨_,_,_,dv,(Le.drew w I β hp).trans n1,n2,n3⟩
theorem adr (S:aI P w I β hp B M w0) {t ty e:TypeId} {nb:Nat} {s x:Value} {sv xv:V} {r:R} {rd:List Nat} (hu:P.underlying t=some (.slice e)) (hs:an P w I β hp s sv) (hx:an P w I β hp x xv)
  (h:(yk P nb e sv xv).run C hp=some (r,rd)):dy P ((Builtin.append_ #[t,t] ty #[s,x]).run P w) w I β hp B M w0 r:=by
 unfold yk at h
 obtain ⟨az,h⟩:=aJ h
 obtain ⟨xs,nd,l0,h⟩:=Ho S.h.rel az hx h
 cases sv with
 | nilS e'=>
  obtain ⟨hc,h⟩:=aJ h
  simp only[aL,aW,fO] at hc
  obtain ⟨hn,rfl⟩:=o8 h
  obtain ⟨a0,rfl⟩: ∃a0,s= .slice a0 0 0:=by cases hs;exact ⟨_,rfl⟩
  obtain ⟨v,w',av,a1,a2,a3,a4⟩:=LZ (ty:=ty) S hu az hn hc.2 nd
  exact ⟨v,w',I,av,a1,a2,a3,a4⟩
 | whole e' id=>
  obtain ⟨l,h⟩:=run_get h
  cases af:hp id with
  | none=>rw[af] at h;cases h
  | some blk=>
   rw[af] at h
   cases blk with
   | dead=>cases h
   | var _=>cases h
   | nest _ _ _=>cases h
   | map _ _=>cases h
   | arr eH es fz=>
    cases fz with
    | true=>cases h
    | false=>
     obtain ⟨hc,h⟩:=aJ h
     obtain ⟨hn,rfl⟩:=o8 h
     simp only[aL,aW,fO] at hc
     obtain ⟨L3,L4,fx⟩:=hc
     subst L3
     subst L4
     have bZ:nb≠id:=fun e=>by rw[e,af] at hn;cases hn
     obtain ⟨k1,k2⟩:=G4 S af
     have lS:aO hp id (some aj.dead) nb=none:=by rw[fj _ _ bZ];exact hn
     cases hs with
     | fh hd=>rw[af] at hd;cases hd
     | fp hd=>rw[af] at hd;cases hd
     | eJ hd hb=>
      rw[af] at hd
      cases hd
      simp only[List.length_nil,fe] at fx
      have ads:((∃a,x= .slice a 0 0)∧xs=[])∨∃a c news,Row P w I e x xs a c news:=nd
      obtain ⟨v,w',av,a1,a2,a3,a4⟩:=LZ (ty:=ty) k2 hu az lS fx ads
      exact ⟨v,w',I,av,a1,k1.trans a2,a3,a4⟩
     | @whole _ _ aQ oV b cap hd hb a9 cx hm=>
      rw[af] at hd
      cases hd
      have hr:=S.h.rel id _ af
      cases hr with
      | eK aB=>rw[aB] at hb;cases hb
      | @arr _ _ _ b' Ca _ aB hh qP hf fi n0=>
       rw[hb] at aB
       cases aB
       obtain ⟨i,z,hi,hz,h3,h4,_⟩:=lR az
       have wi:=yx az
       have nZ:P.bytesOf e=i.bytes:=by simp[Program.bytesOf,hi]
       have hlen:es.length+xs.length≤2^45:=by
        have:(es.length+xs.length)*1≤(es.length+xs.length)*P.bytesOf e:=vu _ wi
        simp only[cz] at fx
        omega
       rw[oY hh] at a9
       have sm: ∀aF blk',aO hp id (some aj.dead) aF=some blk'→¬bL P w (β aF) blk' b:=by
        intro aF blk' h1 h2
        by_cases jU:aF=id
        ·subst jU;rw[dr] at h1;cases h1;exact h2.alive rfl
        ·rw[fj _ _ jU] at h1
         exact jU (S.h.inj aF id blk' _ b h1 af h2 (.root (by simp) hb))
       have L5:=S.h.uD id _ b af (by simp) hb
       have room: ∀(C':Array Value) (w':World) (ys:List V),w'.heap[b]? =some (.cells C' e (0,0))→C'.size=Ca.size→(∀b',b'≠b→w'.heap[b']? =w.heap[b']?)→w.heap.size≤w'.heap.size→(w'.os=w.os∧w'.output=w.output)→ys.length≤cap→
         (∀(i j:Nat) (y:V) (t':TypeId),ys[i]? =some y→(a8 P e)[j]? =some t'→j<P.cellsOf e→∃v,C'[i*P.cellsOf e+j]? =some v∧Pure P w I t' v (bW P e y j))→
         Le P w I β hp w' I (aO β nb (some b)) (aO (aO hp id (some .dead)) nb (some (.arr e ys false)))∧aI P w' I (aO β nb (some b)) (aO (aO hp id (some .dead)) nb (some (.arr e ys false))) B M w0∧
         an P w' I (aO β nb (some b)) (aO (aO hp id (some .dead)) nb (some (.arr e ys false))) (.slice (some ⟨b,0,none⟩) ys.length cap) (.whole e nb):=by
        intro C' w' ys hC pU B7 hwz adt wa hy
        obtain ⟨a1,a2⟩:=BP k2 (blk:= .arr e ys false) (w':=w') lS sm (fi rfl) (fun b' h _=>B7 b' h) hwz adt L5
         (fun b' h=>(dq (h.flat (by simp))).symm) (fun hle=> .arr az rfl hC (by rw[pU,←a9];exact dP _ wa) (fun h=>by cases h) (fun _=>fi rfl) fun i j y t' a b c=>by
          obtain ⟨v,hv,hp⟩:=hy i j y t' a b c
          exact ⟨v,hv,hp.mono hle.dQ hle.cB⟩)
        refine ⟨k1.trans a1,a2,.whole (dr _ _ _) (dr _ _ _) ?_ wa hm⟩
        rw[oY hC,pU,a9]
       have same:xs=[]→(∃a c,x= .slice a 0 c)→dy P ((Builtin.append_ #[t,t] ty #[.slice (some ⟨b,0,none⟩) es.length cap,x]).run P w) w I β hp B M w0 ⟨.whole e nb,[(nb,.arr e (es++xs) false),(id,.dead)]⟩:=by
        intro iI L0
        subst iI
        rw[iQ]
        obtain ⟨a1,a2,a3⟩:=room Ca w es hh rfl (fun _ _=>rfl) (aE _) ⟨rfl,rfl⟩ cx n0
        exact ⟨_,_,_,_,Tw hu hi _ _ _ x L0 cx,a1,a2,a3⟩
       rcases nd with ⟨⟨_,rfl⟩,rfl⟩|⟨a,c,news,cK⟩
       ·exact same rfl ⟨_,_,rfl⟩
       ·have h1:=cK.one az
        have na:es.length*P.cellsOf e≤Ca.toList.length:=by simpa using qP
        by_cases uN:es.length+xs.length≤cap
        ·have B8:es.length*P.cellsOf e+news.length≤Ca.size:=by rw[cK.len,←eU,←a9];exact dP _ uN
         have dv:=run_append_room (P:=P) w t ty e i hu hi b es.length cap Ca hh a xs.length c news (by rw[cK.len,h3]) cK.cell h1 uN (by rw[h3];exact B8)
         rw[h3] at dv
         have dk:=Hp (P:=P) (w:=w) (I:=I) (n:=es.length) (c:=Ca.toList) rfl (fun i j y t' a b c=>by
          obtain ⟨v,hv,hp⟩:=n0 i j y t' a b c
          exact ⟨v,by simpa using hv,hp⟩) cK.el na (Ca.toList.drop (es.length*P.cellsOf e+news.length))
         obtain ⟨a1,a2,a3⟩:=room (Ca.toList.take (es.length*P.cellsOf e)++news++Ca.toList.drop (es.length*P.cellsOf e+news.length)).toArray (w.setRow b _) (es++xs)
          (setRow_heap w b Ca _ e _ hh) (by simp;omega) (fun b' aB=>setRow_other w b b' _ aB) (by simp) ⟨rfl,rfl⟩ (by simpa using uN)
          (fun i j y t' a b c=>by
           obtain ⟨v,hv,hp⟩:=dk i j y t' a b c
           exact ⟨v,by simpa using hv,hp⟩)
         rw[cK.val]
         rw[dO] at a3
         exact ⟨_,_,_,_,dv,a1,a2,a3⟩
        ·have hold: ∀(j:Nat) v,(Ca.toList.take (es.length*P.cellsOf e))[j]? =some v→w.cell? ((⟨b,0,none⟩:Addr).add j)=some v:=by
          intro j v hj
          have dt:=(bE.1 hj).1
          have cp:j<es.length*P.cellsOf e:=by rw[kj] at dt;omega
          rw[ga cp] at hj
          rw[o5,cell?_cells hh,fe]
          simpa using hj
         have dv:=run_append_grow (P:=P) w t ty e i z hu hi hz ⟨b,0,none⟩ es.length cap (Ca.toList.take (es.length*P.cellsOf e)) (by rw[h3];simp;omega) hold a xs.length c news (by rw[cK.len,h3]) cK.cell (by omega) (by omega)
          (growslice_fits (by omega) (by rw[←nZ];simp only[cz] at fx;omega))
         have qM:=grownCap_ge w (es.length+xs.length) cap e
         have wj:grownCap w (es.length+xs.length) cap e≤maxLen:=grownCap_le_maxLen w _ cap e (by simp only[maxLen];omega)
         have dk:=Hp (P:=P) (w:=w) (I:=I) (n:=es.length) (c:=Ca.toList) rfl (fun i j y t' a b c=>by
          obtain ⟨v,hv,hp⟩:=n0 i j y t' a b c
          exact ⟨v,by simpa using hv,hp⟩) cK.el na (Builtin.zeroCells z.cells (grownCap w (es.length+xs.length) cap e-(es.length+xs.length))).toList
         obtain ⟨n1,n2,n3⟩:=yR k2.drew (nb:=nb) (cap:=grownCap w (es.length+xs.length) cap e) (es:=es++xs)
          (C0:=(Ca.toList.take (es.length*P.cellsOf e)).toArray++news.toArray++Builtin.zeroCells z.cells (grownCap w (es.length+xs.length) cap e-(es.length+xs.length))) az lS
          (by
           have e1:(Ca.toList.take (es.length*P.cellsOf e)).length=es.length*P.cellsOf e:=by simp;omega
           simp only[Gp,rR,size_zeroCells,h4,cK.len,e1,←eU];congr 1;omega) (by simpa using qM) wj
          (fun i j y t' a b c=>by
           obtain ⟨v,hv,hp⟩:=dk i j y t' a b c
           refine ⟨v,?_,Pure.drew hp⟩
           rw[←ug]
           simpa using hv)
         rw[cK.val]
         rw[dO] at n3
         exact ⟨_,_,_,_,dv,(k1.trans (Le.drew w I β _)).trans n1,n2,n3⟩
 | _=>cases h
end
section
variable {P:Program} {w w':World} {I I':Nat→Prop} {β av:Nat→Option Nat} {hp hp':Nat→Option aj} {C:ae} {B:Nat} {M:Nat→Prop} {w0:Start}
theorem run_copy_none (w:World) {dT sT ty elem:TypeId} {i:TypeInfo} (a0:Option Addr) (Tx adu:Nat) (a1:Option Addr) (Tz adv:Nat) (hu:P.underlying dT=some (.slice elem)) (hi:P.info? elem=some i) (h0:Nat.min Tz Tx=0):
  (Builtin.copy_ #[dT,sT] ty #[.slice a0 Tx adu,.slice a1 Tz adv]).run P w= .ok (goInt 0) w:=by
 cases a0<;>cases a1<;>simp[Builtin.copy_,run_underlying hu,Builtin.lenOf,Builtin.firstCells,sizeOf,typeInfo,hi,h0,storeCells,loadCells,loadCellsFrom]
theorem adw (S:aI P w I β hp B M w0) {t u ty e:TypeId} {s x:Value} {sv xv:V} {r:R} {rd:List Nat} (hu:P.underlying t=some (.slice e)) (hs:an P w I β hp s sv) (hx:an P w I β hp x xv)
  (h:(K5 P e sv xv).run C hp=some (r,rd)):dy P ((Builtin.copy_ #[t,u] ty #[s,x]).run P w) w I β hp B M w0 r:=by
 unfold K5 at h
 obtain ⟨az,h'⟩:=aJ h
 clear h
 simp only[aL,aW] at az
 obtain ⟨az,h1⟩:=az
 obtain ⟨xs,nd,l0,h⟩:=Ho S.h.rel az hx h'
 obtain ⟨i,z,hi,hz,a9,_⟩:=lR az
 cases sv<;>simp only at h<;>first|(cases h;done)|skip
 rename_i e' id
 obtain ⟨l,h2⟩:=run_get h
 clear h
 cases af:hp id with
 | none=>rw[af] at h2;cases h2
 | some blk=>
  rw[af] at h2
  cases blk<;>simp only at h2<;>first|(cases h2;done)|skip
  rename_i e2 es fz
  cases fz with
  | true=>cases h2
  | false=>
  obtain ⟨hc,h3⟩:=aJ h2
  simp only[aL,aW] at hc
  obtain ⟨rfl,rfl⟩:=hc
  obtain rfl:=aS h3
  have qQ:min xs.length es.length=0→(Builtin.copy_ #[t,u] ty #[s,x]).run P w= .ok (goInt 0) w→dy P ((Builtin.copy_ #[t,u] ty #[s,x]).run P w) w I β hp B M w0 ⟨.int .i64 (min xs.length es.length:Nat),[(id,.arr e (xs.take es.length++es.drop xs.length) false)]⟩:=by
   intro h0 hr
   have he:xs.take es.length++es.drop xs.length=es:=by
    rcases Nat.le_total xs.length es.length with hl|hl
    ·have:xs=[]:=oK (by omega)
     simp[this]
    ·have:es=[]:=oK (by omega)
     simp[this]
   have il:bY hp [(id,.arr e (xs.take es.length++es.drop xs.length) false)]=hp:=by
    rw[he];exact Lg hp id _ af
   refine ⟨goInt 0,w,I,β,hr,?_⟩
   simp only[il,h0]
   exact ⟨Le.refl w I β hp,S,.int⟩
  cases hs with
  | fh hd=>rw[af] at hd;cases hd
  | fp hd=>rw[af] at hd;cases hd
  | @eJ _ _ fz a hd hb=>
   rw[af] at hd
   cases hd
   refine qQ (by simp) ?_
   rcases nd with ⟨⟨a',rfl⟩,rfl⟩|⟨a',c,news,cK⟩
   ·exact run_copy_none w _ _ _ _ _ _ hu hi (by simp)
   ·rw[cK.val];exact run_copy_none w _ _ _ _ _ _ hu hi (by simp)
  | @whole _ _ aQ oV b cap hd hb B9 cx hm=>
   have fJ:=hd
   rw[af] at hd
   cases hd
   rcases nd with ⟨⟨a',rfl⟩,rfl⟩|⟨a',c,news,cK⟩
   ·exact qQ (by simp) (run_copy_none w _ _ _ _ _ _ hu hi (by simp))
   have hr:=S.h.rel id _ af
   cases hr with
   | eK aB=>rw[aB] at hb;cases hb
   | @arr _ _ _ b' Ca _ aB hh qP hf fi n0=>
    rw[hb] at aB
    cases aB
    have nX:news.length=xs.length:=by rw[cK.len,h1,oO]
    rw[h1,oO] at qP
    have gp:(news.take es.length).length=Nat.min xs.length es.length:=by
     rw[kj,nX,Nat.min_comm]
    have TA:Nat.min xs.length es.length=min xs.length es.length:=rfl
    have dv:=run_copy_row (P:=P) w t u ty e b 0 es.length cap a' xs.length c Ca e (news.take es.length) hu (by rw[hi];simp[a9,h1]) hh gp
     (fun j v hj=>cK.cell j v (by
      have:=(bE.1 hj).1
      rw[kj] at this
      rwa [ga (by omega)] at hj)) (by rw[gp,TA];omega) (fun v hv=>cK.one az v (Gq hv))
    rw[cK.val]
    have hq:(goInt (news.take es.length).length)= .int .i64 ((min xs.length es.length:Nat):Int):=by rw[gp];rfl
    have kD:(xs.take es.length++es.drop xs.length).length=es.length:=by simp;omega
    have pU:(Ca.toList.take 0++news.take es.length++Ca.toList.drop (0+(news.take es.length).length)).toArray.size=Ca.size:=by
     simp only[rR,dO,List.length_drop,kj,gp,TA]
     simp
     omega
    obtain ⟨a1,a2⟩:=He S (blk':= .arr e (xs.take es.length++es.drop xs.length) false) (Cb:=(Ca.toList.take 0++news.take es.length++Ca.toList.drop (0+(news.take es.length).length)).toArray) af (by simp) ⟨rfl,kD.symm⟩ hb (fi rfl) (by simp) hh pU
     (fun hle fR=> .arr az rfl fR (by rw[pU,kD,h1,oO];exact qP) (fun h=>by cases h) (fun _=>fi rfl) fun i j y t' hy ht hj=>by
      rw[h1] at hj⊢
      obtain rfl:j=0:=by omega
      rw[oO,Nat.add_zero]
      have sE:=(bE.1 hy).1
      rw[kD] at sE
      by_cases Cc:i<xs.length
      ·rw[lB (by rw[kj];omega),ga sE] at hy
       obtain ⟨u',k1,k2⟩:=cK.el i 0 y t' hy ht (by omega)
       rw[h1,oO,Nat.add_zero] at k1
       refine ⟨u',?_,k2.mono hle.dQ hle.cB⟩
       simp only[List.take_zero,List.nil_append,oM]
       rw[lB (by rw[kj];omega),ga sE]
       exact k1
      ·have e1:(xs.take es.length).length=xs.length:=by rw[kj];omega
       rw[lC (by omega),e1,jg,show xs.length+(i-xs.length)=i by omega] at hy
       obtain ⟨u',k1,k2⟩:=n0 i 0 y t' hy ht (by omega)
       rw[h1,oO,Nat.add_zero] at k1
       refine ⟨u',?_,k2.mono hle.dQ hle.cB⟩
       simp only[List.take_zero,List.nil_append,oM,fe]
       have e2:(news.take es.length).length=xs.length:=by rw[kj];omega
       rw[lC (by omega),e2,jg,show xs.length+(i-xs.length)=i by omega]
       simpa using k1)
    exact ⟨_,_,_,_,dv,a1,a2,by rw[hq];exact .int⟩
theorem adx (S:aI P w I β hp B M w0) {t ty e:TypeId} {x:Value} {xv:V} {r:R} {rd:List Nat} (hu:P.underlying t=some (.slice e)) (hx:an P w I β hp x xv)
  (h:(K4 P e xv).run C hp=some (r,rd)):dy P ((Builtin.clear_ #[t] ty #[x]).run P w) w I β hp B M w0 r:=by
 unfold K4 at h
 obtain ⟨dk,h'⟩:=aJ h
 clear h
 have az:dj P e=true:=by
  unfold nK at dk;simp only[aL] at dk;exact dk.1
 obtain ⟨i,z,hi,hz,a9,Cd,hzp⟩:=B6 (w:=w) (I:=I) dk
 have jP:=(lO az).2
 cases xv<;>simp only at h'<;>first|(cases h';done)|skip
 rename_i e' id off len
 obtain ⟨l,h2⟩:=run_get h'
 clear h'
 cases af:hp id with
 | none=>rw[af] at h2;cases h2
 | some blk=>
  rw[af] at h2
  cases blk<;>simp only at h2<;>first|(cases h2;done)|skip
  rename_i e2 es fz
  cases fz with
  | true=>cases h2
  | false=>
  obtain ⟨hc,h3⟩:=aJ h2
  simp only[aL,aW] at hc
  obtain ⟨rfl,rfl⟩:=hc
  obtain rfl:=aS h3
  have qQ:len=0→(Builtin.clear_ #[t] ty #[x]).run P w= .ok (.tuple #[]) w→dy P ((Builtin.clear_ #[t] ty #[x]).run P w) w I β hp B M w0 ⟨.bw [],[(id,.arr e (es.take off++(List.replicate len (cN P e (fH P e))++es.drop (off+len))) false)]⟩:=by
   intro h0 hr
   subst h0
   have il:bY hp [(id,.arr e (es.take off++(List.replicate 0 (cN P e (fH P e))++es.drop (off+0))) false)]=hp:=by
    simp only[List.replicate_zero,List.nil_append,Nat.add_zero,List.take_append_drop]
    exact Lg hp id _ af
   refine ⟨.tuple #[],w,I,β,hr,?_⟩
   simp only[il]
   exact ⟨Le.refl w I β hp,S,.bw rfl fun j v x hj hx=>by simp at hx⟩
  cases hx with
  | ij hd=>rw[af] at hd;cases hd
  | @g9 _ _ _ a0 hd hb=>exact qQ rfl (by cases a0<;>simp[Builtin.clear_,run_underlying hu])
  | @sub _ _ _ _ aQ oV b o cap hd hb kC cx ho=>
   by_cases hlen:len=0
   ·refine qQ hlen ?_
    subst hlen
    simp[Builtin.clear_,run_underlying hu]
   have ady:0<len:=by omega
   have fJ:=hd
   rw[af] at hd
   cases hd
   have hr:=S.h.rel id _ af
   cases hr with
   | eK aB=>rw[aB] at hb;cases hb
   | @arr _ _ _ b' Ca _ aB hh qP hf fi n0=>
    rw[hb] at aB
    cases aB
    have ho:=ho ady
    subst ho
    have wg:(Builtin.zeroCells z.cells len).toList.length=len*P.cellsOf e:=by rw[Array.length_toList,size_zeroCells,Cd]
    have hmul:off*P.cellsOf e+len*P.cellsOf e≤es.length*P.cellsOf e:=by rw[←eU];exact dP _ kC
    have sB: ∀v∈(Builtin.zeroCells z.cells len).toList,v.oneCell'=true:=by
     intro v hv
     obtain ⟨k,hk⟩:=uf hv
     have nc:=(bE.1 hk).1
     rw[wg] at nc
     have hzg:(Builtin.zeroCells z.cells len)[k]? =z.cells[k %z.cells.size]? :=Tt (z:=z.cells) (n:=len*z.cells.size) (by rw[Cd];exact nc) (by rw[Cd];exact jP)
     rw[ug,hzg] at hk
     have hm:k %z.cells.size<P.cellsOf e:=by rw[Cd];exact vr _ jP
     have htl:k %z.cells.size<(a8 P e).length:=by rw[gF az];exact hm
     obtain ⟨v',yF,hp'⟩:=hzp (k %z.cells.size) _ (bM htl) hm
     rw[hk] at yF
     cases yF
     generalize bW P e (cN P e (fH P e)) (k %z.cells.size)=y at hp'
     cases hp'<;>rfl
    have cd:=run_storeCells_at P b (off*P.cellsOf e) e (Builtin.zeroCells z.cells len).toList 0 Ca w hh (by rw[wg];omega) sB
    simp only[Nat.add_zero] at cd
    have dv:(Builtin.clear_ #[t] ty #[.slice (some ⟨b,off*P.cellsOf e,none⟩) len cap]).run P w= .ok (.tuple #[]) (w.setRow b (Ca.toList.take (off*P.cellsOf e)++(Builtin.zeroCells z.cells len).toList++Ca.toList.drop (off*P.cellsOf e+(Builtin.zeroCells z.cells len).toList.length)).toArray):=by
     obtain ⟨n,rfl⟩: ∃n,len=n+1:=⟨len-1,by omega⟩
     simp[Builtin.clear_,run_underlying hu,zeroValue,typeInfo,hi,hz,cd]
    have kD:(es.take off++(List.replicate len (cN P e (fH P e))++es.drop (off+len))).length=es.length:=by simp;omega
    have pU:(Ca.toList.take (off*P.cellsOf e)++(Builtin.zeroCells z.cells len).toList++Ca.toList.drop (off*P.cellsOf e+(Builtin.zeroCells z.cells len).toList.length)).toArray.size=Ca.size:=by
     simp only[rR,dO,List.length_drop,kj,wg,Array.length_toList]
     omega
    obtain ⟨a1,a2⟩:=He S (blk':= .arr e (es.take off++(List.replicate len (cN P e (fH P e))++es.drop (off+len))) false) af (by simp) ⟨rfl,kD.symm⟩ hb (fi rfl) (by simp) hh pU
     (fun hle fR=> .arr az rfl fR (by rw[pU,kD];exact qP) (fun h=>by cases h) (fun _=>fi rfl) fun i' j y t' hy ht hj=>by
      have jV:=o6 es (List.replicate len (cN P e (fH P e))) off i' (by simp;omega)
      rw[xX] at jV
      rw[jV] at hy
      have hC:(Ca.toList.take (off*P.cellsOf e)++(Builtin.zeroCells z.cells len).toList++Ca.toList.drop (off*P.cellsOf e+(Builtin.zeroCells z.cells len).toList.length)).toArray[i'*P.cellsOf e+j]? =
        if i'*P.cellsOf e+j<off*P.cellsOf e then Ca.toList[i'*P.cellsOf e+j]? else if i'*P.cellsOf e+j<off*P.cellsOf e+len*P.cellsOf e then (Builtin.zeroCells z.cells len).toList[i'*P.cellsOf e+j-off*P.cellsOf e]? else Ca.toList[i'*P.cellsOf e+j]? :=by
       have:=o6 Ca.toList (Builtin.zeroCells z.cells len).toList (off*P.cellsOf e) (i'*P.cellsOf e+j) (by rw[wg,Array.length_toList];omega)
       rw[oM,dK,this,wg]
      by_cases n7:i'<off
      ·rw[ag n7] at hy
       have:(i'+1)*P.cellsOf e≤off*P.cellsOf e:=dP _ n7
       rw[eU] at this
       rw[ag (by omega)] at hC
       obtain ⟨u,k1,k2⟩:=n0 i' j y t' hy ht hj
       exact ⟨u,hC.trans (by simpa using k1),k2.mono hle.dQ hle.cB⟩
      ·rw[ah n7] at hy
       have h1:off*P.cellsOf e≤i'*P.cellsOf e:=dP _ (by omega)
       rw[ah (by omega)] at hC
       by_cases my:i'<off+len
       ·rw[ag my] at hy
        have:(i'+1)*P.cellsOf e≤(off+len)*P.cellsOf e:=dP _ my
        rw[eU,eU] at this
        rw[ag (by omega)] at hC
        obtain ⟨v,k1,k2⟩:=Hn (w:=w) (I:=I) dk hi hz len len (aE _) (i'-off) j y t' hy ht hj
        refine ⟨v,hC.trans ?_,k2.mono hle.dQ hle.cB⟩
        rw[show i'*P.cellsOf e+j-off*P.cellsOf e=(i'-off)*P.cellsOf e+j by rw[Nat.sub_mul];omega,ug]
        unfold Builtin.zeroCells
        rw[Cd] at k1⊢
        exact k1
       ·rw[ah my] at hy
        have:(off+len)*P.cellsOf e≤i'*P.cellsOf e:=dP _ (by omega)
        rw[eU] at this
        rw[ah (by omega)] at hC
        obtain ⟨u,k1,k2⟩:=n0 i' j y t' hy ht hj
        exact ⟨u,hC.trans (by simpa using k1),k2.mono hle.dQ hle.cB⟩)
    exact ⟨_,_,_,_,dv,a1,a2,.bw rfl fun j v x hj hx=>by simp at hx⟩
end
section
variable {P:Program} {w w':World} {I I':Nat→Prop} {β av:Nat→Option Nat} {hp hp':Nat→Option aj} {C:ae} {B:Nat} {M:Nat→Prop} {w0:Start}
theorem adz (S:aI P w I β hp B M w0) {s:TypeId} {f:Nat} {v:Value} {x:V} {r:R} {rd:List Nat} (hv:an P w I β hp v x)
  (h:(K8 P s f x).run C hp=some (r,rd)):dy P ((Instr.field s v f).run P w) w I β hp B M w0 r:=by
 unfold K8 GF at h
 split at h
 ·rename_i fs hu
  cases hf:fs[f]? with
  | none=>rw[hf] at h;cases h
  | some fd=>
   rw[hf] at h
   simp only[yl] at h
   obtain ⟨ht,h⟩:=aJ h
   obtain ⟨d,wk⟩:=BV ht
   obtain ⟨i,hi⟩:=yD wk
   have a9:i.size=P.cellsOf fd.type:=by simp[Program.cellsOf,hi]
   cases x with
   | agg xs=>
    obtain ⟨cs,rfl,h1,h2⟩:=hv.mr
    dsimp only at h
    cases ha:bP P fd.type with
    | true=>
     rw[ha] at h
     simp only[cond_true] at h
     obtain ⟨hc,h⟩:=aJ h
     obtain rfl:=aS h
     rw[fO] at hc
     refine .same S (v:= .agg (cs.extract fd.offset (fd.offset+P.cellsOf fd.type))) ?_ (.agg (by simp;omega) fun j u y hO hy=> ?_)
     ·simp[Instr.field,run_underlying hu,hf,part,Lv wk,ha,asAgg,sizeOf,typeInfo,hi,a9]
     ·have hj:j<P.cellsOf fd.type:=by
       have:=(jh.1 hO).1
       simp at this;omega
      rw[ga hj,jg] at hy
      refine h2 (fd.offset+j) u y ?_ hy
      rw[Array.getElem?_extract] at hO
      split at hO
      ·exact hO
      ·cases hO
    | false=>
     rw[ha] at h
     simp only[cond_false] at h
     obtain ⟨y,hy,h⟩:=m7 h
     obtain rfl:=aS h
     have aX:fd.offset<cs.size:=by rw[h1];exact (bE.1 hy).1
     refine .same S (v:=cs[fd.offset]) ?_ (h2 _ _ _ (mh aX) hy)
     simp[Instr.field,run_underlying hu,hf,part,Lv wk,ha,asAgg,aX]
   | _=>cases h
 ·cases h
theorem adA (S:aI P w I β hp B M w0) {i:Nat} {v:Value} {xs:List V} {r:R} {rd:List Nat} (hv:an P w I β hp v (.bw xs))
  (h:(Rd.opt xs[i]? fun v=> .ret ⟨v,[]⟩).run C hp=some (r,rd)):dy P ((Instr.extract v i).run P w) w I β hp B M w0 r:=by
 obtain ⟨cs,rfl,h1,h2⟩:=hv.vY
 obtain ⟨y,hy,h⟩:=m7 h
 obtain rfl:=aS h
 have aX:i<cs.size:=by rw[h1];exact (bE.1 hy).1
 exact .same S (v:=cs[i]) (by simp[Instr.extract,aX]) (h2 _ _ _ (mh aX) hy)
theorem adB (S:aI P w I β hp B M w0) {t:TypeId} {s:ByteArray} {l:List UInt8} {k:IntKind} {i:Int} {r:R} {rd:List Nat} (hu:P.underlying t=some .string) (hs:s.data.toList=l)
  (h:(Rd.opt (bif decide (0≤i) then (l[i.toNat]?).map fun b=>V.int .u8 b.toNat else none) fun v=> .ret ⟨.int .u8 v.toInt,[]⟩).run C hp=some (r,rd)):
  dy P ((Instr.index t (.string s) (.int k i)).run P w) w I β hp B M w0 r:=by
 obtain ⟨v,hv,h⟩:=m7 h
 obtain rfl:=aS h
 cases hc:decide (0≤i) with
 | false=>rw[hc] at hv;cases hv
 | true=>
  rw[hc] at hv
  simp only[cond_true] at hv
  have h0:0≤i:=by simpa using hc
  cases hb:l[i.toNat]? with
  | none=>rw[hb] at hv;cases hv
  | some b=>
   rw[hb] at hv
   simp only[Option.map_some,ez] at hv
   subst hv
   have hsb:s[i.toNat]? =some b:=by
    subst hs
    obtain ⟨aX,he⟩:=bE.1 hb
    have L7:i.toNat<s.size:=by simpa using aX
    rw[getElem?_pos s i.toNat L7]
    congr 1
   refine .same S (v:= .int .u8 b.toNat) ?_ .int
   simp[Instr.index,asIntOf,run_underlying hu,h0,hsb]
theorem L8 (S:aI P w I β hp B M w0) (mx:Bool): ∀{vs:List Value} {xs:List V} {v:Value} {x:V} {r:R} {rd:List Nat},an P w I β hp v x→vs.length=xs.length→
  (∀(j:Nat) u y,vs[j]? =some u→xs[j]? =some y→an P w I β hp u y)→(ym mx x xs).run C hp=some (r,rd)→
  dy P ((vs.foldlM (if mx then Builtin.max2 else Builtin.min2) v).run P w) w I β hp B M w0 r
 | [],[],v,x,r,rd,hv,_,_,h=>by
  have:r=⟨x,[]⟩:=by
   cases x<;>(simp only[ym] at h;exact (aS h).symm)
  subst this
  exact .same S (by simp) hv
 | [],_::_,v,x,r,rd,hv,hl,_,h=>by simp at hl
 | _::_,[],v,x,r,rd,hv,hl,_,h=>by simp at hl
 | u::vs,y::xs,v,x,r,rd,hv,hl,hx,h=>by
  cases x<;>cases y<;>simp only[ym] at h<;>first|(cases h;done)|skip
  rename_i k a k' b
  obtain ⟨hc,h4⟩:=aJ h
  clear h
  obtain rfl:k=k':=by simpa using hc
  have hu:=hx 0 u _ rfl rfl
  rw[hv.fq,hu.fq]
  have ih:=L8 S mx (vs:=vs) (xs:=xs) (v:= .int k (bif mx then (if b>a then b else a) else (if b<a then b else a))) .int (by simpa using hl)
   (fun j u y h1 h2=>hx (j+1) u y (by simpa using h1) (by simpa using h2)) h4
  cases mx with
  | true=>simpa[List.foldlM_cons,Builtin.max2] using ih
  | false=>simpa[List.foldlM_cons,Builtin.min2] using ih
theorem sF {n cap:Nat} {isS:Bool} {lo hi:Option V} {lov hiv:Option Value} {k:Nat→Nat→Rd R} {r:R} {rd:List Nat} (hn:n≤cap)
  (jW: ∀x,lo=some x→∃v,lov=some v∧an P w I β hp v x) (iZ: ∀x,hi=some x→∃v,hiv=some v∧an P w I β hp v x) (o9:lo=none→lov=none) (pV:hi=none→hiv=none)
  (h:(ux n lo hi k).run C hp=some (r,rd)): ∃l u,l≤u∧u≤n∧(Instr.sliceBounds isS n cap lov hiv none).run P w= .ok (l,u,cap) w∧(k l u).run C hp=some (r,rd):=by
 have ok: ∀(kk:IntKind) (i:Int) (y:Nat) (c:BoundsCode),0≤i→i≤y→(Instr.sliceBound (.int kk i) y c).run P w= .ok i.toNat w:=by
  intro kk i y c h1 h2
  simp[Instr.sliceBound,asIntOf,h1,h2]
 unfold ux at h
 cases lo with
 | none=>
  rw[o9 rfl]
  cases hi with
  | none=>
   rw[pV rfl]
   exact ⟨0,n,jG _,aE _,by simp[Instr.sliceBounds],h⟩
  | some x=>
   obtain ⟨v,rfl,hv⟩:=iZ x rfl
   cases x<;>simp only at h<;>first|(cases h;done)|skip
   rename_i kk u
   obtain ⟨hc,h⟩:=aJ h
   simp only[aL,dx] at hc
   rw[hv.fq]
   have:=ok kk u cap (if isS then .sliceAcap else .sliceAlen) hc.1 (by omega)
   exact ⟨0,u.toNat,jG _,by omega,by simp[Instr.sliceBounds,this],h⟩
 | some x=>
  obtain ⟨v,rfl,hv⟩:=jW x rfl
  cases hi with
  | none=>
   rw[pV rfl]
   cases x<;>simp only at h<;>first|(cases h;done)|skip
   rename_i kk l
   obtain ⟨hc,h⟩:=aJ h
   simp only[aL,dx] at hc
   rw[hv.fq]
   have:=ok kk l n .sliceB hc.1 (by omega)
   exact ⟨l.toNat,n,by omega,aE _,by simp[Instr.sliceBounds,this],h⟩
  | some y=>
   obtain ⟨v2,rfl,sg⟩:=iZ y rfl
   cases x<;>cases y<;>simp only at h<;>first|(cases h;done)|skip
   rename_i kk l kk2 u
   obtain ⟨hc,h⟩:=aJ h
   simp only[aL,dx] at hc
   rw[hv.fq,sg.fq]
   have h1:=ok kk2 u cap (if isS then .sliceAcap else .sliceAlen) (by omega) (by omega)
   have h2:=ok kk l u.toNat .sliceB hc.1 (by omega)
   exact ⟨l.toNat,u.toNat,by omega,by omega,by simp[Instr.sliceBounds,h1,h2],h⟩
theorem Ht {a:Option Addr} {t e:TypeId} {i:TypeInfo} (hu:P.underlying t=some (.slice e)) (hi:P.info? e=some i) {lov hiv:Option Value}
  (hb:(Instr.sliceBounds true 0 0 lov hiv none).run P w= .ok (0,0,0) w):(Instr.sliceAt t (.slice a 0 0) lov hiv none).run P w= .ok (.slice a 0 0) w:=by
 cases a<;>simp[Instr.sliceAt,Instr.slice,run_underlying hu,hb,sizeOf,typeInfo,hi]
theorem L9 {t e:TypeId} {i:TypeInfo} {b o len cap l u:Nat} (hu:P.underlying t=some (.slice e)) (hi:P.info? e=some i) {lov hiv:Option Value} (huc:u≤cap)
  (hb:(Instr.sliceBounds true len cap lov hiv none).run P w= .ok (l,u,cap) w): ∃o',(0<u-l→o'=o+l*i.size)∧(Instr.sliceAt t (.slice (some ⟨b,o,none⟩) len cap) lov hiv none).run P w= .ok (.slice (some ⟨b,o',none⟩) (u-l) (cap-l)) w:=by
 by_cases hc:cap=l
 ·subst hc
  refine ⟨o,fun h=>by omega,?_⟩
  ·simp[Instr.sliceAt,Instr.slice,run_underlying hu,hb,sizeOf,typeInfo,hi]
 ·refine ⟨o+l*i.size,fun _=>rfl,?_⟩
  simp[Instr.sliceAt,Instr.slice,run_underlying hu,hb,sizeOf,typeInfo,hi,hc,o5]
theorem adC (s:ByteArray) (l:List UInt8) (h:s.data.toList=l) (a b:Nat):(s.extract a b).data.toList=(l.drop a).take (b-a):=by
 subst h
 simp[ByteArray.data_extract]
theorem adD (S:aI P w I β hp B M w0) {t:TypeId} {v:Value} {x:V} {lo hi:Option V} {lov hiv:Option Value} {r:R} {rd:List Nat} (hv:an P w I β hp v x)
  (jW: ∀x,lo=some x→∃v,lov=some v∧an P w I β hp v x) (iZ: ∀x,hi=some x→∃v,hiv=some v∧an P w I β hp v x) (o9:lo=none→lov=none) (pV:hi=none→hiv=none)
  (h:(GL P t x lo hi).run C hp=some (r,rd)):dy P ((Instr.sliceAt t v lov hiv none).run P w) w I β hp B M w0 r:=by
 unfold GL at h
 cases hu:P.underlying t with
 | none=>rw[hu] at h;cases h
 | some d=>
  rw[hu] at h
  cases d<;>simp only at h<;>first|(cases h;done)|skip
  case string=>
   cases x<;>simp only at h<;>first|(cases h;done)|skip
   rename_i l
   obtain ⟨s,rfl,hs⟩:=hv.nU
   have a9:l.length=s.size:=by rw[←hs];simp
   obtain ⟨a,u,h1,h2,h3,h4⟩:=sF (isS:=false) (cap:=s.size) (by omega) jW iZ o9 pV h
   obtain rfl:=aS h4
   rw[a9] at h3
   refine .same S (v:= .string (s.extract a u)) ?_ (.str (adC s l hs a u))
   simp[Instr.sliceAt,Instr.slice,run_underlying hu,h3]
  case slice e=>
   cases x<;>simp only at h<;>first|(cases h;done)|skip
   case list e' es=>
    obtain ⟨hc,h⟩:=aJ h
    simp only[aL,aW] at hc
    obtain ⟨eL,az⟩:=hc
    obtain ⟨i,z,eM,_,a9,_⟩:=lR az
    cases hv with
    | list hp'=>
     cases hp' with
     | nil=>
      obtain ⟨a,u,h1,h2,h3,h4⟩:=sF (n:=0) (isS:=true) (cap:=0) (aE _) jW iZ o9 pV h
      obtain rfl:=aS h4
      obtain rfl:u=0:=by omega
      obtain rfl:a=0:=by omega
      exact .same S (Ht hu eM h3) (by simpa using an.list jO.nil)
     | @emp ad cap=>
      obtain ⟨a,u,h1,h2,h3,h4⟩:=sF (n:=0) (isS:=true) (cap:=cap) (jG _) jW iZ o9 pV h
      obtain rfl:=aS h4
      obtain rfl:u=0:=by omega
      obtain rfl:a=0:=by omega
      refine .same S (v:= .slice (some ad) 0 cap) ?_ (by simpa using an.list jO.emp)
      by_cases hc:cap=0
      ·subst hc
       simp[Instr.sliceAt,Instr.slice,run_underlying hu,h3,sizeOf,typeInfo,eM]
      ·simp[Instr.sliceAt,Instr.slice,run_underlying hu,h3,sizeOf,typeInfo,eM,hc,Addr.add]
     | @list b o len cap _ g hl cx hI ik hx=>
      obtain ⟨a,u,h1,h2,h3,h4⟩:=sF (isS:=true) (cap:=cap) (by omega) jW iZ o9 pV h
      obtain rfl:=aS h4
      rw[hl] at h2 h3
      obtain ⟨o',nQ,dv⟩:=L9 (b:=b) (o:=o) hu eM (by omega) h3
      have iJ:e=e':=eL
      refine .same S dv (.list ?_)
      rw[←iJ]
      rw[←iJ] at ik hx hI
      have hlen:((es.drop a).take (u-a)).length=u-a:=by simp;omega
      refine .list (fun i j=>g (a+i) j) hlen (by omega) (fun h=>hI (lz h (dP _ (by omega)))) (fun i j hi hj=> ?_) (fun i j y t' hy ht=> ?_)
      ·have:=ik (a+i) j (by omega) hj
       rw[eU,pF,←pF o] at this
       rw[nQ (by omega),a9]
       exact this
      ·have hi:i<u-a:=by rw[←hlen];exact (bE.1 hy).1
       rw[ga hi,jg] at hy
       exact hx (a+i) j y t' hy ht
   case whole e' id=>
    obtain ⟨l,h⟩:=run_get h
    cases af:hp id with
    | none=>rw[af] at h;cases h
    | some blk=>
     rw[af] at h
     cases blk<;>simp only at h<;>first|(cases h;done)|skip
     rename_i eH es fz
     obtain ⟨hc,h9⟩:=aJ h
     clear h
     simp only[aL,aW] at hc
     obtain ⟨eL,jQ,az⟩:=hc
     obtain ⟨i,z,eM,_,a9,_⟩:=lR az
     cases hv with
     | fh hd=>rw[af] at hd;cases hd
     | fp hd=>rw[af] at hd;cases hd
     | eJ hd hb=>
      rw[af] at hd
      cases hd
      obtain ⟨a,u,h1,h2,h3,h4⟩:=sF (n:=0) (isS:=true) (cap:=0) (aE _) jW iZ o9 pV h9
      obtain rfl:=aS h4
      obtain rfl:u=0:=by omega
      obtain rfl:a=0:=by omega
      exact .same S (Ht hu eM h3) (.g9 af hb)
     | @whole _ _ aQ oV b cap hd hb B9 cx hm=>
      have fJ:=hd
      rw[af] at hd
      cases hd
      obtain ⟨a,u,h1,h2,h3,h4⟩:=sF (isS:=true) (cap:=cap) cx jW iZ o9 pV h9
      obtain rfl:=aS h4
      obtain ⟨o',nQ,dv⟩:=L9 (b:=b) (o:=0) hu eM (by omega) h3
      have iJ:e=e':=eL
      exact .same S dv (.sub fJ hb (by omega) (by omega) (fun h=>by rw[nQ h,a9,iJ,fe]))
   case sub e' id off len=>
    obtain ⟨l,h⟩:=run_get h
    cases af:hp id with
    | none=>rw[af] at h;cases h
    | some blk=>
     rw[af] at h
     cases blk<;>simp only at h<;>first|(cases h;done)|skip
     rename_i eH es fz
     obtain ⟨hc,h⟩:=aJ h
     simp only[aL,aW] at hc
     obtain ⟨eL,jQ,az⟩:=hc
     obtain ⟨i,z,eM,_,a9,_⟩:=lR az
     cases hv with
     | ij hd=>rw[af] at hd;cases hd
     | g9 hd hb=>
      have fJ:=hd
      obtain ⟨a,u,h1,h2,h3,h4⟩:=sF (isS:=true) (cap:=0) (aE _) jW iZ o9 pV h
      obtain rfl:=aS h4
      obtain rfl:u=0:=by omega
      obtain rfl:a=0:=by omega
      exact .same S (Ht hu eM h3) (.g9 fJ hb)
     | @sub _ _ _ _ aQ oV b o cap hd hb kC cx ho=>
      have fJ:=hd
      obtain ⟨a,u,h1,h2,h3,h4⟩:=sF (isS:=true) (cap:=cap) cx jW iZ o9 pV h
      obtain rfl:=aS h4
      obtain ⟨o',nQ,dv⟩:=L9 (b:=b) (o:=o) hu eM (by omega) h3
      have iJ:e=e':=eL
      exact .same S dv (.sub fJ hb (by omega) (by omega) (fun h=>by rw[nQ h,a9,ho (by omega),iJ,eU]))
theorem adE (S:aI P w I β hp B M w0) {t:TypeId} {v:Value} {x:V} {lo hi mx:Option V} {lov hiv TB:Option Value} {r:R} {rd:List Nat} (hv:an P w I β hp v x)
  (jW:lo=none→lov=none) (iZ: ∀y,hi=some y→∃u,hiv=some u∧an P w I β hp u y) (pP: ∀y,mx=some y→∃u,TB=some u∧an P w I β hp u y)
  (h:(K6 P t x lo hi mx).run C hp=some (r,rd)):dy P ((Instr.sliceAt t v lov hiv TB).run P w) w I β hp B M w0 r:=by
 unfold K6 at h
 cases hu:P.underlying t with
 | none=>rw[hu] at h;cases h
 | some d=>
  rw[hu] at h
  cases d<;>(try (cases h;done))
  rename_i e
  cases lo<;>(try (cases h;done))
  cases hi<;>(try (cases h;done))
  rename_i yS
  cases yS<;>(try (cases h;done))
  cases mx<;>(try (cases h;done))
  rename_i mv1
  cases mv1<;>(try (cases h;done))
  obtain ⟨hc,h9⟩:=aJ h
  clear h
  have h:=h9
  clear h9
  simp only[aL,dx] at hc
  obtain ⟨rfl,rfl,az⟩:=hc
  obtain ⟨i,z,eM,_,_,_⟩:=lR az
  obtain ⟨u1,rfl,k1⟩:=iZ _ rfl
  obtain ⟨u2,rfl,k2⟩:=pP _ rfl
  rw[k1.fq,k2.fq,jW rfl]
  have run: ∀{k k2:IntKind} (a:Option Addr) (len cap:Nat),(Instr.sliceAt t (.slice a len cap) none (some (.int k 0)) (some (.int k2 0))).run P w= .ok (.slice a 0 0) w:=by
   intro k k2 a len cap
   cases a<;>simp[Instr.sliceAt,Instr.slice,Instr.sliceBounds,Instr.sliceBound,asIntOf,run_underlying hu,sizeOf,typeInfo,eM]
  cases x<;>(try (cases h;done))
  ·simp only at h
   obtain rfl:=aS h
   cases hv with
   | list hp'=>cases hp'<;>exact .same S (run _ _ _) .nilS
  ·simp only at h
   obtain rfl:=aS h
   cases hv
   exact .same S (run _ _ _) .nilS
  ·rename_i e' id
   simp only at h
   obtain ⟨l,h⟩:=run_get h
   cases af:hp id with
   | none=>rw[af] at h;cases h
   | some blk=>
    rw[af] at h
    cases blk<;>simp only at h<;>first|(cases h;done)|skip
    all_goals
     obtain rfl:=aS h
     cases hv with
     | fh hd=>rw[af] at hd;cases hd
     | fp hd=>exact .same S (run _ _ _) .nilS
     | eJ hd hb=>exact .same S (run _ _ _) .nilS
     | whole hd=>exact .same S (run _ _ _) .nilS
theorem adF (S:aI P w I β hp B M w0) {t:TypeId} {v ix:Value} {x y:V} {r:R} {rd:List Nat} (hv:an P w I β hp v x) (hy:an P w I β hp ix y)
  (h:(K9 P t x y).run C hp=some (r,rd)):dy P ((Instr.indexAt t v ix).run P w) w I β hp B M w0 r:=by
 unfold K9 at h
 cases hu:P.underlying t with
 | none=>rw[hu] at h;cases h
 | some d=>
  rw[hu] at h
  cases y<;>(try (cases d<;>cases h;done))
  rename_i k i
  rw[hy.fq]
  cases d<;>simp only at h<;>first|(cases h;done)|skip
  case slice e=>
   have run: ∀(b o len cap:Nat) (ie:TypeInfo),P.info? e=some ie→0≤i→i<(len:Int)→(Instr.indexAt t (.slice (some ⟨b,o,none⟩) len cap) (.int k i)).run P w= .ok (.pointer (some ⟨b,o+i.toNat*ie.size,none⟩)) w:=by
    intro b o len cap ie kW h0 h1
    simp[Instr.indexAt,asIntOf,run_underlying hu,h0,h1,sizeOf,typeInfo,kW,o5]
   cases x<;>simp only at h<;>first|(cases h;done)|skip
   case list e' es=>
    obtain ⟨hc,h⟩:=aJ h
    simp only[aL,aW] at hc
    obtain ⟨eL,az⟩:=hc
    have iJ:e=e':=eL
    obtain ⟨ie,z,eM,_,a9,_⟩:=lR az
    obtain ⟨el,dk,h⟩:=m7 h
    obtain rfl:=aS h
    unfold idx at dk
    cases h0:decide (0≤i) with
    | false=>rw[h0] at dk;cases dk
    | true=>
     rw[h0] at dk
     simp only[cond_true] at dk
     have h0':0≤i:=by simpa using h0
     have aX:i.toNat<es.length:=(bE.1 dk).1
     cases hv with
     | list hp'=>
      cases hp' with
      | nil=>simp at aX
      | emp=>simp at aX
      | @list b o len cap _ g hl cx hI ik hx=>
       rw[←iJ] at ik hx hI
       refine .same S (run b o len cap ie eM h0' (by omega)) ?_
       have gG:=yE (P:=P) e el
       have Ma:=gF az
       have TC:(bif bP P e then flat P e else [e])=a8 P e:=rfl
       rw[TC]
       refine .pref (by rw[gG]) (fun _=>hI ?_) (fun j t' y' ht BQ=> ?_)
       ·have:=Nat.mul_pos (show 0<len by omega) (lO az).2
        exact this
       ·obtain ⟨t2,a1,a2⟩:=Lw BQ
        rw[ht] at a1;cases a1
        have hj:j<P.cellsOf e:=by rw[←Ma];exact (bE.1 ht).1
        have iW:=hx i.toNat j el t' dk ht
        refine ⟨g i.toNat j,?_,?_⟩
        ·rw[a9,pF];exact ik i.toNat j (by omega) hj
        ·rw[a2,iW.uH];exact iW
   case whole e' id=>
    obtain ⟨l,h⟩:=run_get h
    cases af:hp id with
    | none=>rw[af] at h;cases h
    | some blk=>
     rw[af] at h
     cases blk<;>simp only at h<;>first|(cases h;done)|skip
     rename_i eH es fz
     obtain ⟨hc,h⟩:=aJ h
     simp only[aL,aW] at hc
     obtain ⟨eL,jQ⟩:=hc
     obtain ⟨fK,h⟩:=aJ h
     simp only[aL,dx] at fK
     obtain rfl:=aS h
     cases hv with
     | fh hd=>rw[af] at hd;cases hd
     | fp hd=>rw[af] at hd;cases hd
     | eJ hd hb=>rw[af] at hd;cases hd;simp at fK;omega
     | @whole _ _ aQ oV b cap hd hb B9 cx hm=>
      have fJ:=hd
      rw[af] at hd
      cases hd
      have hr:=S.h.rel id _ af
      cases hr with
      | eK aB=>rw[aB] at hb;cases hb
      | arr az aB hh hs hf fi hx=>
       have iJ:e=e':=eL
       obtain ⟨ie,z,eM,_,a9,_⟩:=lR az
       rw[←iJ] at eM a9
       refine .same S (run b 0 _ cap ie eM fK.1 fK.2) ?_
       have:=an.ptr (P:=P) (w:=w) (I:=I) (i:=i.toNat) (c:=0) fJ (by simp) hb
       simp only[aj.sz] at this
       rw[fe,a9,iJ]
       simpa using this
     rename_i eH es ao
     obtain ⟨hc,h⟩:=aJ h
     simp only[aL,aW] at hc
     obtain ⟨eL,jQ⟩:=hc
     obtain ⟨fK,h⟩:=aJ h
     simp only[aL,dx] at fK
     obtain rfl:=aS h
     cases hv with
     | fh hd=>rw[af] at hd;cases hd
     | eJ hd hb=>rw[af] at hd;cases hd
     | whole hd=>rw[af] at hd;cases hd
     | @fp _ _ aQ vers' b cap hd hb B9 cx hm=>
      have fJ:=hd
      rw[af] at hd
      cases hd
      have az:=(S.rows fJ hb .here).ok
      have iJ:e=e':=eL
      obtain ⟨ie,z,eM,_,a9,_⟩:=lR az
      rw[←iJ] at eM a9
      refine .same S (run b 0 _ cap ie eM fK.1 fK.2) ?_
      have:=an.ptr (P:=P) (w:=w) (I:=I) (i:=i.toNat) (c:=0) fJ (by simp) hb
      simp only[aj.sz] at this
      rw[fe,a9,iJ]
      simpa using this
   case row e' id ver path=>
    obtain ⟨e0,es,ao,l,af,h1,h2,h3,h⟩:=pO h
    obtain ⟨e2,v',k1,k2,h⟩:=yz h
    obtain ⟨hc,h⟩:=aJ h
    simp only[aL,aW] at hc
    obtain ⟨eL,jQ⟩:=hc
    obtain ⟨fK,h⟩:=aJ h
    simp only[aL,dx] at fK
    obtain rfl:=aS h
    cases hv with
    | kQ hd hp'=>rw[af] at hd;cases hd;exact absurd hp' (yA h1 h2 h3)
    | @row v _ e0 t1 _ ver b i1 c1 q es l1 ao hd hb hq LN ht ik=>
     have adG:=ik
     obtain ⟨b',e3,aQ,Ca,T,f,x,m1,m2,m3,m4,m5,m6⟩:=ik
     have o4:=hd
     rw[af] at o4
     cases o4
     obtain ⟨n1,n2⟩:=G1 m1 m3 m4 ht m5
     rw[n2] at k2
     cases k2
     simp only[V.toList] at fK
     have hR:=S.rows hd hb m1
     obtain ⟨C1,c2,c3,c4⟩:=hR.cells
     rw[m2] at c2
     cases c2
     have hj:c1<P.cellsOf e3:=by
      rw[←gF hR.ok];exact (bE.1 m4).1
     obtain ⟨v2,d1,d2⟩:=c4 _ _ _ _ m3 m4 hj
     rw[m6] at d1
     cases d1
     rw[m5] at d2
     cases d2 with
     | gZ a _=>unfold gV at a;rw[ht] at a;cases a
     | emp _ _=>simp at fK;omega
     | @row _ _ b1 cap _ hl _ _ _=>
      have az:=(S.rows hd hb (m1.snoc m2 m3 m4 ht m5 hl m6)).ok
      have iJ:e=e':=eL
      obtain ⟨ie,z,eM,_,a9,_⟩:=lR az
      rw[←iJ] at eM a9
      refine .same S (run b1 0 _ cap ie eM fK.1 fK.2) ?_
      have:=an.cS (P:=P) (I:=I) (i:=i.toNat) (c:=0) hd hb hq LN ht hl adG
      rw[fe,a9,iJ]
      simpa using this
   case sub e' id off len=>
    obtain ⟨l,h⟩:=run_get h
    cases af:hp id with
    | none=>rw[af] at h;cases h
    | some blk=>
     rw[af] at h
     cases blk<;>simp only at h<;>first|(cases h;done)|skip
     rename_i eH es fz
     obtain ⟨hc,h⟩:=aJ h
     simp only[aL,aW] at hc
     obtain ⟨eL,jQ⟩:=hc
     obtain ⟨fK,h⟩:=aJ h
     simp only[aL,dx] at fK
     obtain rfl:=aS h
     cases hv with
     | ij hd=>rw[af] at hd;cases hd
     | g9 hd hb=>simp at fK;omega
     | @sub _ _ _ _ aQ oV b o cap hd hb kC cx ho=>
      have fJ:=hd
      rw[af] at hd
      cases hd
      have hr:=S.h.rel id _ af
      cases hr with
      | eK aB=>rw[aB] at hb;cases hb
      | arr az aB hh hs hf fi hx=>
       have iJ:e=e':=eL
       obtain ⟨ie,z,eM,_,a9,_⟩:=lR az
       rw[←iJ] at eM a9
       refine .same S (run b o _ cap ie eM fK.1 fK.2) ?_
       have:=an.ptr (P:=P) (w:=w) (I:=I) (i:=off+i.toNat) (c:=0) fJ (by simp) hb
       simp only[aj.sz] at this
       rw[ho (by omega),a9,iJ,←eU]
       simpa using this
  case array n e=>
   have run: ∀(b o:Nat) (ie:TypeInfo),P.info? e=some ie→0≤i→i<(n:Int)→(Instr.indexAt t (.pointer (some ⟨b,o,none⟩)) (.int k i)).run P w= .ok (.pointer (some ⟨b,o+i.toNat*ie.size,none⟩)) w:=by
    intro b o ie kW h0 h1
    simp[Instr.indexAt,asIntOf,run_underlying hu,h0,h1,sizeOf,typeInfo,kW,o5,Instr.sureAddr]
   cases x<;>simp only at h<;>first|(cases h;done)|skip
   case ptr id j c=>
    obtain ⟨⟨blk,af,hd⟩,l,h⟩:=yC h
    obtain ⟨fK,h⟩:=aJ h
    simp only[aL,dx] at fK
    obtain rfl:=aS h
    obtain ⟨b,hb,rfl⟩:=hv.iY af hd
    obtain ⟨d,wk⟩:=BV fK.1
    obtain ⟨ie,kW⟩:=yD wk
    have a9:ie.size=P.cellsOf e:=by simp[Program.cellsOf,kW]
    refine .same S (run b _ ie kW fK.2.1 fK.2.2) ?_
    rw[a9,pF]
    exact .ptr af hd hb
   case pref ts cs=>
    obtain ⟨fK,h⟩:=aJ h
    simp only[aL,dx] at fK
    obtain rfl:=aS h
    obtain ⟨b,o,rfl,h1,h2,h3⟩:=hv.G8
    obtain ⟨d,wk⟩:=BV fK.1
    obtain ⟨ie,kW⟩:=yD wk
    have a9:ie.size=P.cellsOf e:=by simp[Program.cellsOf,kW]
    refine .same S (run b _ ie kW fK.2.1 fK.2.2) ?_
    rw[a9]
    exact an.SS h1 h2 h3
end
end Go.AM
namespace Go.AM
open Go.Maps
section
variable {P:Program} {w w':World} {I I':Nat→Prop} {β av:Nat→Option Nat} {hp hp':Nat→Option aj} {C:ae} {B:Nat} {M:Nat→Prop} {w0:Start}
theorem adH (S:aI P w I β hp B M w0) {nb:Nat} {t:TypeId} {v:Value} {x:V} {lo hi:Option V} {lov hiv:Option Value} {r:R} {rd:List Nat} (hv:an P w I β hp v x)
  (iZ: ∀x,hi=some x→∃v,hiv=some v∧an P w I β hp v x) (o9:lo=none→lov=none)
  (h:(GM P nb t x lo hi).run C hp=some (r,rd)):dy P ((Instr.sliceAt t v lov hiv none).run P w) w I β hp B M w0 r:=by
 unfold GM at h
 split at h
 case h_2=>cases h
 rename_i e e' id k hh hu
 obtain ⟨l,h1⟩:=run_get h
 cases af:hp id with
 | none=>rw[af] at h1;cases h1
 | some blk=>
  rw[af] at h1
  cases blk<;>simp only at h1<;>first|(cases h1;done)|skip
  rename_i e2 es fz
  cases fz with
  | true=>cases h1
  | false=>
  obtain ⟨hc,h2⟩:=aJ h1
  simp only[aL,aW,dx] at hc
  obtain ⟨rfl,rfl,az,TD,TE⟩:=hc
  obtain ⟨hn,rfl⟩:=o8 h2
  have jW:=o9 rfl
  subst jW
  obtain ⟨Mb,rfl,hhv⟩:=iZ _ rfl
  obtain rfl:=hhv.fq
  obtain ⟨i,z,eM,_,a9,_⟩:=lR az
  have bZ:nb≠id:=fun e=>by rw[e,af] at hn;cases hn
  obtain ⟨k1,k2⟩:=G4 S af
  have lS:aO hp id (some aj.dead) nb=none:=by rw[fj _ _ bZ];exact hn
  have TF: ∀cap,es.length≤cap→(Instr.sliceBounds true es.length cap none (some (.int k hh)) none).run P w= .ok (0,hh.toNat,cap) w:=by
   intro cap cx
   have hb:(ux es.length none (some (.int k hh)) fun l u=> .aC (decide (l=0∧u=hh.toNat)) (.ret (⟨.undef,[]⟩:R))).run C hp=some (⟨.undef,[]⟩,[]):=by
    simp[ux,Rd.run,TD,TE]
   obtain ⟨l,u,b1,b2,b3,b4⟩:=sF (P:=P) (w:=w) (I:=I) (β:=β) (hp:=hp) (n:=es.length) (isS:=true) (cap:=cap) (lov:=none) (hiv:=some (.int k hh)) cx (by simp) (fun x hx=>by cases hx;exact ⟨_,rfl,.int⟩) (fun _=>rfl) (by simp) hb
   obtain ⟨b5,_⟩:=aJ b4
   simp only[dx] at b5
   obtain ⟨rfl,rfl⟩:=b5
   exact b3
  cases hv with
  | fh hd=>rw[af] at hd;cases hd
  | fp hd=>rw[af] at hd;cases hd
  | @eJ _ _ _ a0 hd hb=>
   rw[af] at hd
   cases hd
   have LD:hh=0:=by simpa using Int.le_antisymm TE TD
   subst LD
   have aB:=TF 0 (aE _)
   obtain ⟨a1,a2⟩:=G3 k2 e lS
   refine ⟨_,w,I,_,Ht hu eM aB,k1.trans a1,a2,.eJ (dr _ _ _) (dr _ _ _)⟩
  | @whole _ _ aQ oV b cap hd hb B9 cx hm=>
   have fJ:=hd
   rw[af] at hd
   cases hd
   have hr:=S.h.rel id _ af
   cases hr with
   | eK aB=>rw[aB] at hb;cases hb
   | @arr _ _ _ b' Ca _ aB Hu qP hf fi n0=>
    rw[hb] at aB
    cases aB
    have kD:(es.take hh.toNat).length=hh.toNat:=by rw[kj];omega
    have dv:(Instr.sliceAt t (.slice (some ⟨b,0,none⟩) es.length cap) none (some (.int k hh)) none).run P w= .ok (.slice (some ⟨b,0,none⟩) hh.toNat cap) w:=by
     have aB:=TF cap cx
     by_cases Hv:cap=0
     ·subst Hv
      simp[Instr.sliceAt,Instr.slice,run_underlying hu,aB,sizeOf,typeInfo,eM]
     ·simp[Instr.sliceAt,Instr.slice,run_underlying hu,aB,sizeOf,typeInfo,eM,Hv,o5]
    have sm: ∀aF blk',aO hp id (some aj.dead) aF=some blk'→¬bL P w (β aF) blk' b:=by
     intro aF blk' h1 h2
     by_cases jU:aF=id
     ·subst jU;rw[dr] at h1;cases h1;exact h2.alive rfl
     ·rw[fj _ _ jU] at h1
      exact jU (S.h.inj aF id blk' _ b h1 af h2 (.root (by simp) hb))
    obtain ⟨a1,a2⟩:=BP k2 (blk:= .arr e (es.take hh.toNat) false) (w':=w) lS sm (fi rfl) (fun _ _ _=>rfl) (aE _) ⟨rfl,rfl⟩ (S.h.uD id _ b af (by simp) hb)
     (fun b' h=>(dq (h.flat (by simp))).symm) (fun hle=> .arr az rfl Hu (by rw[kD];exact jH (dP _ (by omega)) qP) (fun h=>by cases h) (fun _=>fi rfl) fun i j y t' hy ht hj=>by
      have sE:=(bE.1 hy).1
      rw[kD] at sE
      rw[ga sE] at hy
      obtain ⟨v,hv,hp⟩:=n0 i j y t' hy ht hj
      exact ⟨v,hv,hp.mono hle.dQ hle.cB⟩)
    refine ⟨_,w,I,_,dv,k1.trans a1,a2,?_⟩
    have:=an.whole (P:=P) (w:=w) (I:=I) (β:=aO β nb (some b)) (hp:=aO (aO hp id (some .dead)) nb (some (.arr e (es.take hh.toNat) false))) (cap:=cap) (dr _ _ _) (dr _ _ _) B9 (by rw[kD];omega) hm
    rw[kD] at this
    exact this
theorem sG {t:TypeId} {x:V} (h:qy P t x=true):
  (∃q n,P.underlying t=some (.int q)∧x= .int q n∧dL q n=true)∨(∃b,P.underlying t=some .bool∧x= .bool b)∨(∃s,P.underlying t=some .string∧x= .str s∧s.length≤maxLen):=by
 unfold qy at h
 split at h
 ·rename_i q q' n hu
  simp only[aL,dx] at h
  obtain ⟨rfl,h⟩:=h
  exact .inl ⟨_,_,hu,rfl,h⟩
 ·rename_i b hu
  exact .inr (.inl ⟨_,hu,rfl⟩)
 ·rename_i s hu
  exact .inr (.inr ⟨_,hu,rfl,by simpa using h⟩)
 ·cases h
theorem size_data (s:ByteArray):s.data.toList.length=s.size:=by simp
theorem adI {q:IntKind} {n:Int} (h:dL q n=true):(Lit.int q n).wf=true:=h
theorem TG {t:TypeId} {x:V} {v:Value} (h:qy P t x=true) (hv:kB v x): ∃l,mapKey P t v=some l∧∀d,P.keyLits (d+1) t [v]=some [l]:=by
 rcases sG h with ⟨q,n,hu,rfl,hn⟩|⟨b,hu,rfl⟩|⟨s,hu,rfl,hs⟩
 ·obtain rfl:v= .int q n:=hv
  have hw:=adI hn
  exact ⟨.int q n,by simp[mapKey,hu,hw],fun d=>by simp[Program.keyLits,hu,hw]⟩
 ·obtain rfl:v= .bool b:=hv
  exact ⟨.bool b,by simp[mapKey,hu],fun d=>by simp[Program.keyLits,hu]⟩
 ·obtain ⟨s',rfl,uO⟩:=hv
  have:s'.size≤maxLen:=by rw[←size_data,uO];exact hs
  exact ⟨.string s'.data.toList,by simp[mapKey,hu,this],fun d=>by simp[Program.keyLits,hu,this]⟩
theorem Mc {t:TypeId}: ∀{xs:List V} {j:Nat} {x:V},rW P t xs=true→xs[j]? =some x→qy P t x=true
 | [],j,x,_,h=>by simp at h
 | y::ys,0,x,h,hx=>by
  simp only[rW,aL] at h
  simp at hx;subst hx;exact h.1
 | y::ys,j+1,x,h,hx=>by
  simp only[rW,aL] at h
  exact Mc (j:=j) h.2 (by simpa using hx)
theorem mapM_some {α β:Type} {f:α→Option β}: ∀{l:List α},(∀a∈l,∃b,f a=some b)→∃bs,l.mapM f=some bs
 | [],_=>⟨[],rfl⟩
 | a::l,h=>by
  obtain ⟨b,hb⟩:=h a (uh ..)
  obtain ⟨bs,iX⟩:=mapM_some (l:=l) fun x hx=>h x (nJ _ hx)
  exact ⟨b::bs,by simp[List.mapM_cons,hb,iX]⟩
inductive Md (P:Program) (t:TypeId) (x:V):Prop
 | one:qy P t x=true→x.cells=[x]→Md P t x
 | arr {n:Nat} {e:TypeId} {xs:List V}:x= .agg xs→WideMaps.ArrKey P t e n→xs.length=n→0<P.types.size→rW P e xs=true→Md P t x
theorem yT {t:TypeId} {x:V} (h:oT P t x=true):Md P t x:=by
 unfold oT at h
 split at h
 ·rename_i n e xs hu
  simp only[aL,aW] at h
  rw[lA] at h
  exact .arr rfl ⟨hu,h.2.2.2.1,h.2.1,h.2.2.1⟩ h.1 h.2.2.2.2.1 h.2.2.2.2.2
 ·refine .one h ?_
  rcases sG h with ⟨q,n,hu,rfl,hn⟩|⟨b,hu,rfl⟩|⟨s,hu,rfl,hs⟩<;>rfl
theorem sd.one {x:V} {v:Value} (h:sd v x) (hx:x.cells=[x]):kB v x:=by
 cases x<;>first|exact h|skip
 simp only[V.cells] at hx
 rename_i cs
 have:=congrArg List.length hx
 cases cs with
 | nil=>simp at hx
 | cons c cs=>
  simp only[xY] at hx
  have:=congrArg SizeOf.sizeOf hx.1
  simp at this
  omega
theorem Hw {t:TypeId} {x:V} {v:Value} (h:oT P t x=true) (hv:sd v x): ∃l,Go.keyOf P t v=some l:=by
 cases yT h with
 | one h1 hx=>
  obtain ⟨l,hl,_⟩:=TG h1 (hv.one hx)
  refine ⟨l,?_⟩
  rcases sG h1 with ⟨q,n,hu,_⟩|⟨b,hu,_⟩|⟨s,hu,_⟩<;>simp only[Go.keyOf,hu,hl]
 | @arr n e xs hx A hl hp0 hf=>
  subst hx
  obtain ⟨cs,rfl,hs,hc⟩:=hv
  obtain ⟨m,hm⟩: ∃m,P.types.size=m+1:=⟨P.types.size-1,by omega⟩
  have hkt:=A.keyType ⟨m,hm⟩
  have hlen:cs.toList.length=P.cellsOf t:=by rw[A.size];simp[hs,hl]
  have hfm:(Value.agg cs).formed P t=true:=by simp[Value.formed,A.hu,A.size,hs,hl]
  have hex: ∀i∈List.range n,∃y,P.keyLits (m+1) e (((Value.agg cs).cells.toList.drop (i*P.cellsOf e)).take (P.cellsOf e))=some y:=by
   intro i hi
   have hi:=iR.1 hi
   rw[A.one]
   have im:i<cs.size:=by omega
   have Cc:i<xs.length:=by omega
   obtain ⟨l,_,h2⟩:=TG (Mc hf (bM Cc)) (hc i cs[i] xs[i] (mh im) (bM Cc))
   have e1:((Value.agg cs).cells.toList.drop (i*1)).take 1=[cs[i]]:=by
    show (cs.toList.drop (i*1)).take 1=_
    rw[oO,List.drop_eq_getElem_cons (by simpa using im)]
    simp
   rw[e1]
   exact ⟨_,h2 m⟩
  obtain ⟨bs,iX⟩:=mapM_some hex
  refine ⟨.string (keyBytes bs.flatten),?_⟩
  have TH:(Value.agg cs).cells.toList.length=P.cellsOf t:=hlen
  unfold Go.keyOf
  rw[A.hu]
  simp only[hkt,hfm,A4,gy]
  unfold Program.keyLits
  rw[A.hu,hm]
  simp only[TH,gy,iX,Option.map_some]
theorem Me {t:TypeId} {x:V} (h:oT P t x=true):Keyed P t:=by
 cases yT h with
 | one h1 hx=>
  rcases sG h1 with ⟨q,n,hu,_⟩|⟨b,hu,_⟩|⟨s,hu,_⟩
  ·exact int_keyed hu
  ·exact bool_keyed hu
  ·exact string_keyed hu
 | arr hx A hl _ hf=>exact Keyed.of_law A.law
theorem TI {t:TypeId} {x y:V} {v u:Value} (h1:qy P t x=true) (h2:qy P t y=true) (hv:kB v x) (hu:kB u y):uv x y=true↔v=u:=by
 rcases sG h1 with ⟨q,n,n8,rfl,_⟩|⟨b,n8,rfl⟩|⟨s,n8,rfl,_⟩<;>
 rcases sG h2 with ⟨q',n',qR,rfl,_⟩|⟨b',qR,rfl⟩|⟨s',qR,rfl,_⟩<;>
  (rw[n8] at qR;cases qR)
 ·obtain rfl:v= .int q n:=hv
  obtain rfl:u= .int q n':=hu
  simp[uv]
 ·obtain rfl:v= .bool b:=hv
  obtain rfl:u= .bool b':=hu
  simp[uv]
 ·obtain ⟨s1,rfl,e1⟩:=hv
  obtain ⟨s2,rfl,e2⟩:=hu
  simp only[uv,beq_iff_eq,Value.string.injEq,←e1,←e2]
  constructor
  ·intro h
   have:=Array.toList_inj.1 h
   cases s1;cases s2;simp_all
  ·rintro rfl;rfl
theorem TJ {t:TypeId}: ∀{xs ys:List V} {vs us:List Value},rW P t xs=true→rW P t ys=true→xs.length=ys.length→vs.length=xs.length→us.length=ys.length→
  (∀(j:Nat) v x,vs[j]? =some v→xs[j]? =some x→kB v x)→(∀(j:Nat) v x,us[j]? =some v→ys[j]? =some x→kB v x)→(qx xs ys=true↔vs=us)
 | [],[],vs,us,_,_,_,h1,h2,_,_=>by
  have e1:=oK (l:=vs) (by simpa using h1)
  have e2:=oK (l:=us) (by simpa using h2)
  simp[qx,e1,e2]
 | [],_::_,_,_,_,_,h,_,_,_,_=>by simp at h
 | _::_,[],_,_,_,_,h,_,_,_,_=>by simp at h
 | x::xs,y::ys,[],us,_,_,_,h,_,_,_=>by simp at h
 | x::xs,y::ys,v::vs,[],_,_,_,_,h,_,_=>by simp at h
 | x::xs,y::ys,v::vs,u::us,f1,f2,h,h1,h2,r1,r2=>by
  simp only[rW,aL] at f1 f2
  have a:=TI f1.1 f2.1 (r1 0 v x rfl rfl) (r2 0 u y rfl rfl)
  have b:=TJ (vs:=vs) (us:=us) f1.2 f2.2 (by simpa using h) (by simpa using h1) (by simpa using h2) (fun j v x hj hx=>r1 (j+1) v x (by simpa using hj) (by simpa using hx)) (fun j v x hj hx=>r2 (j+1) v x (by simpa using hj) (by simpa using hx))
  simp only[qx,aL,a,b,xY]
theorem Mf {t:TypeId} {x y:V} {v u:Value} (h1:oT P t x=true) (h2:oT P t y=true) (hv:sd v x) (hu:sd u y):kq x y=true↔v=u:=by
 unfold kq
 cases yT h1 with
 | one f1 c1=>
  cases yT h2 with
  | one f2 c2=>
   rw[c1,c2]
   simp only[qx,Bool.and_true]
   exact TI f1 f2 (hv.one c1) (hu.one c2)
  | arr hy A hl _ hf=>
   rcases sG f1 with ⟨q,n,n8,_⟩|⟨b,n8,_⟩|⟨s,n8,_⟩<;>(rw[A.hu] at n8;cases n8)
 | arr hx A hl _ hf=>
  cases yT h2 with
  | one f2 c2=>
   rcases sG f2 with ⟨q,n,n8,_⟩|⟨b,n8,_⟩|⟨s,n8,_⟩<;>(rw[A.hu] at n8;cases n8)
  | arr hy A2 uj _ hf2=>
   have iJ:=A.hu.symm.trans A2.hu
   cases iJ
   subst hx
   subst hy
   obtain ⟨cs,rfl,s1,r1⟩:=hv
   obtain ⟨ds,rfl,s2,r2⟩:=hu
   have:=TJ (vs:=cs.toList) (us:=ds.toList) hf hf2 (by omega) (by simpa using s1) (by simpa using s2) (fun j v x hj hx=>r1 j v x (by simpa using hj) hx) (fun j v x hj hx=>r2 j v x (by simpa using hj) hx)
   simp only[V.cells,this,Value.agg.injEq]
   exact Array.toList_inj
theorem TK {k:V}: ∀{es:List V},(∀x∈es,kq k (x.comp 0)=false)→iF k es=false∧(∀z,ku k es z=z)∧∀v,gB k v es=es++[.bw [k,v]]
 | [],_=>⟨rfl,fun _=>rfl,fun _=>rfl⟩
 | e::es,h=>by
  have h0:=h e (uh ..)
  obtain ⟨a,b,c⟩:=TK (k:=k) (es:=es) fun x hx=>h x (nJ _ hx)
  exact ⟨by simp[iF,h0,a],fun z=>by simp[ku,h0,b],fun v=>by simp[gB,h0,c]⟩
theorem TL {k:V}: ∀{es:List V} {j:Nat} {k' y:V},es[j]? =some (.bw [k',y])→kq k k'=true→(∀i x,i<j→es[i]? =some x→kq k (x.comp 0)=false)→
  iF k es=true∧(∀z,ku k es z=y)∧∀v,gB k v es=es.set j (.bw [k',v])
 | [],j,k',y,h,_,_=>by simp at h
 | e::es,0,k',y,h,he,_=>by
  simp at h
  subst h
  exact ⟨by simp[iF,V.comp,V.nth,he],fun z=>by simp[ku,V.comp,V.nth,he],fun v=>by simp[gB,V.comp,V.nth,he]⟩
 | e::es,j+1,k',y,h,he,aX=>by
  have h0:=aX 0 e (by omega) rfl
  obtain ⟨a,b,c⟩:=TL (k:=k) (es:=es) (j:=j) (by simpa using h) he fun i x hi hx=>aX (i+1) x (by omega) (by simpa using hx)
  exact ⟨by simp[iF,h0,a],fun z=>by simp[ku,h0,b],fun v=>by simp[gB,h0,c]⟩
theorem TM {kt vt:TypeId} {E:Array MapEntry} {es:List V} {k:V} {kv:Value} (hs:E.size=es.length) (hx: ∀(j:Nat) (e:MapEntry) (x:V),E[j]? =some e→es[j]? =some x→GW P kt vt e x)
  (hn:E.toList.Pairwise (fun a b=>a.key≠b.key)) (hk:oT P kt k=true) (Hy:sd kv k) (w:World):
  ((Instr.findKey kt kv E.toList).run P w= .ok none w∧(∀e∈E.toList,e.key≠kv)∧iF k es=false∧(∀z,ku k es z=z)∧∀v,gB k v es=es++[.bw [k,v]])∨
  ∃j e k' y,(Instr.findKey kt kv E.toList).run P w= .ok (some (j,e.val)) w∧E[j]? =some e∧e.key=kv∧es[j]? =some (.bw [k',y])∧oT P kt k'=true∧sd kv k'∧fv P vt y=true∧kB e.val y∧
   iF k es=true∧(∀z,ku k es z=y)∧∀v,gB k v es=es.set j (.bw [k',v]):=by
 have K:=Me hk
 obtain ⟨l,hl⟩:=Hw hk Hy
 have TN: ∀(j:Nat) x,es[j]? =some x→∃e,E[j]? =some e∧GW P kt vt e x:=by
  intro j x hj
  have aX:j<E.size:=by rw[hs];exact (bE.1 hj).1
  exact ⟨E[j],mh aX,hx j _ x (mh aX) hj⟩
 have keys: ∀e∈E.toList,∃l,Go.keyOf P kt e.key=some l:=by
  intro e he
  obtain ⟨j,hj⟩:=uf he
  have hG:E[j]? =some e:=by simpa using hj
  have aX:j<es.length:=by rw[←hs];exact (jh.1 hG).1
  obtain ⟨k',y,_,h1,h2,_⟩:=hx j e es[j] hG (bM aX)
  exact Hw h1 h2
 rcases K.find w hl E.toList keys with ⟨h1,h2⟩|⟨j,e,h1,h2,h3⟩
 ·left
  refine ⟨h1,h2,TK fun x hxm=> ?_⟩
  obtain ⟨j,hj⟩:=uf hxm
  obtain ⟨e,he,k',y,rfl,f1,f2,_⟩:=TN j x hj
  cases hq:kq k (V.comp (.bw [k',y]) 0) with
  | false=>rfl
  | true=>
   have:=(Mf hk f1 Hy f2).1 hq
   exact absurd this.symm (h2 e (kh (by simpa using he)))
 ·right
  have hE:E[j]? =some e:=by simpa using h2
  have aX:j<es.length:=by rw[←hs];exact (jh.1 hE).1
  obtain ⟨k',y,hy,f1,f2,f3,f4⟩:=hx j e es[j] hE (bM aX)
  have hj:=bM aX
  rw[hy] at hj
  rw[h3] at f2
  refine ⟨j,e,k',y,h1,hE,h3,hj,f1,f2,f3,f4,TL hj ((Mf hk f1 Hy f2).2 rfl) fun i x hi iG=> ?_⟩
  obtain ⟨e',wh,k2,y2,rfl,g1,g2,_⟩:=TN i x iG
  cases hq:kq k (V.comp (.bw [k2,y2]) 0) with
  | false=>rfl
  | true=>
   have:=(Mf hk g1 Hy g2).1 hq
   have i1:i<E.toList.length:=by have:=(bE.1 iG).1;simp;omega
   have i2:j<E.toList.length:=by simp;omega
   have:=vw.1 hn i j i1 i2 hi
   have a1:E.toList[i]=e':=by
    have:E.toList[i]? =some e':=by simpa using wh
    rw[bM i1] at this;exact dq this
   have a2:E.toList[j]=e:=by
    have:=h2
    rw[bM i2] at this;exact dq this
   rw[a1,a2,h3] at this
   exact absurd (by rw[← ‹kv=e'.key›]) this
theorem an.TO {v:Value} {x:V} (h:an P w I β hp v x) {t:TypeId} (hx:qy P t x=true):kB v x:=by
 rcases sG hx with ⟨q,n,_,rfl,_⟩|⟨b,_,rfl⟩|⟨s,_,rfl,_⟩
 ·exact h.fq
 ·exact h.kU
 ·exact h.nU
theorem an.TP {v:Value} {x:V} (h:an P w I β hp v x) {t:TypeId} (hx:oT P t x=true):sd v x:=by
 cases yT hx with
 | one f c=>
  have:=h.TO f
  cases x<;>first|exact this|cases this
 | arr hx A hl _ hf=>
  subst hx
  obtain ⟨cs,rfl,h1,h2⟩:=h.mr
  exact ⟨cs,rfl,h1,fun j u y hu hy=>(h2 j u y hu hy).TO (Mc hf hy)⟩
theorem TQ {vt:TypeId} {y:V} (h:mapVal P vt=true) (ht:fv P vt y=true):(∃q n,P.underlying vt=some (.int q)∧y= .int q n)∨∃b,P.underlying vt=some .bool∧y= .bool b:=by
 unfold mapVal at h
 unfold fv at ht
 split at h
 ·rename_i q hu
  rw[hu] at ht
  cases y<;>first|(simp at ht;done)|skip
  simp only[dx] at ht
  subst ht
  exact .inl ⟨_,_,hu,rfl⟩
 ·rename_i hu
  rw[hu] at ht
  cases y<;>first|(simp at ht;done)|skip
  exact .inr ⟨_,hu,rfl⟩
 ·cases h
theorem kB.Mg {vt:TypeId} {v:Value} {y:V} (h:mapVal P vt=true) (ht:fv P vt y=true) (hv:kB v y):an P w I β hp v y:=by
 rcases TQ h ht with ⟨q,n,_,rfl⟩|⟨b,_,rfl⟩
 ·obtain rfl:v= .int q n:=hv;exact .int
 ·obtain rfl:v= .bool b:=hv;exact .bool
theorem an.adJ {vt:TypeId} {v:Value} {y:V} (h:mapVal P vt=true) (ht:fv P vt y=true) (hv:an P w I β hp v y):kB v y:=by
 rcases TQ h ht with ⟨q,n,_,rfl⟩|⟨b,_,rfl⟩
 ·exact hv.fq
 ·exact hv.kU
theorem adK {vt:TypeId} {z:V} (h:GH P vt=some z) (w:World): ∃v,(zeroValue vt).run P w= .ok v w∧kB v z:=by
 unfold GH at h
 cases hi:P.info? vt with
 | none=>rw[hi] at h;cases h
 | some i=>
  rw[hi] at h
  simp only[Option.bind_some] at h
  cases hz:i.zero with
  | none=>rw[hz] at h;cases h
  | some v=>
   rw[hz] at h
   refine ⟨v,by simp[zeroValue,typeInfo,hi,hz],?_⟩
   cases v<;>simp only at h<;>first|(cases h;done)|skip
   ·cases h;rfl
   ·cases h;rfl
theorem Mh {t kt vt:TypeId} (h:mX P t=some (kt,vt)):P.underlying t=some (.map kt vt):=by
 unfold mX at h
 split at h
 ·rename_i k e hu;cases h;exact hu
 ·cases h
theorem Mi (S:aI P w I β hp B M w0) {ok:Bool} {v:Value} {x:V} {b:Bool} {r:R} {rd:List Nat} {res:Result Value} (hv:an P w I β hp v x)
  (hr:res= .ok (if ok then .tuple #[v,.bool b] else v) w) (h:(GI ok x b).run C hp=some (r,rd)):dy P res w I β hp B M w0 r:=by
 unfold GI at h
 obtain rfl:=aS h
 cases ok with
 | false=>exact .same S hr hv
 | true=>
  refine .same S hr (.bw rfl fun j u y hu hy=> ?_)
  match j,hu,hy with
  | 0,hu,hy=>simp at hu hy;subst hu;subst hy;exact hv
  | 1,hu,hy=>simp at hu hy;subst hu;subst hy;exact .bool
  | j+2,hu,hy=>simp at hy
theorem adL (S:aI P w I β hp B M w0) {t kt vt:TypeId} (ht:mX P t=some (kt,vt)) {m k:Value} {mx kx:V} {ok:Bool} {r:R} {rd:List Nat} (hm:an P w I β hp m mx) (hk:an P w I β hp k kx)
  (h:(K1 P t mx kx ok).run C hp=some (r,rd)):dy P ((Instr.lookup t m k ok).run P w) w I β hp B M w0 r:=by
 unfold K1 at h
 rw[ht] at h
 simp only at h
 cases hz:GH P vt with
 | none=>rw[hz] at h;cases h
 | some z=>
  rw[hz] at h
  obtain ⟨hc,h'⟩:=aJ h
  clear h
  have h:=h'
  clear h'
  simp only[aL] at hc
  obtain ⟨qS,Ce,Hz⟩:=hc
  have hu:=Mh ht
  have yU:=hk.TP qS
  have K:=Me qS
  obtain ⟨l,hl⟩:=Hw qS yU
  obtain ⟨zv,TR,TS⟩:=adK hz w
  cases mx<;>simp only at h<;>first|(cases h;done)|skip
  ·rename_i t' id
   obtain ⟨lQ,h'⟩:=aJ h
   clear h
   have h:=h'
   clear h'
   rw[aW] at lQ
   subst lQ
   obtain ⟨l2,h'⟩:=run_get h
   clear h
   have h:=h'
   clear h'
   cases af:hp id with
   | none=>rw[af] at h;cases h
   | some blk=>
    rw[af] at h
    cases blk<;>simp only at h<;>first|(cases h;done)|skip
    rename_i t2 es
    obtain ⟨lQ,h'⟩:=aJ h
    clear h
    have h:=h'
    clear h'
    rw[aW] at lQ
    subst lQ
    cases hm with
    | js hd=>rw[af] at hd;cases hd
    | @cb _ _ b aQ hd hb=>
     rw[af] at hd
     cases hd
     have hr:=S.h.rel id _ af
     cases hr with
     | @map _ TT TU _ b' clock E hO aB hh hs hI hx hn=>
      rw[hb] at aB;cases aB
      rw[hu] at hO;cases hO
      rcases TM hs hx hn qS yU w with ⟨h1,_,h3,h4,_⟩|⟨j,e,k',y,h1,_,_,_,_,_,h6,h7,h3,h4,_⟩
      ·rw[h3,h4,BU Hz] at h
       refine Mi S (kB.Mg Ce Hz TS) ?_ h
       unfold Instr.lookup
       simp only[Sem.run_bind,run_underlying hu,Result.andThen_ok,Go.MapKept.run_getObj_map hh,Sem.run_pure,K.check w E.isEmpty hl,h1,TR]
      ·rw[h3,h4,BU h6] at h
       refine Mi S (kB.Mg Ce h6 h7) ?_ h
       unfold Instr.lookup
       simp only[Sem.run_bind,run_underlying hu,Result.andThen_ok,Go.MapKept.run_getObj_map hh,Sem.run_pure,K.check w E.isEmpty hl,h1]
  ·rename_i t'
   obtain ⟨lQ,h⟩:=aJ h
   cases hm
   rw[BU Hz] at h
   refine Mi S (kB.Mg Ce Hz TS) ?_ h
   have hf:(Instr.findKey kt k []).run P w= .ok none w:=by
    rcases K.find w hl [] (by simp) with ⟨h1,_⟩|⟨j,e,_,h2,_⟩
    ·exact h1
    ·simp at h2
   unfold Instr.lookup
   simp[run_underlying hu,K.check w true hl,hf,TR]
theorem adM (S:aI P w I β hp B M w0) {t:TypeId} {nb:Nat} {r:R} {rd:List Nat} (h:(Rd.aC (mX P t).isSome (ky nb (.map t []) (.cb t nb) [])).run C hp=some (r,rd)):
  dy P ((Instr.makeMap t none).run P w) w I β hp B M w0 r:=by
 obtain ⟨ht,h⟩:=aJ h
 obtain ⟨hn,rfl⟩:=o8 h
 obtain ⟨⟨kt,vt⟩,ht⟩:=Option.isSome_iff_exists.1 ht
 have hu:=Mh ht
 have dh: ¬I w.heap.size:=fun h=>Nat.lt_irrefl _ (S.h.kS _ h)
 have fR:(w.alloc (.map #[] 0)).heap[w.heap.size]? =some (.map #[] 0):=heap_alloc_new w _
 obtain ⟨a1,a2⟩:=BP S (w':=w.alloc (.map #[] 0)) (blk:= .map t []) (b:=w.heap.size) hn (fun aF blk' h ho=>Nat.lt_irrefl _ (S.h.lt h ho)) dh
  (fun b' _ aX=>heap_alloc_old w _ b' aX) (by simp) ⟨rfl,rfl⟩ (.inr S.size) (fun b' h=>(dq (h.flat (by simp))).symm)
  (fun _=> .map hu rfl fR rfl dh (fun j e x he _=>by simp at he) (by simp))
 exact ⟨_,_,_,_,Go.RowKit.run_makeMap t w,a1,a2,.cb (dr _ _ _) (dr _ _ _)⟩
theorem TV (S:aI P w I β hp B M w0) {t kt vt:TypeId} (ht:mX P t=some (kt,vt)) {m k v:Value} {mx kx vx:V} {r:R} {rd:List Nat} (hm:an P w I β hp m mx) (hk:an P w I β hp k kx) (hv:an P w I β hp v vx)
  (h:(GJ P t mx kx vx).run C hp=some (r,rd)):qH P ((Instr.mapUpdate t m k v).run P w) w I β hp B M w0 r:=by
 unfold GJ at h
 rw[ht] at h
 obtain ⟨hc,h'⟩:=aJ h
 clear h
 have h:=h'
 clear h'
 simp only[aL] at hc
 obtain ⟨qS,Ce,wm⟩:=hc
 have hu:=Mh ht
 have yU:=hk.TP qS
 have yG:=an.adJ Ce wm hv
 have K:=Me qS
 obtain ⟨l,hl⟩:=Hw qS yU
 cases mx<;>simp only at h<;>first|(cases h;done)|skip
 rename_i t' id
 obtain ⟨lQ,h'⟩:=aJ h
 clear h
 have h:=h'
 clear h'
 rw[aW] at lQ
 subst lQ
 obtain ⟨l2,h'⟩:=run_get h
 clear h
 have h:=h'
 clear h'
 cases af:hp id with
 | none=>rw[af] at h;cases h
 | some blk=>
  rw[af] at h
  cases blk<;>simp only at h<;>first|(cases h;done)|skip
  rename_i t2 es
  obtain ⟨lQ,h'⟩:=aJ h
  clear h
  have h:=h'
  clear h'
  rw[aW] at lQ
  subst lQ
  obtain rfl:=aS h
  cases hm with
  | js hd=>rw[af] at hd;cases hd
  | @cb _ _ b aQ hd hb=>
   rw[af] at hd
   cases hd
   have hr:=S.h.rel id _ af
   cases hr with
   | @map _ TT TU _ b' clock E hO aB hh hs hI hx hn=>
    rw[hb] at aB;cases aB
    rw[hu] at hO;cases hO
    have aX:b<w.heap.size:=(jh.1 hh).1
    have fin: ∀(E':Array MapEntry) (Cf:Nat),(Instr.mapUpdate t (.map (some b)) k v).run P w= .ok () {w with heap:=w.heap.setIfInBounds b (.map E' Cf)}→E'.size=(gB kx vx es).length→
      (∀(j:Nat) (e:MapEntry) (x:V),E'[j]? =some e→(gB kx vx es)[j]? =some x→GW P kt vt e x)→E'.toList.Pairwise (fun a b=>a.key≠b.key)→
      qH P ((Instr.mapUpdate t (.map (some b)) k v).run P w) w I β hp B M w0 ⟨.undef,[(id,.map t (gB kx vx es))]⟩:=by
     intro E' Cf dv uO cP Cg
     have fR:({w with heap:=w.heap.setIfInBounds b (.map E' Cf)}:World).heap[b]? =some (.map E' Cf):=by simp[aX]
     obtain ⟨a1,a2⟩:=G5 S (w':={w with heap:=w.heap.setIfInBounds b (.map E' Cf)}) (blk':= .map t (gB kx vx es)) af (by simp) rfl hb hI (by simp)
      (fun b' aB=>by simp[Array.getElem?_setIfInBounds,Ne.symm aB]) (by simp only[bsize,fR,hh]) (by simp) ⟨rfl,rfl⟩ (fun _=> .map hu rfl fR uO hI cP Cg)
     exact ⟨_,I,β,dv,a1,a2,rfl⟩
    rcases TM hs hx hn qS yU w with ⟨h1,h2,_,_,h5⟩|⟨j,e,k',y,h1,hE,TW,hes,adN,adO,_,_,_,_,h5⟩
    ·have e5:=h5 vx
     refine fin (E.push {key:=k,val:=v,born:=clock}) (clock+1) ?_ (by rw[e5];simp[hs]) (fun j e x he sr=> ?_) ?_
     ·unfold Instr.mapUpdate
      simp only[Sem.run_bind,run_underlying hu,Result.andThen_ok,Go.MapKept.run_getObj_map hh,K.check w false hl,h1,Go.MapKept.run_setObj_map _ hh]
     ·rw[e5] at sr
      rw[Array.getElem?_push] at he
      split at he
      ·rename_i hj
       rw[lC (by omega),hj,hs,Nat.sub_self] at sr
       simp at he sr
       subst he;subst sr
       exact ⟨kx,vx,rfl,qS,yU,wm,yG⟩
      ·have hj:j<E.size:=(jh.1 he).1
       rw[lB (by omega)] at sr
       exact hx j e x he sr
     ·rw[Array.toList_push,Gr]
      refine ⟨hn,by simp,fun a ha b' aB=> ?_⟩
      simp only[iO] at aB
      subst aB
      exact h2 a ha
    ·have e5:=h5 vx
     have hj:j<E.size:=(jh.1 hE).1
     refine fin (E.modify j fun e=>{e with key:=k,val:=v}) clock ?_ (by rw[e5];simp[hs]) (fun i e' x he iG=> ?_) ?_
     ·have cd:=K.stays w hl
      unfold Instr.mapUpdate
      simp only[Sem.run_bind,run_underlying hu,Result.andThen_ok,Go.MapKept.run_getObj_map hh,K.check w false hl,h1]
      simp only[hE,Option.map_some,Option.getD_some,TW,cd,Result.andThen_ok,Go.MapKept.run_setObj_map _ hh]
     ·rw[e5] at iG
      rw[A5] at he
      rw[xW] at iG
      split at he
      ·rename_i sH
       subst sH
       rw[ag rfl,ag (by omega)] at iG
       rw[hE] at he
       simp at he iG
       subst he;subst iG
       exact ⟨k',vx,rfl,adN,adO,wm,yG⟩
      ·rename_i sH
       rw[ah sH] at iG
       exact hx i e' x he iG
     ·have TX: ∀i (h1:i<(E.modify j fun e=>{e with key:=k,val:=v}).toList.length) (h2:i<E.toList.length),((E.modify j fun e=>{e with key:=k,val:=v}).toList[i]).key=(E.toList[i]).key:=by
       intro i h1 h2
       simp only[Array.getElem_toList,Array.getElem_modify]
       split
       ·rename_i sH
        subst sH
        have:=(jh.1 hE).2
        rw[this,TW]
       ·rfl
      rw[vw] at hn⊢
      intro i i' h1 h2 jU
      have g1:i<E.toList.length:=by simpa using h1
      have g2:i'<E.toList.length:=by simpa using h2
      rw[TX i h1 g1,TX i' h2 g2]
      exact hn i i' g1 g2 jU
theorem adP (S:aI P w I β hp B M w0) {t ty kt vt:TypeId} {v:Value} {x:V} {r:R} {rd:List Nat} (hu:P.underlying t=some (.map kt vt)) (hv:an P w I β hp v x)
  (h:(GK x).run C hp=some (r,rd)):dy P ((Builtin.len_ #[t] ty #[v]).run P w) w I β hp B M w0 r:=by
 unfold GK at h
 cases x<;>simp only at h<;>first|(cases h;done)|skip
 ·rename_i t' id
  obtain ⟨l2,h'⟩:=run_get h
  clear h
  have h:=h'
  clear h'
  cases af:hp id with
  | none=>rw[af] at h;cases h
  | some blk=>
   rw[af] at h
   cases blk<;>simp only at h<;>first|(cases h;done)|skip
   rename_i t2 es
   obtain rfl:=aS h
   cases hv with
   | js hd=>rw[af] at hd;cases hd
   | @cb _ _ b aQ hd hb=>
    rw[af] at hd
    cases hd
    have hr:=S.h.rel id _ af
    cases hr with
    | @map _ TT TU _ b' clock E hO aB hh hs hI hx hn=>
     rw[hb] at aB;cases aB
     refine .same S (v:= .int .i64 E.size) (by simp[Builtin.len_,run_underlying hu,Go.MapKept.run_getObj_map hh,goInt]) ?_
     rw[hs]
     exact .int
 ·obtain rfl:=aS h
  cases hv
  exact .same S (v:= .int .i64 0) (by simp[Builtin.len_,run_underlying hu,goInt]) .int
theorem an.Mj {v:Value} {t:TypeId} (h:an P w I β hp v (.ed t)):v= .map none:=by cases h;rfl
theorem an.adQ {v:Value} {t t':TypeId} {id:Nat} {es:List V} (h:an P w I β hp v (.cb t id)) (af:hp id=some (.map t' es)): ∃b,v= .map (some b):=by
 cases h with
 | js h=>rw[af] at h;cases h
 | cb h hb=>exact ⟨_,rfl⟩
theorem TY (S:aI P w I β hp B M w0) {op:BinOp} {t:TypeId} {a:Option Nat} {r:R} {rd:List Nat} (x y:Operand)
  (h:(GD P op t a.isNone).run C hp=some (r,rd)):dy P ((do eqGuard op t x y (.map a) (.map none);binOp op t (.map a) (.map none)).run P w) w I β hp B M w0 r:=by
 unfold GD at h
 split at h
 case h_2=>cases h
 rename_i kt vt hu
 have he:(Op.equal t (.map a) (.map none)).run P w= .ok a.isNone w:=by
  show (Op.equalIn (9999+1) t (.map a) (.map none)).run P w=_
  rw[Op.equalIn]
  cases a<;>simp[Sem.run_bind,run_underlying hu,Result.andThen_ok,Sem.run_pure]
 cases op<;>simp only at h<;>first|(cases h;done)|skip
 ·obtain rfl:=aS h
  exact .same S (by simp[eqGuard,binOp,he]) .bool
 ·obtain rfl:=aS h
  exact .same S (by simp[eqGuard,binOp,he]) .bool
end
end Go.AM
namespace Go.AM
section
variable {P:Program} {w w':World} {I I':Nat→Prop} {β av:Nat→Option Nat} {hp hp':Nat→Option aj} {C:ae} {B:Nat} {M:Nat→Prop} {w0:Start}
theorem adR {e:TypeId} (he:P.underlying e=some (.int .u8)) (hc:P.cellsOf e=1) (s:ByteArray): ∀(i j:Nat) (x:V) (t':TypeId),(s.data.toList.map Bx)[i]? =some x→(a8 P e)[j]? =some t'→j<P.cellsOf e→
  ∃u,(Lib.strCells s)[i*P.cellsOf e+j]? =some u∧Pure P w I t' u (bW P e x j):=by
 intro i j x t' hx ht hj
 have pb:bP P e=false:=by simp[bP,he]
 obtain rfl:j=0:=by omega
 simp only[a8,pb,cond_false,List.getElem?_cons_zero,ez] at ht
 subst ht
 rw[fF] at hx
 cases hb:s.data.toList[i]? with
 | none=>rw[hb] at hx;cases hx
 | some b=>
  rw[hb] at hx
  cases hx
  refine ⟨.int .u8 b.toNat,?_,?_⟩
  ·rw[hc,oO,Nat.add_zero]
   simp only[Lib.strCells,fF,hb,Option.map_some]
  ·simp only[bW,pb,cond_false]
   exact .int he
theorem adS (w:World) (t u ty e:TypeId) (i:TypeInfo) (z:Value) (ht:P.underlying t=some (.slice e)) (hu:P.underlying u=some .string) (hi:P.info? e=some i) (hz:i.zero=some z)
  (s:ByteArray) (h0:0<s.size) (Hr:(s.size:Int)≤9223372036854775807) (Hs:s.size*i.bytes≤281474976710656) (a0:Option Addr):
  (Builtin.append_ #[t,u] ty #[.slice a0 0 0,.string s]).run P w=
   .ok (.slice (some ⟨w.heap.size,0,none⟩) s.size (grownCap w s.size 0 e))
    (w.drew.alloc (.cells (s.data.map (fun b=>Value.int .u8 b.toNat)++Builtin.zeroCells z.cells (grownCap w s.size 0 e-s.size)) e)):=by
 cases a0 with
 | none=>exact run_append_nil_string w t u ty e i z ht hu hi hz s h0 Hr Hs
 | some b=>
  rw[←run_append_nil_string w t u ty e i z ht hu hi hz s h0 Hr Hs]
  have hn:s.size≠0:=by omega
  have adT: ¬(9223372036854775807<(s.size:Int)):=by omega
  have adU: ¬(281474976710656<Builtin.nextslicecap s.size 0*i.bytes):=by rw[nextslicecap_zero h0];omega
  simp[Builtin.append_,run_underlying ht,run_underlying hu,sizeOf,typeInfo,zeroValue,hi,hz,Builtin.lenOf,Builtin.firstCells,hn,adT,adU,Question.forced,newRow,grownCap,loadCells,loadCellsFrom]
theorem TZ (S:aI P w I β hp B M w0) {t u ty e:TypeId} {nb:Nat} {x:ByteArray} {xs:List V} {i:TypeInfo} {z:Value} (hu:P.underlying t=some (.slice e)) (pW:P.underlying u=some .string) (az:dj P e=true) (hn:hp nb=none)
 (hi:P.info? e=some i) (hz:i.zero=some z) (h3:i.size=P.cellsOf e) (h4:z.cells.size=P.cellsOf e) (yV:i.size=1) (nZ:P.bytesOf e=i.bytes) (fx:xs.length*P.bytesOf e≤cz) (lT:xs.length=x.size) (nX:(Lib.strCells x).length=x.size)
 (dk: ∀(i j:Nat) (y:V) (t':TypeId),xs[i]? =some y→(a8 P e)[j]? =some t'→j<P.cellsOf e→∃u,(Lib.strCells x)[i*P.cellsOf e+j]? =some u∧Pure P w I t' u (bW P e y j)):
 ∀a0,∃v w' av,(Builtin.append_ #[t,u] ty #[.slice a0 0 0,.string x]).run P w= .ok v w'∧Le P w I β hp w' I av (aO hp nb (some (.arr e xs false)))∧aI P w' I av (aO hp nb (some (.arr e xs false))) B M w0∧
  an P w' I av (aO hp nb (some (.arr e xs false))) v (.whole e nb):=by
 intro a0
 have wi:=yx az
 have hlen:xs.length≤2^45:=by
  have:xs.length*1≤xs.length*P.bytesOf e:=vu _ wi
  simp only[cz] at fx
  omega
 by_cases h0:x.size=0
 ·have iI:xs=[]:=oK (by omega)
  subst iI
  obtain ⟨a1,a2⟩:=G3 S e hn
  have hf:=Lib.run_firstCells_string (P:=P) w 1 x
  rw[h0] at hf
  have sy:Lib.strCells x=[]:=oK (by omega)
  exact ⟨.slice a0 0 0,_,_,by cases a0<;>simp[storeCells,sy,Builtin.append_,run_underlying hu,run_underlying pW,sizeOf,typeInfo,hi,yV,Builtin.lenOf,h0,hf],a1,a2,.eJ (dr _ _ _) (dr _ _ _)⟩
 ·have dv:=adS (P:=P) w t u ty e i z hu pW hi hz x (by omega) (by omega) (by rw[←nZ,←lT];simp only[cz] at fx;omega) a0
  have e1:(x.data.map fun b=>Value.int .u8 b.toNat)=(Lib.strCells x).toArray:=by
   apply Array.ext'
   simp[Lib.strCells]
  rw[e1,←lT] at dv
  have qM:=grownCap_ge w xs.length 0 e
  have wj:grownCap w xs.length 0 e≤maxLen:=grownCap_le_maxLen w xs.length 0 e (by simp only[maxLen];omega)
  obtain ⟨n1,n2,n3⟩:=yR S.drew (nb:=nb) (cap:=grownCap w xs.length 0 e) (es:=xs) (C0:=(Lib.strCells x).toArray++Builtin.zeroCells z.cells (grownCap w xs.length 0 e-xs.length)) az hn
   (by
    have:(Lib.strCells x).length=xs.length*P.cellsOf e:=by rw[nX,lT,←h3,yV,oO]
    simp only[Gp,rR,size_zeroCells,h4,this,←eU];congr 1;omega) qM wj
   (fun i' j y t' hy ht hj=>by
    obtain ⟨u,hO,hp⟩:=dk i' j y t' hy ht hj
    have aX:=(bE.1 hO).1
    refine ⟨u,?_,Pure.drew hp⟩
    rw[Array.getElem?_append_left (by simpa using aX)]
    simpa using hO)
  exact ⟨_,_,_,dv,(Le.drew w I β hp).trans n1,n2,n3⟩
theorem adV (S:aI P w I β hp B M w0) {t u ty e:TypeId} {nb:Nat} {s:Value} {sv:V} {x:ByteArray} {r:R} {rd:List Nat} (hu:P.underlying t=some (.slice e)) (pW:P.underlying u=some .string) (he:P.underlying e=some (.int .u8)) (hs:an P w I β hp s sv)
  (h:(yk P nb e sv (.list e (x.data.toList.map Bx))).run C hp=some (r,rd)):dy P ((Builtin.append_ #[t,u] ty #[s,.string x]).run P w) w I β hp B M w0 r:=by
 unfold yk at h
 obtain ⟨az,h⟩:=aJ h
 simp only[uw] at h
 obtain ⟨_,h⟩:=aJ h
 have pb:bP P e=false:=by simp[bP,he]
 have eL:P.cellsOf e=1:=by rw[←(lO az).1,BK pb];rfl
 obtain ⟨i,z,hi,hz,h3,h4,_⟩:=lR az
 have yV:i.size=1:=by rw[h3,eL]
 have wi:=yx az
 have nZ:P.bytesOf e=i.bytes:=by simp[Program.bytesOf,hi]
 have HA:=adR (P:=P) (w:=w) (I:=I) he eL x
 have lT:(x.data.toList.map Bx).length=x.size:=by simp
 have nX:(Lib.strCells x).length=x.size:=Lib.strCells_length x
 have h1:=Lib.strCells_oneCell x
 generalize iI:x.data.toList.map Bx=xs at*
 cases sv with
 | nilS e'=>
  obtain ⟨hc,h⟩:=aJ h
  simp only[aL,aW,fO] at hc
  obtain ⟨hn,rfl⟩:=o8 h
  obtain ⟨a0,rfl⟩: ∃a0,s= .slice a0 0 0:=by cases hs;exact ⟨_,rfl⟩
  obtain ⟨v,w',av,a1,a2,a3,a4⟩:=TZ S hu pW az hn hi hz h3 h4 yV nZ hc.2 lT nX HA _
  exact ⟨v,w',I,av,a1,a2,a3,a4⟩
 | whole e' id=>
  obtain ⟨l,h⟩:=run_get h
  cases af:hp id with
  | none=>rw[af] at h;cases h
  | some blk=>
   rw[af] at h
   cases blk with
   | dead=>cases h
   | var _=>cases h
   | nest _ _ _=>cases h
   | map _ _=>cases h
   | arr eH es fz=>
    cases fz with
    | true=>cases h
    | false=>
     obtain ⟨hc,h⟩:=aJ h
     obtain ⟨hn,rfl⟩:=o8 h
     simp only[aL,aW,fO] at hc
     obtain ⟨L3,L4,fx⟩:=hc
     subst L3
     subst L4
     have bZ:nb≠id:=fun e=>by rw[e,af] at hn;cases hn
     obtain ⟨k1,k2⟩:=G4 S af
     have lS:aO hp id (some aj.dead) nb=none:=by rw[fj _ _ bZ];exact hn
     cases hs with
     | fh hd=>rw[af] at hd;cases hd
     | fp hd=>rw[af] at hd;cases hd
     | eJ hd hb=>
      rw[af] at hd
      cases hd
      simp only[List.length_nil,fe] at fx
      obtain ⟨v,w',av,a1,a2,a3,a4⟩:=TZ k2 hu pW az lS hi hz h3 h4 yV nZ fx lT nX HA _
      exact ⟨v,w',I,av,a1,k1.trans a2,a3,a4⟩
     | @whole _ _ aQ oV b cap hd hb a9 cx hm=>
      rw[af] at hd
      cases hd
      have hr:=S.h.rel id _ af
      cases hr with
      | eK aB=>rw[aB] at hb;cases hb
      | @arr _ _ _ b' Ca _ aB hh qP hf fi n0=>
       rw[hb] at aB
       cases aB
       have hlen:es.length+xs.length≤2^45:=by
        have:(es.length+xs.length)*1≤(es.length+xs.length)*P.bytesOf e:=vu _ wi
        simp only[cz] at fx
        omega
       rw[oY hh] at a9
       have sm: ∀aF blk',aO hp id (some aj.dead) aF=some blk'→¬bL P w (β aF) blk' b:=by
        intro aF blk' h1 h2
        by_cases jU:aF=id
        ·subst jU;rw[dr] at h1;cases h1;exact h2.alive rfl
        ·rw[fj _ _ jU] at h1
         exact jU (S.h.inj aF id blk' _ b h1 af h2 (.root (by simp) hb))
       have L5:=S.h.uD id _ b af (by simp) hb
       have na:es.length*P.cellsOf e≤Ca.toList.length:=by simpa using qP
       have T2:(Lib.strCells x).length=xs.length*P.cellsOf e:=by rw[nX,lT,eL,oO]
       by_cases uN:es.length+xs.length≤cap
       ·have B8:es.length*P.cellsOf e+(Lib.strCells x).length≤Ca.size:=by rw[T2,←eU,←a9];exact dP _ uN
        have dv:=Lib.run_append_room_string (P:=P) w t u ty e i hu pW hi yV b es.length cap Ca hh x (by rw[←lT];exact uN) (by rw[←nX];rw[eL,oO] at B8;exact B8)
        have dk:=Hp (P:=P) (w:=w) (I:=I) (n:=es.length) (c:=Ca.toList) rfl (fun i j y t' a b c=>by
         obtain ⟨v,hv,hp⟩:=n0 i j y t' a b c
         exact ⟨v,by simpa using hv,hp⟩) HA na (Ca.toList.drop (es.length*P.cellsOf e+(Lib.strCells x).length))
        generalize yN:(Ca.toList.take es.length++Lib.strCells x++Ca.toList.drop (es.length+x.size)).toArray=C' at dv
        have pU:C'.size=Ca.size:=by
         rw[eL,oO] at B8
         rw[←yN];simp;omega
        have T4:(w.setRow b C').heap[b]? =some (.cells C' e (0,0)):=setRow_heap w b Ca C' e _ hh
        obtain ⟨a1,a2⟩:=BP k2 (blk:= .arr e (es++xs) false) (w':=w.setRow b C') lS sm (fi rfl) (fun b' h _=>setRow_other w b b' _ h) (by simp) ⟨rfl,rfl⟩ L5
         (fun b' h=>(dq (h.flat (by simp))).symm) (fun hle=> .arr az rfl T4 (by rw[pU,←a9];exact dP _ (by simpa using uN)) (fun h=>by cases h) (fun _=>fi rfl) fun i j y t' a b c=>by
          obtain ⟨v,hv,hp⟩:=dk i j y t' a b c
          refine ⟨v,?_,hp.mono hle.dQ hle.cB⟩
          rw[←yN,oM]
          rw[eL] at hv⊢
          simpa[nX] using hv)
        refine ⟨_,_,_,_,dv,k1.trans a1,a2,?_⟩
        have a3:=an.whole (P:=P) (w:=w.setRow b C') (I:=I) (β:=aO β nb (some b)) (hp:=aO (aO hp id (some .dead)) nb (some (.arr e (es++xs) false))) (cap:=cap) (b:=b) (es:=es++xs) (fz:=false) (id:=nb) (e:=e) (dr _ _ _) (dr _ _ _) (by rw[oY T4,pU,a9]) (by simpa using uN) hm
        rw[dO,lT] at a3
        exact a3
       ·have hold: ∀(j:Nat) v,(Ca.toList.take (es.length*P.cellsOf e))[j]? =some v→w.cell? ((⟨b,0,none⟩:Addr).add j)=some v:=by
         intro j v hj
         have dt:=(bE.1 hj).1
         have cp:j<es.length*P.cellsOf e:=by rw[kj] at dt;omega
         rw[ga cp] at hj
         rw[o5,cell?_cells hh,fe]
         simpa using hj
        have dv:=Lib.run_append_grow_string (P:=P) w t u ty e i z hu pW hi hz ⟨b,0,none⟩ es.length cap (Ca.toList.take (es.length*P.cellsOf e)) (by rw[h3];simp;omega) hold x (by omega) (by omega)
         (growslice_fits (by omega) (by rw[←nZ,←lT];simp only[cz] at fx;omega))
        rw[←lT] at dv
        have qM:=grownCap_ge w (es.length+xs.length) cap e
        have wj:grownCap w (es.length+xs.length) cap e≤maxLen:=grownCap_le_maxLen w _ cap e (by simp only[maxLen];omega)
        have dk:=Hp (P:=P) (w:=w) (I:=I) (n:=es.length) (c:=Ca.toList) rfl (fun i j y t' a b c=>by
         obtain ⟨v,hv,hp⟩:=n0 i j y t' a b c
         exact ⟨v,by simpa using hv,hp⟩) HA na (Builtin.zeroCells z.cells (grownCap w (es.length+xs.length) cap e-(es.length+xs.length))).toList
        obtain ⟨n1,n2,n3⟩:=yR k2.drew (nb:=nb) (cap:=grownCap w (es.length+xs.length) cap e) (es:=es++xs)
         (C0:=(Ca.toList.take (es.length*P.cellsOf e)).toArray++(Lib.strCells x).toArray++Builtin.zeroCells z.cells (grownCap w (es.length+xs.length) cap e-(es.length+xs.length))) az lS
         (by
          have e1:(Ca.toList.take (es.length*P.cellsOf e)).length=es.length*P.cellsOf e:=by simp;omega
          simp only[Gp,rR,size_zeroCells,h4,T2,e1,←eU];congr 1;omega) (by simpa using qM) wj
         (fun i j y t' a b c=>by
          obtain ⟨v,hv,hp⟩:=dk i j y t' a b c
          refine ⟨v,?_,Pure.drew hp⟩
          rw[←ug]
          simpa using hv)
        rw[dO] at n3
        exact ⟨_,_,_,_,dv,(k1.trans (Le.drew w I β _)).trans n1,n2,n3⟩
 | _=>cases h
end
section
variable {P:Program} {w w':World} {I I':Nat→Prop} {β av:Nat→Option Nat} {hp hp':Nat→Option aj} {C:ae} {B:Nat} {M:Nat→Prop} {w0:Start}
theorem T6: ∀(ns:List Int) (s:ByteArray),(ns.foldl (fun r n=>r.push (UInt8.ofNat n.toNat)) s).data.toList=s.data.toList++ns.map fun n=>UInt8.ofNat n.toNat
 | [],s=>by simp
 | n::ns,s=>by
  simp only[List.foldl_cons,T6 ns,ki]
  simp[ByteArray.push]
theorem T7 {e:TypeId} {u:Value} {x:V} (he:P.underlying e=some (.int .u8)) (hp:Pure P w I e u x):u= .int .u8 x.toInt:=by
 cases hp with
 | int hp'=>rw[he] at hp';cases hp';rfl
 | bool hp'=>rw[he] at hp';cases hp'
 | str hp'=>rw[he] at hp';cases hp'
 | nil hp'=>rw[he] at hp';cases hp'
 | emp hp'=>rw[he] at hp';cases hp'
 | list _ hp'=>rw[he] at hp';cases hp'
theorem adW (S:aI P w I β hp B M w0) {src dst e:TypeId} {v:Value} {x:V} {r:R} {rd:List Nat} (hs:P.underlying src=some (.slice e)) (he:P.underlying e=some (.int .u8)) (hd:P.underlying dst=some .string)
  (hv:an P w I β hp v x) (h:(Rd.aC (dj P e) (uw e x fun es=> .ret ⟨.str (oU es),[]⟩)).run C hp=some (r,rd)):dy P ((convert src dst v).run P w) w I β hp B M w0 r:=by
 obtain ⟨az,h⟩:=aJ h
 obtain ⟨xs,hx,l,h⟩:=Ho S.h.rel az hv h
 obtain rfl:=aS h
 have pb:bP P e=false:=by simp[bP,he]
 have h1:P.cellsOf e=1:=by rw[←(lO az).1,BK pb];rfl
 rcases hx with ⟨⟨a,rfl⟩,rfl⟩|⟨a,c,news,hr⟩
 ·refine .same S (v:= .string .empty) ?_ (.str (by simp[oU]))
  rw[run_convert_bytes_string w src dst e a 0 0 hs he hd]
  cases a<;>simp[Conv.bytesToString,loadCells,loadCellsFrom]
 ·have Hq:news=(xs.map V.toInt).map (Value.int .u8):=by
   apply A6
   intro j
   by_cases hj:j<xs.length
   ·obtain ⟨u,hu,hp⟩:=hr.el j 0 xs[j] e (bM hj) (by simp[a8,pb]) (by omega)
    rw[h1] at hu
    simp only[bW,pb,cond_false] at hp
    have hO:news[j]? =some u:=by simpa using hu
    rw[hO]
    have:=T7 he hp
    simp[hj,←this]
   ·have hl:news.length=xs.length:=by rw[hr.len,h1];simp
    rw[uc (by omega),uc (by simp;omega)]
  have Mk:=run_loadCells_list (P:=P) w a news hr.cell
  have hl:news.length=xs.length:=by rw[hr.len,h1];simp
  rw[hl] at Mk
  rw[Hq] at Mk
  refine .same S (v:= .string ((xs.map V.toInt).foldl (fun r n=>r.push (UInt8.ofNat n.toNat)) ByteArray.empty)) ?_ (.str ?_)
  ·rw[hr.val,run_convert_bytes_string w src dst e _ _ _ hs he hd]
   exact run_bytesToString w a xs.length c (xs.map V.toInt) Mk
  ·rw[T6]
   simp[oU]
theorem an.HB {v:Value} (h:an P w I β hp v .eb):v= .pointer none:=by cases h;rfl
section
variable (w:World)
theorem adX (t e:TypeId) (a:Addr) (h:P.underlying t=some (.pointer e)):(binOp .eql t (.pointer (some a)) (.pointer none)).run P w= .ok (.bool false) w:=by
 have h0: ∀d:Nat,(Op.equalIn (d+1) t (.pointer (some a)) (.pointer none)).run P w= .ok false w:=fun d=>by simp[Op.equalIn,run_underlying h]
 simp only[binOp]
 simp[Op.equal,Op.maxDepth,h0 9999]
theorem adY (t e:TypeId) (a:Addr) (h:P.underlying t=some (.pointer e)):(binOp .neq t (.pointer (some a)) (.pointer none)).run P w= .ok (.bool (!false)) w:=by
 have h0: ∀d:Nat,(Op.equalIn (d+1) t (.pointer (some a)) (.pointer none)).run P w= .ok false w:=fun d=>by simp[Op.equalIn,run_underlying h]
 simp only[binOp]
 simp[Op.equal,Op.maxDepth,h0 9999]
theorem adZ (t e:TypeId) (a:Addr) (h:P.underlying t=some (.pointer e)):(binOp .eql t (.pointer none) (.pointer (some a))).run P w= .ok (.bool false) w:=by
 have h0: ∀d:Nat,(Op.equalIn (d+1) t (.pointer none) (.pointer (some a))).run P w= .ok false w:=fun d=>by simp[Op.equalIn,run_underlying h]
 simp only[binOp]
 simp[Op.equal,Op.maxDepth,h0 9999]
theorem ad0 (t e:TypeId) (a:Addr) (h:P.underlying t=some (.pointer e)):(binOp .neq t (.pointer none) (.pointer (some a))).run P w= .ok (.bool (!false)) w:=by
 have h0: ∀d:Nat,(Op.equalIn (d+1) t (.pointer none) (.pointer (some a))).run P w= .ok false w:=fun d=>by simp[Op.equalIn,run_underlying h]
 simp only[binOp]
 simp[Op.equal,Op.maxDepth,h0 9999]
theorem ad1 (t e:TypeId) (h:P.underlying t=some (.pointer e)):(binOp .eql t (.pointer none) (.pointer none)).run P w= .ok (.bool true) w:=by
 have h0: ∀d:Nat,(Op.equalIn (d+1) t (.pointer none) (.pointer none)).run P w= .ok true w:=fun d=>by simp[Op.equalIn,run_underlying h]
 simp only[binOp]
 simp[Op.equal,Op.maxDepth,h0 9999]
theorem ad2 (t e:TypeId) (h:P.underlying t=some (.pointer e)):(binOp .neq t (.pointer none) (.pointer none)).run P w= .ok (.bool (!true)) w:=by
 have h0: ∀d:Nat,(Op.equalIn (d+1) t (.pointer none) (.pointer none)).run P w= .ok true w:=fun d=>by simp[Op.equalIn,run_underlying h]
 simp only[binOp]
 simp[Op.equal,Op.maxDepth,h0 9999]
end
theorem HC (S:aI P w I β hp B M w0) {op:BinOp} {t:TypeId} {b:Bool} {x y:Operand} {v1 v2:Value} {r:R} {rd:List Nat} (h:(ptrEq P op t b).run C hp=some (r,rd)) (hg:(eqGuard op t x y v1 v2).run P w= .ok () w)
  (he: ∀e j,P.underlying t=some (.pointer e)→P.info? e=some j→(binOp .eql t v1 v2).run P w= .ok (.bool b) w∧(binOp .neq t v1 v2).run P w= .ok (.bool (!b)) w):
  dy P ((do eqGuard op t x y v1 v2;binOp op t v1 v2:Sem Value).run P w) w I β hp B M w0 r:=by
 unfold ptrEq at h
 cases hu:P.underlying t with
 | none=>rw[hu] at h;cases h
 | some d=>
  rw[hu] at h
  cases d<;>simp only at h<;>first|(cases h;done)|skip
  rename_i e
  obtain ⟨h1,h2⟩:=aJ h
  obtain ⟨j,hj⟩:=Option.isSome_iff_exists.1 h1
  obtain ⟨k1,k2⟩:=he e j hu hj
  cases op<;>simp only at h2<;>first|(cases h2;done)|skip
  ·obtain rfl:=aS h2
   exact .same S (by simp only[Sem.run_bind,hg,Result.andThen_ok,k1]) .bool
  ·obtain rfl:=aS h2
   exact .same S (by simp only[Sem.run_bind,hg,Result.andThen_ok,k2]) .bool
theorem ad3 {b n:Nat}:(∀b',b'≠b→(w.freeze ⟨b,0,none⟩ n).heap[b']? =w.heap[b']?)∧bsize (w.freeze ⟨b,0,none⟩ n) b=bsize w b∧w.heap.size≤(w.freeze ⟨b,0,none⟩ n).heap.size∧(w.freeze ⟨b,0,none⟩ n).os=w.os∧(w.freeze ⟨b,0,none⟩ n).output=w.output:=by
 unfold World.freeze
 split
 ·exact ⟨fun _ _=>rfl,rfl,aE _,rfl,rfl⟩
 ·refine ⟨fun b' hb=> ?_,?_,by simp,rfl,rfl⟩
  ·simp only[A5]
   rw[ah (fun e=>hb e.symm)]
  ·simp only[bsize,A5,gy]
   cases w.heap[b]? with
   | none=>rfl
   | some o=>cases o<;>rfl
theorem ad4 {e:TypeId} (hb:isByte P e=true):P.underlying e=some (.int .u8):=by
 unfold isByte at hb
 split at hb
 ·assumption
 ·cases hb
theorem ad5 (S:aI P w I β hp B M w0) {ts:Array TypeId} {ty e:TypeId} {v:Value} {id:Nat} {es:List V} {fz:Bool} (hv:an P w I β hp v (.whole e id)) (af:hp id=some (.arr e es fz)) (h0:0<es.length):
  dy P ((Builtin.unsafeSliceData_ ts ty #[v]).run P w) w I β hp B M w0 ⟨.ptr id 0 0,[]⟩:=by
 cases hv with
 | fh h=>rw[af] at h;cases h
 | eJ h _=>rw[af] at h;cases h;simp at h0
 | fp h _ _ _ _=>rw[af] at h;cases h
 | @whole _ _ aQ oV b cap h hb cx hle hm=>
  rw[af] at h;cases h
  refine .same S (Lib.run_unsafeSliceData_row w ts ty ⟨b,0,none⟩ es.length cap (by omega)) ?_
  have:=an.ptr (P:=P) (w:=w) (I:=I) (β:=β) (i:=0) (c:=0) af (by simp) hb
  simpa using this
theorem ad6 (S:aI P w I β hp B M w0) {t u ty e:TypeId} {vx:Value} {id:Nat} {n:Int} {es:List V} (hu:P.underlying t=some (.pointer e)) (hb:isByte P e=true) (hv:an P w I β hp vx (.ptr id 0 0))
  (af:hp id=some (.arr e es false)) (h0:0<n) (hn:n≤es.length) (hm:n.toNat≤Bl) (gd:(es.take n.toNat).all Lb=true):dy P ((Builtin.unsafeString_ #[t,u] ty #[vx,.int .i64 n]).run P w) w I β hp B M w0 ⟨.str (oU (es.take n.toNat)),[(id,.dead)]⟩:=by
 obtain ⟨b,Ml,rfl⟩:=hv.iY af (by simp)
 have he:P.underlying e=some (.int .u8):=by
  unfold isByte at hb
  split at hb
  ·assumption
  ·cases hb
 have pb:bP P e=false:=by simp[bP,he]
 have hr:=S.h.rel id _ af
 rw[Ml] at hr
 cases hr with
 | eK aB=>cases aB
 | @arr _ _ _ b1 Ca az na hh hs hI dh dk=>
  cases na
  have h1:P.cellsOf e=1:=by rw[←(lO az).1,BK pb];rfl
  have aX:=S.acH af (by simp) Ml
  have hl:(oU (es.take n.toNat)).length=n.toNat:=by simp[oU];omega
  have Cg:n=((oU (es.take n.toNat)).length:Nat):=by rw[hl];omega
  have dv:=Lib.run_unsafeString_row (P:=P) w t u ty e hu h1 b Ca.size (by simp[World.shape?,hh]) (oU (es.take n.toNat)) (fun h=>by rw[h] at hl;simp at hl;omega) (by rw[hl];rw[h1] at hs;omega) (by rw[hl];unfold Bl at hm;omega) (fun j x hx=>by
   have hj:j<n.toNat:=by
    have:=(bE.1 hx).1
    rw[hl] at this;exact this
   have jt:j<es.length:=by omega
   simp only[oU,fF,ga hj,bM jt,Option.map_some,ez] at hx
   obtain ⟨v,yS,bG⟩:=dk j 0 es[j] e (bM jt) (by simp[a8,pb]) (by omega)
   rw[h1] at yS
   simp only[bW,pb,cond_false] at bG
   have:=T7 he bG
   have hr:=gl.1 gd es[j] (kh (by rw[ga hj];exact bM jt))
   simp only[Lb,aL,dx] at hr
   have o7:(x.toNat:Int)=es[j].toInt:=by
    rw[←hx]
    have:es[j].toInt.toNat<256:=by omega
    simp only[UInt8.toNat_ofNat']
    omega
   rw[o5,cell?_cells hh,o7]
   rw[show 0+j=j*1+0 by omega,yS,this])
  obtain ⟨f1,f2,f3,f4,f5⟩:=ad3 (w:=w) (b:=b) (n:=n.toNat)
  obtain ⟨k1,k2⟩:=G5 (w':=w.freeze ⟨b,0,none⟩ n.toNat) S af (by simp) (blk':= .dead) (by trivial) Ml (dh rfl) (by simp) f1 f2 f3 ⟨f4,f5⟩ (fun _=> .dead)
  rw[←Cg,hl] at dv
  refine ⟨.string ⟨(oU (es.take n.toNat)).toArray⟩,_,I,β,?_,k1,k2,.str ?_⟩
  ·simpa using dv
  ·rfl
def Mm:Op→Bool
 | .call {callee:= .value (.func _),..}=>true
 | .call {callee:= .value (.tmp _),..}=>true
 | .defer _=>true
 | _=>false
theorem qE.val {o:Oper} {a:Act} {s:Sem Value} {r:R} (he:execOp a.eval o=(do Pure.pure (Next.value (←s)))) (h:dy P (s.run P w) w I β hp B M w0 r):qE P ((execOp a.eval o).run P w) w I β hp B M w0 r:=by
 rw[he];exact h.op
theorem ad7 {A:cU} (S:aI P w I β hp B M w0) (hg:iU P A.aG w I) {a:Act} {sl:Nat→V} (hs:mo P w I β hp a sl) {ix nb:Nat} {o:Oper} (Mn:Mm o.op=false) {r:R} {rd:List Nat}
  (h:(gD P A sl ix nb o).run C hp=some (r,rd)):qE P ((execOp a.eval o).run P w) w I β hp B M w0 r:=by
 obtain ⟨dst,op,ty,pos,after,guard⟩:=o
 cases op<;>simp only[gD] at h<;>first|(cases h;done)|skip
 case move x=>
  obtain rfl:=aS h
  exact ⟨_,w,I,β,.inl (by simp[execOp]),Le.refl w I β hp,S,hs.ev hg ty x⟩
 case assign x=>
  obtain rfl:=aS h
  exact ⟨_,w,I,β,.inl (by simp[execOp]),Le.refl w I β hp,S,hs.ev hg ty x⟩
 case pick c x y=>
  have hc:=hs.ev hg ty c
  cases we:aT P A.aG ty sl c<;>rw[we] at h hc<;>simp only at h<;>first|(cases h;done)|skip
  rename_i t
  have ad8:=hc.kU
  have hx:=hs.ev hg ty x
  have hy:=hs.ev hg ty y
  have fin: ∀z:V,an P w I β hp (if t then a.eval x else a.eval y) z→qE P ((execOp a.eval ⟨dst,.pick c x y,ty,pos,after,guard⟩).run P w) w I β hp B M w0 ⟨z,[]⟩:=by
   intro z hz
   exact ⟨_,w,I,β,.inl (by simp[execOp,ad8,asBool]),Le.refl w I β hp,S,hz⟩
  cases HD:gone (aT P A.aG ty sl x) with
  | true=>
   rw[HD] at h
   obtain ⟨h1,h⟩:=aJ h
   obtain rfl:=aS h
   have:t=false:=by simpa using h1
   subst this
   refine fin _ ?_
   simpa using hy
  | false=>
   rw[HD] at h
   simp only[cond_false] at h
   cases T8:gone (aT P A.aG ty sl y) with
   | true=>
    rw[T8] at h
    obtain ⟨h1,h⟩:=aJ h
    obtain rfl:=aS h
    subst h1
    refine fin _ ?_
    simpa using hx
   | false=>
    rw[T8] at h
    obtain rfl:=aS h
    exact fin _ (SQ hx hy)
 case makeFunc fn x y=>
  cases fn<;>simp only[gD] at h<;>first|(cases h;done)|skip
  rename_i f
  obtain rfl:=aS h
  refine ⟨.func (.func f) (x.map a.eval) (y.map a.eval),w,I,β,.inl (by simp[execOp,Instr.makeFunc]),Le.refl w I β hp,S,.fn (by simp) (fun j v z hj hz=> ?_) (by simp) (fun j v z hj hz=> ?_)⟩
  ·rw[Array.getElem?_map] at hj
   rw[fF,ug] at hz
   cases hx:x[j]? with
   | none=>rw[hx] at hj;cases hj
   | some o1=>
    rw[hx] at hj hz
    cases hj
    cases hz
    exact hs.ev hg ty o1
  ·rw[Array.getElem?_map] at hj
   rw[fF,ug] at hz
   cases hx:y[j]? with
   | none=>rw[hx] at hj;cases hj
   | some o1=>
    rw[hx] at hj hz
    cases hj
    cases hz
    exact hs.ev hg ty o1
 case defer c=>cases Mn
 case makeMap t res=>
  cases res with
  | some x=>cases h
  | none=>exact .val rfl (adM S h)
 case lookup t m k ok=>
  cases ht:mX P t with
  | none=>rw[ht] at h;cases h
  | some q=>
   obtain ⟨kt,vt⟩:=q
   rw[ht] at h
   exact .val (s:=Instr.lookup t (a.eval m) (a.eval k) ok) rfl (adL S ht (hs.ev hg t m) (hs.ev hg kt k) h)
 case mapUpdate t m k x=>
  cases ht:mX P t with
  | none=>rw[ht] at h;cases h
  | some q=>
   obtain ⟨kt,vt⟩:=q
   rw[ht] at h
   have:=TV S ht (hs.ev hg t m) (hs.ev hg kt k) (hs.ev hg vt x) h
   exact this.op
 case insert t m k x=>
  cases ht:mX P t with
  | none=>rw[ht] at h;cases h
  | some q=>
   obtain ⟨kt,vt⟩:=q
   rw[ht] at h
   have:=TV S ht (hs.ev hg t m) (hs.ev hg kt k) (hs.ev hg vt x) h
   exact this.op
 case alloc e=>
  exact .val rfl (ade S h)
 case box e x=>
  exact .val rfl (adf S (hs.ev hg e x) h)
 case build t ps=>exact .val rfl (adh S hs hg h)
 case buildSlice t len ps=>
  cases hu:P.underlying t with
  | none=>rw[hu] at h;cases h
  | some d=>
   rw[hu] at h
   cases d<;>simp only at h<;>first|(cases h;done)|skip
   exact .val rfl (adn S hs hg hu h)
 case load t x=>exact .val rfl (acV S (hs.ev hg ty x) h)
 case store t x y=>
  have:=adb S (hs.ev hg ty x) (hs.ev hg t y) h
  exact this.op
 case nilCheck x=>
  have hx:=hs.ev hg ty x
  cases gq:aT P A.aG ty sl x<;>rw[gq] at h hx<;>simp only at h<;>first|(cases h;done)|skip
  ·obtain ⟨⟨blk,af,hd⟩,l,h⟩:=yC h
   obtain rfl:=aS h
   have cP:=hx
   obtain ⟨b,hb,he⟩:=hx.iY af hd
   rw[he] at cP
   exact ⟨_,w,I,β,.inl (by simp only[execOp,he];rfl),Le.refl w I β hp,S,cP⟩
  ·obtain rfl:=aS h
   have cP:=hx
   obtain ⟨b,o,he,_⟩:=hx.G8
   rw[he] at cP
   exact ⟨_,w,I,β,.inl (by simp only[execOp,he];rfl),Le.refl w I β hp,S,cP⟩
  ·obtain ⟨e0,es,ao,l,af,h1,h2,h3,h⟩:=pO h
   obtain rfl:=aS h
   have cP:=hx
   obtain ⟨b,o,he,_⟩:=hx.SO af h1 h2 h3
   rw[he] at cP
   exact ⟨_,w,I,β,.inl (by simp only[execOp,he];rfl),Le.refl w I β hp,S,cP⟩
 case binOp op t x y yt=>
  have hx:=hs.ev hg t x
  have hy:=hs.ev hg t y
  refine .val (s:=do eqGuard op t x y (a.eval x) (a.eval y);binOp op t (a.eval x) (a.eval y)) rfl ?_
  cases gq:aT P A.aG t sl x<;>cases uP:aT P A.aG t sl y<;>rw[gq,uP] at h<;>rw[gq] at hx<;>rw[uP] at hy<;>first|(simp only[lG] at h;cases h;done)|skip
  ·rw[hx.fq,hy.fq]
   have:=acM S h
   simpa[acJ] using this
  ·rw[hx.kU,hy.kU]
   have:=acO S h
   simpa[acK] using this
  ·obtain ⟨s1,e1,l1⟩:=hx.nU
   obtain ⟨s2,e2,l2⟩:=hy.nU
   rw[e1,e2]
   rw[←l1,←l2] at h
   have:=acP (t:=t) S h
   simpa[acL] using this
  ·obtain ⟨cs,e1,h1,h2⟩:=hx.mr
   obtain ⟨ds,e2,h3,h4⟩:=hy.mr
   rw[e1,e2]
   exact acQ S h1 h3 h2 h4 h
  ·
   simp only[lG] at h
   obtain ⟨h1,h2⟩:=aJ h
   clear h
   simp only[aL,aW] at h1
   obtain ⟨rfl,rfl,rfl⟩:=h1
   obtain ⟨⟨blk,af,hd⟩,l,h⟩:=yC h2
   obtain ⟨b,hb,e1⟩:=hx.iY af hd
   obtain ⟨b',aB,e2⟩:=hy.iY af hd
   rw[hb] at aB;cases aB
   rw[e1,e2]
   exact HC S h (by cases op<;>simp[eqGuard]) fun e j he hj=>⟨run_eql_ptr_same w _ he hj,Lib.run_neq_ptr_same w _ he hj⟩
  ·simp only[lG] at h
   obtain ⟨⟨blk,af,hd⟩,l,h⟩:=yC h
   obtain ⟨b,_,e1⟩:=hx.iY af hd
   rw[e1,hy.HB]
   exact HC S h (by cases op<;>simp[eqGuard]) fun e j he hj=>⟨adX w t e _ he,adY w t e _ he⟩
  ·simp only[lG] at h
   obtain ⟨⟨blk,af,hd⟩,l,h⟩:=yC h
   obtain ⟨b,_,e1⟩:=hy.iY af hd
   rw[e1,hx.HB]
   exact HC S h (by cases op<;>simp[eqGuard]) fun e j he hj=>⟨adZ w t e _ he,ad0 w t e _ he⟩
  ·simp only[lG] at h
   rw[hx.HB,hy.HB]
   exact HC S h (by cases op<;>simp[eqGuard]) fun e j he hj=>⟨ad1 w t e he,ad2 w t e he⟩
  ·
   simp only[lG] at h
   obtain ⟨l,h⟩:=run_get h
   split at h
   ·rename_i t2 es af
    obtain ⟨b,hb⟩:=hx.adQ af
    rw[hy.Mj,hb]
    exact TY (a:=some b) S x y h
   ·cases h
  ·simp only[lG] at h
   rw[hx.Mj,hy.Mj]
   exact TY (a:=none) S x y h
 case unOp op t x=>exact .val rfl (acR S (hs.ev hg ty x) h)
 case convert src dst x=>
  have hx:=hs.ev hg ty x
  refine .val (s:=convert src dst (a.eval x)) rfl ?_
  cases kT:P.underlying src with
  | none=>rw[kT] at h;cases h
  | some d1=>
   cases n9:P.underlying dst with
   | none=>rw[kT,n9] at h;cases d1<;>cases h
   | some d2=>
    rw[kT,n9] at h
    have iE: ∀{b:Nat} {T:TypeId} {cs:List V} {id:Nat},hp id=some (.var T cs)→β id=some b→w.shape? b=some (T,cs.length):=by
     intro b T cs id af hb
     have hr:=S.h.rel id _ af
     rw[hb] at hr
     cases hr with
     | var aB hh a9 _ _ _=>cases aB;simp[World.shape?,hh,a9]
    cases d1<;>(try (cases d2<;>cases h;done))
    ·cases d2<;>(try (cases h;done))
     rename_i k1 k2
     cases gq:aT P A.aG ty sl x<;>rw[gq] at h hx<;>simp only at h<;>first|(cases h;done)|skip
     obtain rfl:=aS h
     rw[hx.fq]
     exact .same S (by simp[convert,run_underlying kT,run_underlying n9,Conv.intToInt]) .int
    ·cases d2<;>(try (cases h;done))
     rename_i u
     cases gq:aT P A.aG ty sl x<;>rw[gq] at h hx<;>simp only at h<;>first|(cases h;done)|skip
     rename_i id i c
     obtain ⟨l,h1⟩:=run_get h
     cases af:hp id with
     | none=>rw[af] at h1;cases h1
     | some blk=>
      rw[af] at h1
      cases blk<;>simp only at h1<;>first|(cases h1;done)|skip
      rename_i T cs
      obtain ⟨h2,h3⟩:=aJ h1
      simp only[aL,aW] at h2
      obtain ⟨rfl,h4,h5⟩:=h2
      obtain ⟨b,hb,e1⟩:=hx.iY af (by simp)
      obtain rfl:=aS h3
      obtain ⟨j,hj⟩:=Option.isSome_iff_exists.1 h4
      have cP:=hx
      rw[e1] at cP⊢
      exact .same S (Lib.run_from_unsafe w _ kT n9 hj (iE af hb) (by simpa using h5)) cP
    ·cases d2<;>(try (cases h;done))
     rename_i t
     cases gq:aT P A.aG ty sl x<;>rw[gq] at h hx<;>simp only at h<;>first|(cases h;done)|skip
     rename_i id i c
     obtain ⟨l,h1⟩:=run_get h
     cases af:hp id with
     | none=>rw[af] at h1;cases h1
     | some blk=>
      rw[af] at h1
      cases blk<;>simp only at h1<;>first|(cases h1;done)|skip
      rename_i T cs
      obtain ⟨h2,h3⟩:=aJ h1
      simp only[aL,aW,lA] at h2
      obtain ⟨rfl,h4,h5⟩:=h2
      obtain ⟨b,hb,e1⟩:=hx.iY af (by simp)
      obtain rfl:=aS h3
      cases hj:P.info? t with
      | none=>rw[hj] at h5;cases h5
      | some j=>
       rw[hj] at h5
       simp only[oL] at h5
       have h6:j.size≠0:=fun e=>by rw[e] at h5;cases h5
       have cP:=hx
       rw[e1] at cP⊢
       exact .same S (Lib.run_to_unsafe w _ kT n9 hj h6 (iE af hb) (by simpa using h4)) cP
    ·rename_i e
     cases d2<;>(try (cases h;done))
     simp only at h
     cases he:P.underlying e with
     | none=>rw[he] at h;cases h
     | some d3=>
      rw[he] at h
      cases d3<;>(try (cases h;done))
      rename_i k
      cases k<;>(try (cases h;done))
      exact adW S kT he n9 hx h
 case fieldAddr s x f=>exact .val rfl (acS S (hs.ev hg ty x) h)
 case field s x f=>exact .val rfl (adz S (hs.ev hg ty x) h)
 case indexAddr t x y=>exact .val rfl (adF S (hs.ev hg ty x) (hs.ev hg 0 y) h)
 case index t x y=>
  have hx:=hs.ev hg ty x
  have hy:=hs.ev hg 0 y
  refine .val (s:=Instr.index t (a.eval x) (a.eval y)) rfl ?_
  cases hu:P.underlying t with
  | none=>rw[hu] at h;cases h
  | some d=>
   rw[hu] at h
   cases d<;>(try (cases h;done))
   cases gq:aT P A.aG ty sl x<;>rw[gq] at h hx<;>(try (cases h;done))
   cases uP:aT P A.aG 0 sl y<;>rw[uP] at h hy<;>(try (cases h;done))
   obtain ⟨s,e1,l1⟩:=hx.nU
   rw[e1,hy.fq]
   exact adB S hu l1 h
 case slice t x lo hi mx=>
  cases mx with
  | some m=>
   simp only at h
   refine .val (s:=Instr.sliceAt t (a.eval x) (lo.map a.eval) (hi.map a.eval) (some (a.eval m))) (by simp[execOp]) (adE S (hs.ev hg ty x) (fun hy=> ?_) (fun y hy=> ?_) (fun y hy=> ?_) h)
   ·cases lo with
    | none=>rfl
    | some l=>cases hy
   ·cases hi with
    | none=>cases hy
    | some l=>cases hy;exact ⟨_,rfl,hs.ev hg 0 l⟩
   ·cases hy;exact ⟨_,rfl,hs.ev hg 0 m⟩
  | none=>
   simp only at h
   have plain:(GL P t (aT P A.aG ty sl x) (lo.map (aT P A.aG 0 sl)) (hi.map (aT P A.aG 0 sl))).run C hp=some (r,rd)→qE P ((execOp a.eval ⟨dst,.slice t x lo hi none,ty,pos,after,guard⟩).run P w) w I β hp B M w0 r:=by
    intro h
    refine .val (s:=Instr.sliceAt t (a.eval x) (lo.map a.eval) (hi.map a.eval) none) (by simp[execOp]) (adD S (hs.ev hg ty x) (fun y hy=> ?_) (fun y hy=> ?_) (fun hy=> ?_) (fun hy=> ?_) h)
    ·cases lo with
     | none=>cases hy
     | some l=>cases hy;exact ⟨_,rfl,hs.ev hg 0 l⟩
    ·cases hi with
     | none=>cases hy
     | some l=>cases hy;exact ⟨_,rfl,hs.ev hg 0 l⟩
    ·cases lo with
     | none=>rfl
     | some l=>cases hy
    ·cases hi with
     | none=>rfl
     | some l=>cases hy
   have tr:(GM P nb t (aT P A.aG ty sl x) (lo.map (aT P A.aG 0 sl)) (hi.map (aT P A.aG 0 sl))).run C hp=some (r,rd)→qE P ((execOp a.eval ⟨dst,.slice t x lo hi none,ty,pos,after,guard⟩).run P w) w I β hp B M w0 r:=by
    intro h
    refine .val (s:=Instr.sliceAt t (a.eval x) (lo.map a.eval) (hi.map a.eval) none) (by simp[execOp]) (adH S (hs.ev hg ty x) (fun y hy=> ?_) (fun hy=> ?_) h)
    ·cases hi with
     | none=>cases hy
     | some l=>cases hy;exact ⟨_,rfl,hs.ev hg 0 l⟩
    ·cases lo with
     | none=>rfl
     | some l=>cases hy
   cases dst with
   | none=>exact plain h
   | some d=>
    simp only at h
    cases HE:lE A.yh d with
    | true=>rw[HE] at h;exact tr h
    | false=>rw[HE] at h;exact plain h
 case extract x i=>
  have hx:=hs.ev hg ty x
  cases gq:aT P A.aG ty sl x<;>rw[gq] at h hx<;>simp only at h<;>first|(cases h;done)|skip
  exact .val (s:=Instr.extract (a.eval x) i) rfl (adA S hx h)
 case makeSlice t l c=>
  have hl:=hs.ev hg 0 l
  have hc:=hs.ev hg 0 c
  refine .val (s:=Instr.makeSlice t (a.eval l) (a.eval c)) rfl ?_
  cases hu:P.underlying t with
  | none=>rw[hu] at h;cases h
  | some d=>
   rw[hu] at h
   cases d<;>(try (cases h;done))
   cases Mo:aT P A.aG 0 sl l<;>rw[Mo] at h hl<;>(try (cases h;done))
   cases we:aT P A.aG 0 sl c<;>rw[we] at h hc<;>(try (cases h;done))
   rw[hl.fq,hc.fq]
   cases dst with
   | none=>exact Tu S hu h
   | some d=>
    simp only at h
    cases hg:lE A.yh d with
    | true=>rw[hg] at h;exact adp S hu h
    | false=>rw[hg] at h;exact Tu S hu h
 case call c=>
  obtain ⟨callee,args,argTypes⟩:=c
  cases callee with
  | invoke r m=>cases h
  | value f=>
   cases f with
   | func f=>cases Mn
   | tmp f=>cases Mn
   | _=>cases h
  | builtin b=>
   have one: ∀{x:Operand},args.toList=[x]→args= #[x]:=fun h=>by rw[←Array.toArray_toList (xs:=args),h]
   have sI: ∀(s:Array TypeId→TypeId→Array Value→Sem Value),builtin b argTypes ty (args.map fun| .const _=>true|_=>false) (args.map a.eval)=(do Pure.pure (Next.value (←s argTypes ty (args.map a.eval))))→
     execOp a.eval ⟨dst,.call ⟨.builtin b,args,argTypes⟩,ty,pos,after,guard⟩=(do Pure.pure (Next.value (←s argTypes ty (args.map a.eval)))):=by
    intro s hb
    simp only[execOp,resolve,pure_bind,invoke]
    exact hb
   cases b<;>(try (cases h;done))
   case append=>
    simp only at h
    cases ha:args.toList with
    | nil=>rw[ha] at h;cases h
    | cons x l=>
     cases l with
     | nil=>rw[ha] at h;cases h
     | cons y l2=>
      cases l2 with
      | cons _ _=>rw[ha] at h;cases h
      | nil=>
       cases dR:argTypes.toList with
       | nil=>rw[ha,dR] at h;cases h
       | cons t l3=>
        cases l3 with
        | nil=>rw[ha,dR] at h;cases h
        | cons u l4=>
         cases l4 with
         | cons _ _=>rw[ha,dR] at h;cases h
         | nil=>
          rw[ha,dR] at h
          simp only at h
          have e1:args= #[x,y]:=by rw[←Array.toArray_toList (xs:=args),ha]
          have e2:argTypes= #[t,u]:=by rw[←Array.toArray_toList (xs:=argTypes),dR]
          cases hu:P.underlying t with
          | none=>rw[hu] at h;cases h
          | some d=>
           rw[hu] at h
           cases d<;>(try (cases h;done))
           cases hc:Nat.beq t u with
           | true=>
            rw[hc] at h
            rw[aW] at hc
            subst hc
            have:=adr (ty:=ty) S hu (hs.ev hg t x) (hs.ev hg t y) h
            refine .val (sI Builtin.append_ rfl) ?_
            rw[e1,e2]
            simpa using this
           | false=>
            rw[hc] at h
            simp only[cond_false] at h
            have hy:=hs.ev hg u y
            cases pW:P.underlying u with
            | none=>rw[pW] at h;cases h
            | some du=>
             rw[pW] at h
             cases du<;>(try (cases h;done))
             cases uP:aT P A.aG u sl y<;>rw[uP] at h hy<;>(try (cases h;done))
             simp only at h
             obtain ⟨hb,h⟩:=aJ h
             obtain ⟨s1,q1,q2⟩:=hy.nU
             subst q2
             have:=adV (ty:=ty) S hu pW (ad4 hb) (hs.ev hg t x) h
             refine .val (sI Builtin.append_ rfl) ?_
             rw[e1,e2]
             simpa[q1] using this
   case len=>
    simp only at h
    cases ha:args.toList with
    | nil=>rw[ha] at h;cases h
    | cons x l=>
     cases l with
     | cons _ _=>rw[ha] at h;cases h
     | nil=>
      cases dR:argTypes.toList with
      | nil=>rw[ha,dR] at h;cases h
      | cons t l3=>
       cases l3 with
       | cons _ _=>rw[ha,dR] at h;cases h
       | nil=>
        rw[ha,dR] at h
        simp only at h
        have e1:args= #[x]:=by rw[←Array.toArray_toList (xs:=args),ha]
        have e2:argTypes= #[t]:=by rw[←Array.toArray_toList (xs:=argTypes),dR]
        have hx:=hs.ev hg ty x
        refine .val (sI Builtin.len_ rfl) ?_
        rw[e1,e2]
        cases hu:P.underlying t with
        | none=>rw[hu] at h;cases h
        | some d=>
         rw[hu] at h
         cases d<;>(try (cases h;done))
         ·cases gq:aT P A.aG ty sl x<;>rw[gq] at h hx<;>(try (cases h;done))
          have:=SR (t:=t) (ty:=ty) S hx (fun l hl=>hu) (fun hn=>absurd rfl (hn _)) h
          simpa using this
         ·have h2:(∀l,aT P A.aG ty sl x≠ .str l)∧(GG P (aT P A.aG ty sl x)).run C hp=some (r,rd):=by
           cases gq:aT P A.aG ty sl x<;>rw[gq] at h<;>first|(cases h;done)|exact ⟨fun l=>by simp,h⟩
          have:=SR (t:=t) (ty:=ty) S hx (fun l hl=>absurd hl (h2.1 l)) (fun _=>⟨_,hu⟩) h2.2
          simpa using this
         ·have h2:(GK (aT P A.aG ty sl x)).run C hp=some (r,rd):=by
           cases gq:aT P A.aG ty sl x<;>rw[gq] at h<;>exact h
          have:=adP (t:=t) (ty:=ty) S hu hx h2
          simpa using this
   case unsafeSliceData=>
    simp only at h
    cases ha:args.toList with
    | nil=>rw[ha] at h;cases h
    | cons x l=>
     cases l with
     | cons _ _=>rw[ha] at h;cases h
     | nil=>
      rw[ha] at h
      simp only at h
      have e1:args= #[x]:=by rw[←Array.toArray_toList (xs:=args),ha]
      have hx:=hs.ev hg ty x
      refine .val (sI Builtin.unsafeSliceData_ rfl) ?_
      rw[e1]
      cases gq:aT P A.aG ty sl x<;>rw[gq] at h hx<;>simp only at h<;>first|(cases h;done)|skip
      rename_i e id
      obtain ⟨l2,h1⟩:=run_get h
      cases af:hp id with
      | none=>rw[af] at h1;cases h1
      | some blk=>
       rw[af] at h1
       cases blk<;>simp only at h1<;>first|(cases h1;done)|skip
       rename_i e' es fz
       obtain ⟨h2,h3⟩:=aJ h1
       simp only[aL,aW,lA] at h2
       obtain ⟨rfl,h4⟩:=h2
       obtain rfl:=aS h3
       have:=ad5 (ts:=argTypes) (ty:=ty) S hx af h4
       simpa using this
   case unsafeString=>
    simp only at h
    cases ha:args.toList with
    | nil=>rw[ha] at h;cases h
    | cons x l=>
     cases l with
     | nil=>rw[ha] at h;cases h
     | cons y l2=>
      cases l2 with
      | cons _ _=>rw[ha] at h;cases h
      | nil=>
       cases dR:argTypes.toList with
       | nil=>rw[ha,dR] at h;cases h
       | cons t l3=>
        cases l3 with
        | nil=>rw[ha,dR] at h;cases h
        | cons u l4=>
         cases l4 with
         | cons _ _=>rw[ha,dR] at h;cases h
         | nil=>
          rw[ha,dR] at h
          simp only at h
          have e1:args= #[x,y]:=by rw[←Array.toArray_toList (xs:=args),ha]
          have e2:argTypes= #[t,u]:=by rw[←Array.toArray_toList (xs:=argTypes),dR]
          have hx:=hs.ev hg ty x
          have hy:=hs.ev hg ty y
          cases hu:P.underlying t with
          | none=>rw[hu] at h;cases h
          | some d=>
           rw[hu] at h
           cases d<;>(try (cases h;done))
           rename_i e
           cases gq:aT P A.aG ty sl x<;>rw[gq] at h hx<;>(try (cases h;done))
           cases uP:aT P A.aG ty sl y<;>rw[uP] at h hy<;>(try (cases h;done))
           rename_i id i c k n
           cases k<;>(try (cases h;done))
           simp only at h
           obtain ⟨l2,h1⟩:=run_get h
           cases af:hp id with
           | none=>rw[af] at h1;cases h1
           | some blk=>
            rw[af] at h1
            cases blk<;>simp only at h1<;>first|(cases h1;done)|skip
            rename_i e' es fz
            cases fz<;>simp only at h1<;>first|(cases h1;done)|skip
            obtain ⟨h2,h3⟩:=aJ h1
            simp only[aL,aW,fO,dx] at h2
            obtain ⟨rfl,h4,rfl,rfl,h5,h6,h7,h8⟩:=h2
            obtain rfl:=aS h3
            have:=ad6 (u:=u) (ty:=ty) S hu h4 hx af h5 h6 h7 h8
            refine .val (sI Builtin.unsafeString_ rfl) ?_
            rw[e1,e2]
            simpa[hy.fq] using this
   case copy=>
    simp only at h
    cases ha:args.toList with
    | nil=>rw[ha] at h;cases h
    | cons x l=>
     cases l with
     | nil=>rw[ha] at h;cases h
     | cons y l2=>
      cases l2 with
      | cons _ _=>rw[ha] at h;cases h
      | nil=>
       cases dR:argTypes.toList with
       | nil=>rw[ha,dR] at h;cases h
       | cons t l3=>
        cases l3 with
        | nil=>rw[ha,dR] at h;cases h
        | cons u l4=>
         cases l4 with
         | cons _ _=>rw[ha,dR] at h;cases h
         | nil=>
          rw[ha,dR] at h
          simp only at h
          have e1:args= #[x,y]:=by rw[←Array.toArray_toList (xs:=args),ha]
          have e2:argTypes= #[t,u]:=by rw[←Array.toArray_toList (xs:=argTypes),dR]
          cases hu:P.underlying t with
          | none=>rw[hu] at h;cases h
          | some d=>
           rw[hu] at h
           cases d<;>(try (cases h;done))
           have:=adw (u:=u) (ty:=ty) S hu (hs.ev hg t x) (hs.ev hg u y) h
           refine .val (sI Builtin.copy_ rfl) ?_
           rw[e1,e2]
           simpa using this
   case clear=>
    simp only at h
    cases ha:args.toList with
    | nil=>rw[ha] at h;cases h
    | cons x l=>
     cases l with
     | cons _ _=>rw[ha] at h;cases h
     | nil=>
      cases dR:argTypes.toList with
      | nil=>rw[ha,dR] at h;cases h
      | cons t l3=>
       cases l3 with
       | cons _ _=>rw[ha,dR] at h;cases h
       | nil=>
        rw[ha,dR] at h
        simp only at h
        have e1:args= #[x]:=by rw[←Array.toArray_toList (xs:=args),ha]
        have e2:argTypes= #[t]:=by rw[←Array.toArray_toList (xs:=argTypes),dR]
        cases hu:P.underlying t with
        | none=>rw[hu] at h;cases h
        | some d=>
         rw[hu] at h
         cases d<;>(try (cases h;done))
         have:=adx (ty:=ty) S hu (hs.ev hg t x) h
         refine .val (sI Builtin.clear_ rfl) ?_
         rw[e1,e2]
         simpa using this
   case max=>
    simp only at h
    cases ha:args.toList with
    | nil=>rw[ha] at h;cases h
    | cons x l=>
     rw[ha] at h
     simp only at h
     have:=L8 S true (vs:=l.map a.eval) (xs:=l.map (aT P A.aG ty sl)) (hs.ev hg ty x) (by simp) (fun j u y hu hy=>by
      simp only[fF] at hu hy
      cases hl:l[j]? with
      | none=>rw[hl] at hu;cases hu
      | some z=>rw[hl] at hu hy;cases hu;cases hy;exact hs.ev hg ty z) h
     refine .val (sI Builtin.max_ rfl) ?_
     simpa[Builtin.max_,ha] using this
   case min=>
    simp only at h
    cases ha:args.toList with
    | nil=>rw[ha] at h;cases h
    | cons x l=>
     rw[ha] at h
     simp only at h
     have:=L8 S false (vs:=l.map a.eval) (xs:=l.map (aT P A.aG ty sl)) (hs.ev hg ty x) (by simp) (fun j u y hu hy=>by
      simp only[fF] at hu hy
      cases hl:l[j]? with
      | none=>rw[hl] at hu;cases hu
      | some z=>rw[hl] at hu hy;cases hu;cases hy;exact hs.ev hg ty z) h
     refine .val (sI Builtin.min_ rfl) ?_
     simpa[Builtin.min_,ha] using this
end
section
variable {P:Program} {A:cU} {w w':World} {I I' I2:Nat→Prop} {μ β av:Nat→Option Nat} {hp hp':Nat→Option aj} {C:ae} {B:Nat} {M:Nat→Prop} {w0:Start}
theorem yW: ∀{l m:List Nat},fw.pJ l m=true→l=m
 | [],[],_=>rfl
 | [],_::_,h=>by cases h
 | _::_,[],h=>by cases h
 | a::l,b::m,h=>by
  simp only[fw.pJ,aL,aW] at h
  rw[h.1,yW h.2]
@[simp] theorem T9 (n:Nat):mi (ff n)=n:=by simp[mi,ff,V.toInt]
theorem HF: ∀(path:List (Nat × Nat)) (rest:List V),Br (path.map (·.2)) ((path.map fun p=>ff p.1)++rest)=path
 | [],_=>rfl
 | p::l,rest=>by
  simp only[ki,List.cons_append,Br,V.nth,T9,ji,ig,HF l rest]
theorem HG {l:LS} {x:V} {ds:List V} (h:fw l x=some ds):ds.length=l.size∧(l= .uk∨∀rest,jL l (ds++rest)=x):=by
 cases l with
 | uk=>simp only[fw,ez] at h;subst h;exact ⟨rfl,.inl rfl⟩
 | int k=>
  cases x<;>simp only[fw] at h<;>first|(cases h;done)|skip
  rename_i k' n
  by_cases hk:k=k'
  ·subst hk
   simp only[pE,cond_true,ez] at h
   subst h
   exact ⟨rfl,.inr fun _=>rfl⟩
  ·simp[hk] at h
 | bool=>
  cases x<;>simp only[fw] at h<;>first|(cases h;done)|skip
  cases h
  exact ⟨rfl,.inr fun _=>rfl⟩
 | str=>
  cases x<;>simp only[fw] at h<;>first|(cases h;done)|skip
  cases h
  exact ⟨rfl,.inr fun _=>rfl⟩
 | list e=>
  cases x<;>simp only[fw] at h<;>first|(cases h;done)|skip
  rename_i e' es
  cases hb:Nat.beq e e' with
  | false=>rw[hb] at h;cases h
  | true=>
   rw[hb] at h
   rw[aW] at hb
   subst hb
   cases h
   exact ⟨rfl,.inr fun _=>rfl⟩
 | whole e j=>
  cases x<;>simp only[fw] at h<;>first|(cases h;done)|skip
  rename_i e' id
  cases hb:(Nat.beq e e'&&Nat.beq j id) with
  | false=>rw[hb] at h;cases h
  | true=>
   rw[hb] at h
   simp only[aL,aW] at hb
   obtain ⟨rfl,rfl⟩:=hb
   cases h
   exact ⟨rfl,.inr fun _=>rfl⟩
 | sub e j=>
  cases x<;>simp only[fw] at h<;>first|(cases h;done)|skip
  rename_i e' id o n
  cases hb:(Nat.beq e e'&&Nat.beq j id) with
  | false=>rw[hb] at h;cases h
  | true=>
   rw[hb] at h
   simp only[aL,aW] at hb
   obtain ⟨rfl,rfl⟩:=hb
   cases h
   exact ⟨rfl,.inr fun _=>by simp[jL,V.nth]⟩
 | ptr j=>
  cases x<;>simp only[fw] at h<;>first|(cases h;done)|skip
  rename_i id i c
  cases hb:(Nat.beq j id) with
  | false=>rw[hb] at h;cases h
  | true=>
   rw[hb] at h
   rw[aW] at hb
   subst hb
   cases h
   exact ⟨rfl,.inr fun _=>by simp[jL,V.nth]⟩
 | eZ j i c=>
  cases x<;>simp only[fw] at h<;>first|(cases h;done)|skip
  rename_i id i' c'
  cases hb:(Nat.beq j id&&(Nat.beq i i'&&Nat.beq c c')) with
  | false=>rw[hb] at h;cases h
  | true=>
   rw[hb] at h
   simp only[aL,aW] at hb
   obtain ⟨rfl,rfl,rfl⟩:=hb
   cases h
   exact ⟨rfl,.inr fun _=>rfl⟩
 | nilS e=>
  cases x<;>simp only[fw] at h<;>first|(cases h;done)|skip
  rename_i e'
  cases hb:Nat.beq e e' with
  | false=>rw[hb] at h;cases h
  | true=>
   rw[hb] at h
   rw[aW] at hb
   subst hb
   cases h
   exact ⟨rfl,.inr fun _=>rfl⟩
 | eb=>
  cases x<;>simp only[fw] at h<;>first|(cases h;done)|skip
  cases h
  exact ⟨rfl,.inr fun _=>rfl⟩
 | cb e j=>
  cases x<;>simp only[fw] at h<;>first|(cases h;done)|skip
  rename_i e' id
  cases hb:(Nat.beq e e'&&Nat.beq j id) with
  | false=>rw[hb] at h;cases h
  | true=>
   rw[hb] at h
   simp only[aL,aW] at hb
   obtain ⟨rfl,rfl⟩:=hb
   cases h
   exact ⟨rfl,.inr fun _=>rfl⟩
 | ed e=>
  cases x<;>simp only[fw] at h<;>first|(cases h;done)|skip
  rename_i e'
  cases hb:Nat.beq e e' with
  | false=>rw[hb] at h;cases h
  | true=>
   rw[hb] at h
   rw[aW] at hb
   subst hb
   cases h
   exact ⟨rfl,.inr fun _=>rfl⟩
 | yg k n=>
  cases x<;>simp only[fw] at h<;>first|(cases h;done)|skip
  rename_i k' m
  cases hb:(decide (k=k')&&decide (m=n)) with
  | false=>rw[hb] at h;cases h
  | true=>
   rw[hb] at h
   simp only[aL,dx] at hb
   obtain ⟨rfl,rfl⟩:=hb
   cases h
   exact ⟨rfl,.inr fun _=>rfl⟩
 | row e j cs=>
  cases x<;>simp only[fw] at h<;>first|(cases h;done)|skip
  rename_i e' id ver path
  cases hb:(Nat.beq e e'&&(Nat.beq j id&&(Nat.beq ver 0&&fw.pJ cs (path.map (·.2))))) with
  | false=>rw[hb] at h;cases h
  | true=>
   rw[hb] at h
   simp only[aL,aW] at hb
   obtain ⟨rfl,rfl,rfl,pR⟩:=hb
   have:=yW pR
   subst this
   cases h
   exact ⟨by simp[LS.size],.inr fun rest=>by simp only[jL,HF]⟩
 | cS j cs c=>
  cases x<;>simp only[fw] at h<;>first|(cases h;done)|skip
  rename_i id ver path i c'
  cases hb:(Nat.beq j id&&(Nat.beq ver 0&&(Nat.beq c c'&&fw.pJ cs (path.map (·.2))))) with
  | false=>rw[hb] at h;cases h
  | true=>
   rw[hb] at h
   simp only[aL,aW] at hb
   obtain ⟨rfl,rfl,rfl,pR⟩:=hb
   have:=yW pR
   subst this
   cases h
   exact ⟨by simp[LS.size],.inr fun rest=>by simp only[jL,List.cons_append,V.nth,T9,ji,ig,HF]⟩
def LS.below (n:Nat) (x:V):Prop:= ∀id∈fo x,id<n
def Ua:V→Prop
 | .agg _=>False
 | .bw _=>False
 | .fn .. =>False
 | .pref .. =>False
 | _=>True
theorem wo {c:Bool} {a d:List V} (h:(bif c then some a else none)=some d):c=true:=by
 cases c with
 | true=>rfl
 | false=>cases h
theorem ad9 {l:LS} {x:V} {ds:List V} {n:Nat} (h:fw l x=some ds) (hl:l≠ .uk) (az:l.ok n=true):Ua x∧LS.below n x:=by
 cases l<;>cases x<;>simp only[fw] at h<;>first|(cases h;done)|(exact absurd rfl hl)|skip
 all_goals refine ⟨trivial,fun id af=> ?_⟩
 all_goals simp only[fo,iO,List.not_mem_nil] at af
 all_goals subst af
 all_goals simp only[LS.ok,lA] at az
 all_goals
  have hb:=wo h
  simp only[aL,aW] at hb
  omega
theorem an.aea {v:Value} {x:V} (h:an P w I β hp v x) (hx:Ua x) (hs: ∀id∈fo x,hp' id=hp id∧av id=β id):an P w I av hp' v x:=by
 have one: ∀{id},id∈fo x→hp' id=hp id∧av id=β id:=fun h=>hs _ h
 cases h with
 | undef=>exact .undef
 | int=>exact .int
 | bool=>exact .bool
 | str h=>exact .str h
 | list h=>exact .list h
 | nilS=>exact .nilS
 | agg=>exact hx.elim
 | bw=>exact hx.elim
 | eb=>exact .eb
 | fn=>exact hx.elim
 | pref=>exact hx.elim
 | fh h=>exact .fh ((one (by simp[fo])).1.trans h)
 | ij h=>exact .ij ((one (by simp[fo])).1.trans h)
 | lM h=>exact .lM ((one (by simp[fo])).1.trans h)
 | eJ h hb=>exact .eJ ((one (by simp[fo])).1.trans h) ((one (by simp[fo])).2.trans hb)
 | whole h hb a b c=>exact .whole ((one (by simp[fo])).1.trans h) ((one (by simp[fo])).2.trans hb) a b c
 | fp h hb a b c=>exact .fp ((one (by simp[fo])).1.trans h) ((one (by simp[fo])).2.trans hb) a b c
 | g9 h hb=>exact .g9 ((one (by simp[fo])).1.trans h) ((one (by simp[fo])).2.trans hb)
 | sub h hb a b c=>exact .sub ((one (by simp[fo])).1.trans h) ((one (by simp[fo])).2.trans hb) a b c
 | ptr h hd hb=>exact .ptr ((one (by simp[fo])).1.trans h) hd ((one (by simp[fo])).2.trans hb)
 | kQ h sD=>exact .kQ ((one (by simp[fo])).1.trans h) sD
 | kR h sD=>exact .kR ((one (by simp[fo])).1.trans h) sD
 | row h hb a b c d=>exact .row ((one (by simp[fo])).1.trans h) ((one (by simp[fo])).2.trans hb) a b c d
 | cS h hb a b c d e=>exact .cS ((one (by simp[fo])).1.trans h) ((one (by simp[fo])).2.trans hb) a b c d e
 | ed=>exact .ed
 | js h=>exact .js ((one (by simp[fo])).1.trans h)
 | cb h hb=>exact .cb ((one (by simp[fo])).1.trans h) ((one (by simp[fo])).2.trans hb)
theorem pc {a b:List V} {n:Nat} (h:a.length=n):(a++b).drop n=b:=by subst h;simp
def Ch (n:Nat) (β:Nat→Option Nat) (hp:Nat→Option aj) (av:Nat→Option Nat) (hp':Nat→Option aj):Prop:= ∀id,id<n→hp' id=hp id∧av id=β id
theorem Ub {l:LS} {x:V} {ds:List V} {n:Nat} {v:Value} (h:fw l x=some ds) (az:l.ok n=true) (jX:Ch n β hp av hp') (hv:an P w I β hp v x) (rest:List V):
  an P w I av hp' v (jL l (ds++rest)):=by
 rcases (HG h).2 with e|e
 ·subst e;exact .undef
 ·rw[e rest]
  by_cases hu:l= .uk
  ·subst hu
   have:x= .undef:=(e rest).symm
   subst this
   exact .undef
  ·obtain ⟨h1,h2⟩:=ad9 h hu az
   exact hv.aea h1 fun id af=>jX id (h2 id af)
theorem Ci {n:Nat} (jX:Ch n β hp av hp'): ∀{ls:List LS} {xs:List V} {ds:List V},qz ls xs=some ds→ls.all (LS.ok n)=true→
  ds.length=lH ls∧(∀rest,(jk ls (ds++rest)).length=xs.length)∧
  ∀(rest:List V) (j:Nat) (v:Value) (y:V),(∀x,xs[j]? =some x→an P w I β hp v x)→(jk ls (ds++rest))[j]? =some y→an P w I av hp' v y
 | [],[],ds,h,_=>by cases h;exact ⟨rfl,fun _=>rfl,fun rest j v y _ hy=>by simp[jk] at hy⟩
 | [],_::_,ds,h,_=>by cases h
 | _::_,[],ds,h,_=>by cases h
 | l::ls,x::xs,ds,h,az=>by
  simp only[qz] at h
  obtain ⟨a,h1,h⟩:=bind_some h
  obtain ⟨b,h2,h⟩:=bind_some h
  cases h
  simp only[List.all_cons,aL] at az
  obtain ⟨i1,i2,i3⟩:=Ci jX h2 az.2
  have cC:=(HG h1).1
  have hd: ∀rest,(a++b++rest).drop l.size=b++rest:=fun rest=>by rw[dK];exact pc cC
  refine ⟨by simp only[dO,lH];omega,fun rest=>by simp only[jk,List.length_cons,hd,i2],fun rest j v y hv hy=> ?_⟩
  simp only[jk,hd] at hy
  cases j with
  | zero=>
   simp at hy
   subst hy
   exact Ub h1 az.1 jX (hv x rfl) _
  | succ j=>exact i3 rest j v y (fun x hx=>hv x (by simpa using hx)) (by simpa using hy)
theorem Mp: ∀{ls:List LS} {xs:List V} {ds:List V},qz ls xs=some ds→ls.all LS.plain=true→ds.length=lH ls∧∀rest,jk ls (ds++rest)=xs
 | [],[],ds,h,_=>by cases h;exact ⟨rfl,fun _=>rfl⟩
 | [],_::_,ds,h,_=>by cases h
 | _::_,[],ds,h,_=>by cases h
 | l::ls,x::xs,ds,h,az=>by
  simp only[qz] at h
  obtain ⟨a,h1,h⟩:=bind_some h
  obtain ⟨b,h2,h⟩:=bind_some h
  cases h
  simp only[List.all_cons,aL] at az
  obtain ⟨i1,i2⟩:=Mp h2 az.2
  obtain ⟨cC,hm⟩:=HG h1
  refine ⟨by simp only[dO,lH];omega,fun rest=> ?_⟩
  simp only[jk]
  rw[show (a++b++rest).drop l.size=b++rest by rw[dK];exact pc cC,i2,dK]
  rcases hm with e|e
  ·subst e;cases az.1
  ·rw[e]
theorem Mq {n:Nat} (jX:Ch n β hp av hp') {s:VS} {x:V} {ds:List V} (h:qA s x=some ds) (az:s.ok n=true):
  ds.length=s.size∧∀(rest:List V) (v:Value),an P w I β hp v x→an P w I av hp' v (ml s (ds++rest)):=by
 cases s with
 | one l=>exact ⟨(HG h).1,fun rest v hv=>Ub h az jX hv rest⟩
 | agg ls=>
  cases x<;>simp only[qA] at h<;>first|(cases h;done)|skip
  rename_i xs
  obtain ⟨i1,i2,i3⟩:=Ci (P:=P) (w:=w) (I:=I) jX h az
  refine ⟨i1,fun rest v hv=> ?_⟩
  obtain ⟨cs,rfl,e1,e2⟩:=hv.mr
  exact .agg (by rw[i2];exact e1) fun j v y hj hy=>i3 rest j v y (fun x hx=>e2 j v x hj hx) hy
 | bw ls=>
  cases x<;>simp only[qA] at h<;>first|(cases h;done)|skip
  rename_i xs
  obtain ⟨i1,i2,i3⟩:=Ci (P:=P) (w:=w) (I:=I) jX h az
  refine ⟨i1,fun rest v hv=> ?_⟩
  obtain ⟨cs,rfl,e1,e2⟩:=hv.vY
  exact .bw (by rw[i2];exact e1) fun j v y hj hy=>i3 rest j v y (fun x hx=>e2 j v x hj hx) hy
 | fn f a b=>
  cases x<;>simp only[qA] at h<;>first|(cases h;done)|skip
  rename_i f' xs ys
  cases hb:Nat.beq f f' with
  | false=>rw[hb] at h;cases h
  | true=>
   rw[hb] at h
   rw[aW] at hb
   subst hb
   simp only[cond_true] at h
   obtain ⟨p,h1,h⟩:=bind_some h
   obtain ⟨q,h2,h⟩:=bind_some h
   cases h
   simp only[VS.ok,aL] at az
   obtain ⟨i1,i2,i3⟩:=Ci (P:=P) (w:=w) (I:=I) jX h1 az.1
   obtain ⟨j1,j2,j3⟩:=Ci (P:=P) (w:=w) (I:=I) jX h2 az.2
   refine ⟨by simp only[dO,VS.size];omega,fun rest v hv=> ?_⟩
   cases hv with
   | fn a1 a2 b1 b2=>
    simp only[ml]
    rw[show (p++q++rest).drop (lH a)=q++rest by rw[dK];exact pc i1,dK]
    exact .fn (by rw[i2];exact a1) (fun j v y hj hy=>i3 _ j v y (fun x hx=>a2 j v x hj hx) hy) (by rw[j2];exact b1) (fun j v y hj hy=>j3 _ j v y (fun x hx=>b2 j v x hj hx) hy)
 | pref ts ls=>
  cases x<;>simp only[qA] at h<;>first|(cases h;done)|skip
  rename_i yn xs
  cases hb:fw.pJ ts yn with
  | false=>rw[hb] at h;cases h
  | true=>
   rw[hb] at h
   have:=yW hb
   subst this
   simp only[cond_true] at h
   refine ⟨?_,fun rest v hv=> ?_⟩
   ·exact (Mp h az).1
   ·simp only[ml]
    rw[(Mp h az).2]
    cases hv with
    | pref hl hI hc=>exact .pref hl hI hc
theorem Cj {n:Nat} (jX:Ch n β hp av hp'): ∀{ls:List VS} {xs:List V} {ds:List V},ua ls xs=some ds→ls.all (VS.ok n)=true→
  ds.length=uy ls∧(∀rest,(gC ls (ds++rest)).length=xs.length)∧
  ∀(rest:List V) (j:Nat) (v:Value) (y:V),(∀x,xs[j]? =some x→an P w I β hp v x)→(gC ls (ds++rest))[j]? =some y→an P w I av hp' v y
 | [],[],ds,h,_=>by cases h;exact ⟨rfl,fun _=>rfl,fun rest j v y _ hy=>by simp[gC] at hy⟩
 | [],_::_,ds,h,_=>by cases h
 | _::_,[],ds,h,_=>by cases h
 | l::ls,x::xs,ds,h,az=>by
  simp only[ua] at h
  obtain ⟨a,h1,h⟩:=bind_some h
  obtain ⟨b,h2,h⟩:=bind_some h
  cases h
  simp only[List.all_cons,aL] at az
  obtain ⟨i1,i2,i3⟩:=Cj jX h2 az.2
  obtain ⟨cC,yS⟩:=Mq (P:=P) (w:=w) (I:=I) jX h1 az.1
  have hd: ∀rest,(a++b++rest).drop l.size=b++rest:=fun rest=>by rw[dK];exact pc cC
  refine ⟨by simp only[dO,uy];omega,fun rest=>by simp only[gC,List.length_cons,hd,i2],fun rest j v y hv hy=> ?_⟩
  simp only[gC,hd] at hy
  cases j with
  | zero=>
   simp at hy
   subst hy
   exact yS _ v (hv x rfl)
  | succ j=>exact i3 rest j v y (fun x hx=>hv x (by simpa using hx)) (by simpa using hy)
end
section
variable {P:Program} {A:cU} {w w':World} {I I' I2:Nat→Prop} {μ β av:Nat→Option Nat} {hp hp' hp0:Nat→Option aj} {C:ae} {B:Nat} {M:Nat→Prop} {w0:Start}
theorem ja: ∀{l:List aj} {j:Nat},kP l j=l[j]?
 | [],j=>by simp[kP]
 | b::l,0=>rfl
 | b::l,j+1=>by simp only[kP,ja,List.getElem?_cons_succ]
theorem Mr {sl:Nat→V} {k:Nat} {y:V}: ∀{l:List (Nat × VS)} {ds:List V},Bp sl l=some ds→(∀p∈l,∀d,qA p.2 (sl p.1)=some d→d.length=p.2.size)→
  ds.length=pK l∧∀rest,eI (gm l (ds++rest)) k=some y→∃s d iq,(k,s)∈l∧qA s (sl k)=some d∧y=ml s (d++iq)
 | [],ds,h,_=>by cases h;exact ⟨rfl,fun rest h=>by cases h⟩
 | (q,s)::l,ds,h,hz=>by
  simp only[Bp] at h
  obtain ⟨a,h1,h⟩:=bind_some h
  obtain ⟨b,h2,h⟩:=bind_some h
  cases h
  obtain ⟨i1,i2⟩:=Mr (k:=k) (y:=y) h2 fun p hp=>hz p (nJ _ hp)
  have cC:=hz (q,s) (uh ..) a h1
  refine ⟨by simp only[dO,pK];simp only at cC;omega,fun rest hl=> ?_⟩
  simp only[gm,eI] at hl
  rw[show (a++b++rest).drop s.size=b++rest by rw[dK];exact pc cC] at hl
  cases hb:Nat.beq k q with
  | true=>
   rw[hb] at hl
   rw[aW] at hb
   subst hb
   cases hl
   exact ⟨s,a,b++rest,uh ..,h1,by rw[dK]⟩
  | false=>
   rw[hb] at hl
   obtain ⟨s',d,iq,m1,m2,m3⟩:=i2 rest hl
   exact ⟨s',d,iq,nJ _ m1,m2,m3⟩
theorem Ms {α:Type} {c:Bool} {x:Option α} {a:α} (h:(bif c then x else none)=some a):c=true∧x=some a:=by
 cases c with
 | true=>exact ⟨rfl,h⟩
 | false=>cases h
theorem aeb {n:Nat} {b:BS} {o:Option aj} {ds:List V} (h:mj b o=some ds) (az:b.ok n=true):ds.length=b.size:=by
 cases b with
 | dead=>cases o<;>(cases h;rfl)
 | var T0 ls=>
  cases o with
  | none=>cases h
  | some blk=>
   cases blk<;>simp only[mj] at h<;>first|(cases h;done)|skip
   exact (Cj (P:=default) (w:=default) (I:=fun _=>False) (β:=fun _=>none) (hp:=fun _=>none) (fun _ _=>⟨rfl,rfl⟩) (Ms h).2 az).1
 | arr e fz=>
  cases o with
  | none=>cases h
  | some blk=>
   cases blk<;>simp only[mj] at h<;>first|(cases h;done)|skip
   rw[wo h] at h
   cases h
   rfl
 | nest e=>
  cases o with
  | none=>cases h
  | some blk=>
   cases blk<;>simp only[mj] at h<;>first|(cases h;done)|skip
   rw[wo h] at h
   cases h
   rfl
 | map t=>
  cases o with
  | none=>cases h
  | some blk=>
   cases blk<;>simp only[mj] at h<;>first|(cases h;done)|skip
   rw[wo h] at h
   cases h
   rfl
theorem Uc {n:Nat}: ∀{l:List BS} {j:Nat} {ds:List V},Bq hp j l=some ds→l.all (BS.ok n)=true→
  (∀rest,(fI l (ds++rest)).length=l.length)∧∀(rest:List V) (i:Nat) (blk:aj),(fI l (ds++rest))[i]? =some blk→∃b d iq,l[i]? =some b∧b.ok n=true∧mj b (hp (j+i))=some d∧blk=gW b (d++iq)
 | [],j,ds,h,_=>by cases h;exact ⟨fun _=>rfl,fun rest i blk hb=>by simp[fI] at hb⟩
 | b::l,j,ds,h,az=>by
  simp only[Bq] at h
  obtain ⟨a,h1,h⟩:=bind_some h
  obtain ⟨c,h2,h⟩:=bind_some h
  cases h
  simp only[List.all_cons,aL] at az
  obtain ⟨i1,i2⟩:=Uc h2 az.2
  have cC:=aeb h1 az.1
  have hd: ∀rest,(a++c++rest).drop b.size=c++rest:=fun rest=>by rw[dK];exact pc cC
  refine ⟨fun rest=>by simp only[fI,List.length_cons,hd,i1],fun rest i blk hb=> ?_⟩
  simp only[fI,hd] at hb
  cases i with
  | zero=>
   simp at hb
   exact ⟨b,a,c++rest,rfl,az.1,h1,by rw[←hb]⟩
  | succ i=>
   obtain ⟨b',d,iq,m1,m2,m3,m4⟩:=i2 rest i blk (by simpa using hb)
   exact ⟨b',d,iq,by simpa using m1,m2,by rw[show j+(i+1)=j+1+i by omega];exact m3,m4⟩
theorem aec {n:Nat} {b:BS} {blk:aj} {ds rest:List V} (h:mj b (some blk)=some ds) (az:b.ok n=true):
  blk.le (gW b (ds++rest))∧(gW b (ds++rest)= .dead∨gW b (ds++rest)=blk∨∃T ls cs,b= .var T ls∧blk= .var T cs∧ua ls cs=some ds∧gW b (ds++rest)= .var T (gC ls (ds++rest))):=by
 cases b with
 | dead=>exact ⟨by cases blk<;>trivial,.inl rfl⟩
 | var T0 ls=>
  cases blk<;>simp only[mj] at h<;>first|(cases h;done)|skip
  obtain ⟨hT,h0⟩:=Ms h
  clear h
  rw[aW] at hT
  subst hT
  exact ⟨rfl,.inr (.inr ⟨_,_,_,rfl,rfl,h0,rfl⟩)⟩
 | arr e fz=>
  cases blk<;>simp only[mj] at h<;>first|(cases h;done)|skip
  rename_i e' es oV
  have hb:=wo h
  simp only[aL,aW,beq_iff_eq] at hb
  obtain ⟨rfl,rfl⟩:=hb
  simp only[kO,beq_self_eq_true,A4,cond_true,ez] at h
  subst h
  exact ⟨⟨rfl,rfl⟩,.inr (.inl rfl)⟩
 | nest e=>
  cases blk<;>simp only[mj] at h<;>first|(cases h;done)|skip
  rename_i e' es ao
  have hb:=wo h
  simp only[aL,aW] at hb
  obtain ⟨rfl,hv⟩:=hb
  have:=yW hv
  subst this
  simp only[kO,qs] at h
  cases h
  exact ⟨⟨rfl,rfl,rfl,fun _=>aE _⟩,.inr (.inl rfl)⟩
 | map t=>
  cases blk<;>simp only[mj] at h<;>first|(cases h;done)|skip
  rename_i t' es
  have hb:=wo h
  rw[aW] at hb
  subst hb
  simp only[kO,cond_true,ez] at h
  subst h
  exact ⟨rfl,.inr (.inl rfl)⟩
theorem Ud {m:Nat} {S:Shape} {st:St} {ds:List V} (h:jN m S st=some ds):
  S.ok=true∧m≤S.aZ.length∧∃a b,Bp st.sl S.bQ=some a∧Bq st.hp 0 S.aZ=some b∧ds=a++b:=by
 unfold jN at h
 cases hc:(S.ok&&Nat.ble m S.aZ.length) with
 | false=>rw[hc] at h;cases h
 | true=>
  rw[hc] at h
  simp only[cond_true] at h
  simp only[aL,fO] at hc
  obtain ⟨a,h1,h⟩:=bind_some h
  obtain ⟨b,h2,h⟩:=bind_some h
  cases h
  exact ⟨hc.1,hc.2,a,b,h1,h2,rfl⟩
theorem reshape {m:Nat} {S:Shape} {st:St} {ds:List V} (h:jN m S st=some ds) (hS:aI P w I β st.hp B M w0):
  aI P w I β (bB S ds).hp B M w0∧(∀(k:Nat) (v:Value),an P w I β st.hp v (st.sl k)→an P w I β (bB S ds).hp v ((bB S ds).sl k))∧
  (∀(μ:Nat→Option Nat) (hp0:Nat→Option aj),(∀id blk,hp0 id=some blk→id<m)→Le P w0.w w0.I μ hp0 w I β st.hp→Le P w0.w w0.I μ hp0 w I β (bB S ds).hp)∧
  ∀j blk',(bB S ds).hp j=some blk'→blk'≠ .dead→∃blk,st.hp j=some blk∧blk.le blk'∧∀o b,bL P w o blk' b→bL P w o blk b:=by
 obtain ⟨az,hm,a,b,h1,h2,rfl⟩:=Ud h
 unfold Shape.ok at az
 rw[aL] at az
 obtain ⟨Ue,Ma⟩:=az
 have a9: ∀p∈S.bQ,∀d,qA p.2 (st.sl p.1)=some d→d.length=p.2.size:=fun p hp d hd=>
  (Mq (P:=P) (w:=w) (I:=I) (β:=β) (hp:=st.hp) (fun _ _=>⟨rfl,rfl⟩) hd (gl.1 Ue p hp)).1
 have cC:a.length=pK S.bQ:=(Mr (k:=0) (y:= .undef) h1 a9).1
 have Hu:(bB S (a++b)).hp=kP (fI S.aZ (b++[])):=by
  simp only[bB,mk,iQ]
  rw[pc cC]
 obtain ⟨bl,bg⟩:=Uc h2 Ma
 have get: ∀j blk',(bB S (a++b)).hp j=some blk'→j<S.aZ.length∧∃bs d iq,bs.ok S.aZ.length=true∧mj bs (st.hp j)=some d∧blk'=gW bs (d++iq):=by
  intro j blk' hj
  rw[Hu,ja] at hj
  obtain ⟨bs,d,iq,m1,m2,m3,m4⟩:=bg [] j blk' hj
  rw[fe] at m3
  exact ⟨(bE.1 m1).1,bs,d,iq,m2,m3,m4⟩
 have have': ∀j,j<S.aZ.length→∃blk',(bB S (a++b)).hp j=some blk':=by
  intro j hj
  rw[Hu,ja]
  exact ⟨_,bM (by rw[bl];exact hj)⟩
 generalize iW:(bB S (a++b)).hp=wq at*
 let bG:Nat→Option aj:=fun id=>if id<S.aZ.length then wq id else st.hp id
 have back: ∀j blk',wq j=some blk'→blk'≠ .dead→∃blk,st.hp j=some blk∧blk.le blk'∧(blk'=blk∨∃T ls cs d iq,ls.all (VS.ok S.aZ.length)=true∧blk= .var T cs∧ua ls cs=some d∧blk'= .var T (gC ls (d++iq))):=by
  intro j blk' hj hd
  obtain ⟨dt,bs,d,iq,m1,m2,m3⟩:=get j blk' hj
  cases cd:st.hp j with
  | none=>
   rw[cd] at m2
   cases bs<;>simp only[mj] at m2<;>first|(cases m2;done)|skip
   exact absurd m3 hd
  | some blk=>
   rw[cd] at m2
   obtain ⟨n1,n2⟩:=aec (rest:=iq) m2 m1
   rw[←m3] at n1 n2
   refine ⟨blk,rfl,n1,?_⟩
   rcases n2 with e|e|⟨T,ls,cs,e1,e2,e3,e4⟩
   ·exact absurd e hd
   ·exact .inl e
   ·subst e1
    exact .inr ⟨T,ls,cs,d,iq,m1,e2,e3,e4⟩
 have le1: ∀j blk,st.hp j=some blk→j<S.aZ.length→∃blk',wq j=some blk'∧blk.le blk':=by
  intro j blk hj dt
  obtain ⟨blk',aB⟩:=have' j dt
  refine ⟨blk',aB,?_⟩
  by_cases hd:blk'= .dead
  ·subst hd;cases blk<;>trivial
  ·obtain ⟨cm,e1,e2,_⟩:=back j blk' aB hd
   rw[hj] at e1;cases e1
   exact e2
 have aed: ∀j e es ao e' aQ vers',st.hp j=some (.nest e es ao)→wq j=some (.nest e' aQ vers')→e'=e∧aQ=es∧vers'=ao:=by
  intro j e es ao e' aQ vers' hj hG
  obtain ⟨blk,e1,_,e3⟩:=back j _ hG (by simp)
  rw[hj] at e1;cases e1
  rcases e3 with e3|⟨_,_,_,_,_,_,e3,_⟩
  ·cases e3;exact ⟨rfl,rfl,rfl⟩
  ·cases e3
 have hle:Le P w I β st.hp w I β bG:=by
  refine ⟨fun _ h=>h,fun _ _=>rfl,fun id blk af=> ?_,fun _ _ _ _ _ _ _ _=>rfl,Le.uE (fun _ _ _ _ _ _=>rfl) fun id e es ao e' aQ vers' af bO=> ?_⟩
  ·by_cases hl:id<S.aZ.length
   ·obtain ⟨blk',e1,e2⟩:=le1 id blk af hl
    exact ⟨blk',by simp only[bG,ag hl];exact e1,e2,fun _=>rfl⟩
   ·exact ⟨blk,by simp only[bG,ah hl];exact af,aj.le_refl _,fun _=>rfl⟩
  ·by_cases hl:id<S.aZ.length
   ·simp only[bG,ag hl] at bO
    exact aed _ _ _ _ _ _ _ af bO
   ·simp only[bG,ah hl] at bO
    rw[af] at bO;cases bO
    exact ⟨rfl,rfl,rfl⟩
 have jX:Ch S.aZ.length β bG β wq:=fun id af=>⟨by simp only[bG,ag af],rfl⟩
 have yL: ∀j blk' blk o b,wq j=some blk'→st.hp j=some blk→bL P w o blk' b→bL P w o blk b:=by
  intro j blk' blk o b hG hj ho
  obtain ⟨cm,e1,_,e3⟩:=back j blk' hG ho.alive
  rw[hj] at e1;cases e1
  rcases e3 with e3|⟨T,ls,cs,d,iq,_,e3,_,e5⟩
  ·subst e3;exact ho
  ·subst e3;subst e5
   exact .root (by simp) (ho.flat (by simp))
 refine ⟨⟨⟨fun j blk' hj=> ?_,fun j1 j2 b1 b2 b' e1 e2 o1 o2=> ?_,fun j blk b' hj ho=> ?_,hS.h.kS⟩,hS.cB,hS.size,hS.new,hS.io⟩,fun k v hv=> ?_,fun μ hp0 aX hE=> ?_,fun j blk' hj hd=> ?_⟩
 ·by_cases hd:blk'= .dead
  ·subst hd;exact .dead
  ·obtain ⟨blk,e1,_,e3⟩:=back j blk' hj hd
   have hr:=hS.h.rel j blk e1
   generalize β j=o at hr
   rcases e3 with e3|⟨T0,ls,cs,d,iq,q1,e3,e4,e5⟩
   ·subst e3
    cases hr with
    | @var xs b' Ca T hb hh hs dh hx il=>
     obtain ⟨dt,bs,d,iq,m1,m2,m3⟩:=get j _ hj
     rw[e1] at m2
     cases bs<;>simp only[mj] at m2<;>first|(cases m2;done)|skip
     ·rename_i T0 ls
      simp only[gW] at m3
      obtain ⟨hT,m2⟩:=Ms m2
      obtain ⟨i1,i2,i3⟩:=Cj (P:=P) (w:=w) (I:=I) jX m2 m1
      injection m3 with m4 m3
      rw[m3]
      exact .var hb hh (by rw[i2];exact hs) dh (fun i v y hi hy=>i3 iq i v y (fun x cP=>(hx i v x hi cP).mono hle) hy) il
     ·simp only[gW] at m3
      cases m3
    | eK hb=>exact .eK hb
    | arr a1 a2 a3 a4 a5 a6 a7=>exact .arr a1 a2 a3 a4 a5 a6 a7
    | dead=>exact absurd rfl hd
    | nest a1 a2 a3=>exact .nest a1 a2 a3
    | map a1 a2 a3 a4 a5 a6 a7=>exact .map a1 a2 a3 a4 a5 a6 a7
   ·subst e3
    subst e5
    cases hr with
    | @var xs b' Ca T hb hh hs dh hx il=>
     obtain ⟨i1,i2,i3⟩:=Cj (P:=P) (w:=w) (I:=I) jX e4 q1
     exact .var hb hh (by rw[i2];exact hs) dh (fun i v y hi hy=>i3 iq i v y (fun x cP=>(hx i v x hi cP).mono hle) hy) il
 ·obtain ⟨c1,x1,_,_⟩:=back j1 b1 e1 o1.alive
  obtain ⟨c2,x2,_,_⟩:=back j2 b2 e2 o2.alive
  exact hS.h.inj j1 j2 c1 c2 b' x1 x2 (yL _ _ _ _ _ e1 x1 o1) (yL _ _ _ _ _ e2 x2 o2)
 ·obtain ⟨c1,x1,_,_⟩:=back j blk hj ho.alive
  exact hS.h.own j c1 b' x1 (yL _ _ _ _ _ hj x1 ho)
 ·change an P w I β wq v (kz (gm S.bQ (a++b)) k)
  unfold kz
  cases Mt:eI (gm S.bQ (a++b)) k with
  | none=>exact .undef
  | some y=>
   obtain ⟨s,d,iq,n1,n2,n3⟩:=(Mr h1 a9).2 b Mt
   simp only[Option.getD_some,n3]
   exact (Mq (P:=P) (w:=w) (I:=I) jX n2 (gl.1 Ue _ n1)).2 iq v (hv.mono hle)
 ·have h3:=hE.trans hle
  refine ⟨h3.dQ,h3.cB,fun id blk af=> ?_,fun id blk blk' b' af bO hd hb=> ?_,fun id e es ao e' aQ vers' b2 q i c t v e1 l af bO=> ?_⟩
  ·have hl:=aX id blk af
   obtain ⟨blk',k1,k2,k3⟩:=h3.blk id blk af
   simp only[bG,ag (show id<S.aZ.length by omega)] at k1
   exact ⟨blk',k1,k2,k3⟩
  ·have hl:=aX id blk af
   exact h3.size id blk blk' b' af (by simp only[bG,ag (show id<S.aZ.length by omega)];exact bO) hd hb
  ·have hl:=aX id _ af
   exact h3.row id e es ao e' aQ vers' b2 q i c t v e1 l af (by simp only[bG,ag (show id<S.aZ.length by omega)];exact bO)
 ·obtain ⟨blk,e1,e2,_⟩:=back j blk' hj hd
  exact ⟨blk,e1,e2,fun o b' ho=>yL _ _ _ _ _ hj e1 ho⟩
end
section
variable {P:Program} {A:cU} {w w':World} {I I' I2:Nat→Prop} {μ β av:Nat→Option Nat} {hp hp' hp0:Nat→Option aj} {C:ae} {B:Nat} {M:Nat→Prop} {w0:Start}
inductive e7 (P:Program) (w:World) (β:Nat→Option Nat) (hp:Nat→Option aj):Place→Option Nat→aj→Prop
 | var {id:Nat} {T:TypeId} {cs Mu:List V}:hp id=some (.var T cs)→e7 P w β hp (.blk id) (β id) (.var T Mu)
 | arr {id:Nat} {e:TypeId} {es:List V}:hp id=some (.arr e es false)→e7 P w β hp (.blk id) (β id) (.arr e es false)
 | nest {id:Nat} {e:TypeId} {es:List V} {ao:List Nat}:hp id=some (.nest e es ao)→e7 P w β hp (.blk id) (β id) (.nest e es [0,0,0])
 | row {id ver b b':Nat} {path:Path} {e0 e':TypeId} {es l:List V} {ao:List Nat}:hp id=some (.nest e0 es ao)→β id=some b→At P w b e0 es path b' e' l→Bo P e'=true→
   0<path.length→path.length≤ao.length→bN ao (path.length-1)=ver→0<l.length→e7 P w β hp (.row id ver path) (some b') (.arr e' l false)
 | map {id:Nat} {t:TypeId} {es:List V}:hp id=some (.map t es)→e7 P w β hp (.blk id) (β id) (.map t es)
def Ck (P:Program) (w:World) (β:Nat→Option Nat) (hp:Nat→Option aj) (ρ:List Place) (μ:Nat→Option Nat) (hp0:Nat→Option aj):Prop:=
 ∀j p,fg ρ j=some p→∃blk,hp0 j=some blk∧e7 P w β hp p (μ j) blk
theorem pX: ∀{l m:List Place} {j:Nat} {p:Place},fg l j=some p→fg (l++m) j=some p
 | [],m,j,p,h=>by cases h
 | a::l,m,0,p,h=>h
 | a::l,m,j+1,p,h=>pX (l:=l) h
theorem nf: ∀{l:List Place} {j:Nat},fg l j=l[j]?
 | [],j=>by simp[fg]
 | a::l,0=>rfl
 | a::l,j+1=>by simp only[fg,nf,List.getElem?_cons_succ]
structure Ext (P:Program) (w:World) (I:Nat→Prop) (β:Nat→Option Nat) (hp:Nat→Option aj) (h h':Hand) (d:List V) (u:List (Nat × aj)):Prop where
 ds:h'.ds=h.ds++d
 upd:h'.upd=h.upd++u
 HH: ∀q∈u,BI hp q
 pl: ∃m,h'.pl=h.pl++m
 nodup:(h.pl.map Place.id).Nodup→(h'.pl.map Place.id).Nodup
theorem Ext.refl (h:Hand):Ext P w I β hp h h [] []:=⟨by simp,by simp,by simp,⟨[],by simp⟩,id⟩
theorem Ext.trans {h1 h2 h3:Hand} {d1 d2:List V} {u1 u2:List (Nat × aj)} (a:Ext P w I β hp h1 h2 d1 u1) (b:Ext P w I β hp h2 h3 d2 u2):Ext P w I β hp h1 h3 (d1++d2) (u1++u2):=by
 obtain ⟨m1,e1⟩:=a.pl
 obtain ⟨m2,e2⟩:=b.pl
 exact ⟨by rw[b.ds,a.ds,dK],by rw[b.upd,a.upd,dK],fun q hq=>(ew.1 hq).elim (a.HH q) (b.HH q),⟨m1++m2,by rw[e2,e1,dK]⟩,fun h=>b.nodup (a.nodup h)⟩
theorem Ext.look {h h':Hand} {d:List V} {u:List (Nat × aj)} (a:Ext P w I β hp h h' d u) {j:Nat} {p:Place} (hj:fg h.pl j=some p):fg h'.pl j=some p:=by
 obtain ⟨m,e⟩:=a.pl
 rw[e]
 exact pX hj
theorem Ext.leaf (h:Hand) (x:V):Ext P w I β hp h {h with ds:=h.ds++[x]} [x] []:=⟨rfl,by simp,by simp,⟨[],by simp⟩,id⟩
theorem aee {α:Type} {ρ:List Place} {j:Nat} {p:Place} {k:List Place→Rd α} {r:α} {rd:List Nat} (h:(unify ρ j p k).run C hp=some (r,rd)) (hb: ∃id,p= .blk id∨∃ver path,p= .row id ver path):
  ∃kX,(k kX).run C hp=some (r,rd)∧(∃m,kX=ρ++m)∧fg kX j=some p∧((ρ.map Place.id).Nodup→(kX.map Place.id).Nodup):=by
 unfold unify at h
 cases hc:Nat.blt j ρ.length with
 | true=>
  rw[hc] at h
  obtain ⟨h1,h2⟩:=aJ h
  refine ⟨ρ,h2,⟨[],by simp⟩,?_,id⟩
  unfold SE at h1
  split at h1
  ·rename_i a b he
   rw[aW] at h1
   subst h1
   exact he
  ·cases h1
 | false=>
  rw[hc] at h
  obtain ⟨h1,h2⟩:=aJ h
  simp only[aL,aW,oL] at h1
  obtain ⟨rfl,h3⟩:=h1
  refine ⟨ρ++[p],h2,⟨[p],rfl⟩,?_,fun hn=> ?_⟩
  ·rw[nf];simp
  ·rw[qt,Gs]
   refine ⟨hn,by simp,fun a ha b hb=> ?_⟩
   simp only[ki,List.map_nil,iO] at hb
   subst hb
   intro e
   subst e
   rw[yH ha] at h3
   cases h3
theorem wu {α:Type} {h:Hand} {j:Nat} {p:Place} {k:List Place→Rd α} {r:α} {rd:List Nat} (hr:(unify h.pl j p k).run C hp=some (r,rd)) (ds:List V):
  ∃kX,(k kX).run C hp=some (r,rd)∧fg kX j=some p∧Ext P w I β hp h {h with pl:=kX,ds:=h.ds++ds} ds []:=by
 obtain ⟨kX,a,b,c,d⟩:=aee hr (by cases p with|blk id=>exact ⟨id,.inl rfl⟩|row id ver path=>exact ⟨id,.inr ⟨ver,path,rfl⟩⟩)
 exact ⟨kX,a,c,⟨rfl,by simp,by simp,b,d⟩⟩
theorem aef {o:Option Nat} {blk:aj} {e:TypeId} {id j:Nat} {v:Value} (hv:an P w I β hp v (.whole e id)) (hl:e7 P w β hp (.blk id) o blk) (hj:hp0 j=some blk) (kY:μ j=o):an P w I' μ hp0 v (.whole e j):=by
 cases hl with
 | var h=>
  cases hv with
  | fh h2=>rw[h] at h2;cases h2
  | eJ h2=>rw[h] at h2;cases h2
  | whole h2=>rw[h] at h2;cases h2
  | fp h2=>rw[h] at h2;cases h2
 | arr h=>
  cases hv with
  | fh h2=>rw[h] at h2;cases h2
  | eJ h2 hb=>rw[h] at h2;cases h2;exact .eJ hj (kY.trans hb)
  | whole h2 hb a b c=>rw[h] at h2;cases h2;exact .whole hj (kY.trans hb) a b c
  | fp h2=>rw[h] at h2;cases h2
 | nest h=>
  cases hv with
  | fh h2=>rw[h] at h2;cases h2
  | eJ h2=>rw[h] at h2;cases h2
  | whole h2=>rw[h] at h2;cases h2
  | fp h2 hb a b c=>rw[h] at h2;cases h2;exact .fp hj (kY.trans hb) a b c
 | map h=>
  cases hv with
  | fh h2=>rw[h] at h2;cases h2
  | eJ h2=>rw[h] at h2;cases h2
  | whole h2=>rw[h] at h2;cases h2
  | fp h2=>rw[h] at h2;cases h2
theorem aeg {o:Option Nat} {blk:aj} {t:TypeId} {id j:Nat} {v:Value} (hv:an P w I β hp v (.cb t id)) (hl:e7 P w β hp (.blk id) o blk) (hj:hp0 j=some blk) (kY:μ j=o):an P w I' μ hp0 v (.cb t j):=by
 cases hv with
 | js h2=>cases hl<;>(rename_i h;rw[h] at h2;cases h2)
 | cb h2 hb=>
  cases hl<;>(rename_i h;rw[h] at h2;cases h2)
  exact .cb hj (kY.trans hb)
theorem aeh {o:Option Nat} {blk:aj} {e:TypeId} {id off n j:Nat} {v:Value} (hv:an P w I β hp v (.sub e id off n)) (hl:e7 P w β hp (.blk id) o blk) (hj:hp0 j=some blk) (kY:μ j=o):an P w I' μ hp0 v (.sub e j off n):=by
 cases hl with
 | var h=>
  cases hv with
  | ij h2=>rw[h] at h2;cases h2
  | g9 h2=>rw[h] at h2;cases h2
  | sub h2=>rw[h] at h2;cases h2
 | arr h=>
  cases hv with
  | ij h2=>rw[h] at h2;cases h2
  | g9 h2 hb=>rw[h] at h2;cases h2;exact .g9 hj (kY.trans hb)
  | sub h2 hb a b c=>rw[h] at h2;cases h2;exact .sub hj (kY.trans hb) a b c
 | nest h=>
  cases hv with
  | ij h2=>rw[h] at h2;cases h2
  | g9 h2=>rw[h] at h2;cases h2
  | sub h2=>rw[h] at h2;cases h2
 | map h=>
  cases hv with
  | ij h2=>rw[h] at h2;cases h2
  | g9 h2=>rw[h] at h2;cases h2
  | sub h2=>rw[h] at h2;cases h2
theorem Uf {o:Option Nat} {blk:aj} {id i c j:Nat} {v:Value} (hv:an P w I β hp v (.ptr id i c)) (hl:e7 P w β hp (.blk id) o blk) (hj:hp0 j=some blk) (kY:μ j=o):an P w I' μ hp0 v (.ptr j i c):=by
 cases hl with
 | @var _ T0 cs Mu h=>
  obtain ⟨b,hb,rfl⟩:=hv.iY h (by simp)
  exact an.ptr (blk:= .var T0 Mu) hj (by simp) (kY.trans hb)
 | @arr _ e es h=>
  obtain ⟨b,hb,rfl⟩:=hv.iY h (by simp)
  exact an.ptr (blk:= .arr e es false) hj (by simp) (kY.trans hb)
 | @nest _ e es ao h=>
  obtain ⟨b,hb,rfl⟩:=hv.iY h (by simp)
  exact an.ptr (blk:= .nest e es [0,0,0]) hj (by simp) (kY.trans hb)
 | @map _ t es h=>
  obtain ⟨b,hb,rfl⟩:=hv.iY h (by simp)
  exact an.ptr (blk:= .map t es) hj (by simp) (kY.trans hb)
theorem aei (cW: ∀id blk,hp id=some blk→e6 P w I β hp (β id) blk) {id b i c:Nat} {e0 t:TypeId} {es l:List V} {ao:List Nat} {q:Path} {e:TypeId} {v:Value} (af:hp id=some (.nest e0 es ao)) (hb:β id=some b)
  (ht:P.underlying t=some (.slice e)) (hc:nM P w b e0 es q i c t v (.list e l)) (hl:0<l.length): ∃b1 cap,v= .slice (some ⟨b1,0,none⟩) l.length cap∧cap*P.cellsOf e=bsize w b1∧l.length≤cap∧cap≤maxLen∧At P w b e0 es (q++[(i,c)]) b1 e l:=by
 obtain ⟨b2,e1,m,Ca,T,f,x,n1,n2,n3,n4,n5,n6⟩:=hc
 have hr:=cW _ _ af
 cases hr with
 | nest aB hr hn=>
  rw[hb] at aB;cases aB
  have hR:=hr _ _ _ _ n1
  obtain ⟨BM,c1,c2,c3⟩:=hR.cells
  rw[n2] at c1
  cases c1
  have vX:c<P.cellsOf e1:=by rw[←gF hR.ok];exact (bE.1 n4).1
  obtain ⟨v',d1,d2⟩:=c3 i c x t n3 n4 vX
  rw[n6] at d1
  cases d1
  rw[n5] at d2
  generalize hy:V.list e l=y at d2
  cases d2 with
  | gZ a p=>unfold gV at a;rw[ht] at a;cases a
  | emp hu ha=>cases hy;simp at hl
  | row hu nP a9 cx pP=>
   cases hy
   exact ⟨_,_,rfl,a9,cx,pP,n1.snoc n2 n3 n4 ht n5 nP n6⟩
theorem aej (S:aI P w I β hp B M w0) {o:Option Nat} {blk:aj} {e:TypeId} {id ver j:Nat} {path:Path} {v:Value} (hv:an P w I β hp v (.row e id ver path)) (hl:e7 P w β hp (.row id ver path) o blk) (hj:hp0 j=some blk) (kY:μ j=o):an P w I' μ hp0 v (.whole e j):=by
 cases hl with
 | row h hb ha hf h1 h2 h3 h4=>
  obtain ⟨b2,q,i,c,t,l2,rfl,jS,ht,hc⟩:=hv.SM h h1 h2 h3
  rw[hb] at jS;cases jS
  obtain ⟨p1,p2⟩:=Lr ha
  have jQ:=hc
  obtain ⟨b3,e3,m3,Ca,T,f,x,n1,n2,n3,n4,n5,n6⟩:=jQ
  obtain ⟨q1,q2⟩:=G1 n1 n3 n4 ht n5
  rw[p1] at q1
  rw[p2] at q2
  cases q1
  cases q2
  obtain ⟨b1,cap,rfl,m1,m2,m4,m5⟩:=aei S.h.rel h hb ht hc h4
  have:=aek ha m5
  subst this
  exact .whole hj kY m1 m2 m4
where
 aek {b b1 b2:Nat} {e e1 e2:TypeId} {es l l2:List V} {q:Path} (h:At P w b e es q b1 e1 l) (h2:At P w b e es q b2 e2 l2):b2=b1:=(h.fun h2).1
theorem Ug (S:aI P w I β hp B M w0) {α:Type} {l:LS} {x:V} {h:Hand} {k:Hand→Rd α} {r:α} {rd:List Nat} {v:Value} (hr:(GO P l x h k).run C hp=some (r,rd)) (hv:an P w I β hp v x):
  ∃h' fS d u,(k h').run C hp=some (r,fS)∧Ext P w I β hp h h' d u∧d.length=l.size∧
   ∀(I':Nat→Prop) (μ:Nat→Option Nat) (hp0:Nat→Option aj),(∀b,I b→I' b)→(∀q∈u,∀b,uF P w β hp q.1 b→I' b)→∀ρ m,ρ=h'.pl++m→Ck P w β hp ρ μ hp0→∀rest,an P w I' μ hp0 v (jL l (d++rest)):=by
 have plain: ∀{x':V} {kE:List Nat},(k {h with ds:=h.ds++[x']}).run C hp=some (r,kE)→l.size=1→(∀I' μ hp0 rest,an P w I' μ hp0 v (jL l ([x']++rest)))→∃h' fS d u,(k h').run C hp=some (r,fS)∧Ext P w I β hp h h' d u∧d.length=l.size∧
   ∀(I':Nat→Prop) (μ:Nat→Option Nat) (hp0:Nat→Option aj),(∀b,I b→I' b)→(∀q∈u,∀b,uF P w β hp q.1 b→I' b)→∀ρ m,ρ=h'.pl++m→Ck P w β hp ρ μ hp0→∀rest,an P w I' μ hp0 v (jL l (d++rest)):=
  fun hk hs hx=>⟨_,_,_,_,hk,Ext.leaf h _,hs.symm,fun I' μ hp0 _ _ _ _ _ _ rest=>hx I' μ hp0 rest⟩
 have qQ: ∀{kE:List Nat},(k h).run C hp=some (r,kE)→l.size=0→(∀I' μ hp0 rest,an P w I' μ hp0 v (jL l rest))→∃h' fS d u,(k h').run C hp=some (r,fS)∧Ext P w I β hp h h' d u∧d.length=l.size∧
   ∀(I':Nat→Prop) (μ:Nat→Option Nat) (hp0:Nat→Option aj),(∀b,I b→I' b)→(∀q∈u,∀b,uF P w β hp q.1 b→I' b)→∀ρ m,ρ=h'.pl++m→Ck P w β hp ρ μ hp0→∀rest,an P w I' μ hp0 v (jL l (d++rest)):=
  fun hk hs hx=>⟨_,_,_,_,hk,Ext.refl h,by simp[hs],fun I' μ hp0 _ _ _ _ _ _ rest=>hx I' μ hp0 rest⟩
 unfold GO at hr
 cases l with
 | uk=>exact qQ hr rfl fun _ _ _ _=> .undef
 | int kd=>
  cases x<;>simp only at hr<;>first|(cases hr;done)|skip
  obtain ⟨h1,h2⟩:=aJ hr
  simp only[dx] at h1
  subst h1
  obtain rfl:=hv.fq
  exact plain h2 rfl fun _ _ _ _=> .int
 | bool=>
  cases x<;>simp only at hr<;>first|(cases hr;done)|skip
  obtain rfl:=hv.kU
  exact plain hr rfl fun _ _ _ _=> .bool
 | str=>
  cases x<;>simp only at hr<;>first|(cases hr;done)|skip
  obtain ⟨s,rfl,hl⟩:=hv.nU
  exact plain hr rfl fun _ _ _ _=> .str hl
 | nilS e=>
  cases x<;>simp only at hr<;>first|(cases hr;done)|skip
  obtain ⟨h1,h2⟩:=aJ hr
  cases hv with
  | nilS=>exact qQ h2 rfl fun _ _ _ _=> .nilS
 | eb=>
  cases x<;>simp only at hr<;>first|(cases hr;done)|skip
  cases hv with
  | eb=>exact qQ hr rfl fun _ _ _ _=> .eb
 | row e j cs=>
  cases x<;>simp only at hr<;>first|(cases hr;done)|skip
  rename_i e' id ver path
  obtain ⟨e0,es,ao,l0,af,p1,p2,p3,hr⟩:=pO hr
  obtain ⟨h1,h2⟩:=aJ hr
  simp only[aL,aW,fO] at h1
  obtain ⟨rfl,pR,hp3⟩:=h1
  have:=yW pR
  subst this
  obtain ⟨kX,a,b,c⟩:=wu (P:=P) (w:=w) (I:=I) (β:=β) h2 (path.map fun p=>ff p.1)
  refine ⟨_,_,path.map fun p=>ff p.1,[],a,c,by simp[LS.size],fun I' μ hp0 i1 i2 ρ m ej dC rest=> ?_⟩
  obtain ⟨blk,k1,k2⟩:=dC j _ (by rw[ej];exact pX b)
  obtain ⟨bb,q,i,cc,t,l,rfl,hb,ht,hc⟩:=hv.SM af p1 p2 p3
  have sq:blk= .nest e0 es [0,0,0]∧μ j=β id:=by
   generalize μ j=o at k2
   cases k2 with
   | var h=>rw[af] at h;cases h
   | arr h=>rw[af] at h;cases h
   | map h=>rw[af] at h;cases h
   | nest h=>rw[af] at h;cases h;exact ⟨rfl,rfl⟩
  obtain ⟨rfl,kY⟩:=sq
  simp only[jL,HF]
  have hq:q.length<3:=by rw[dO,List.length_singleton] at hp3;omega
  refine .row k1 (kY.trans hb) (by simpa using hq) ?_ ht hc
  match q.length,hq with
  | 0,_=>rfl
  | 1,_=>rfl
  | 2,_=>rfl
 | cS j cs c=>cases hr
 | yg k n=>cases hr
 | ed t=>
  cases x<;>simp only at hr<;>first|(cases hr;done)|skip
  obtain ⟨h1,h2⟩:=aJ hr
  cases hv with
  | ed=>exact qQ h2 rfl fun _ _ _ _=> .ed
 | cb t j=>
  cases x<;>simp only at hr<;>first|(cases hr;done)|skip
  rename_i t' id
  obtain ⟨h1,h2⟩:=aJ hr
  rw[aW] at h1
  subst h1
  obtain ⟨kX,a,b,c⟩:=wu (P:=P) (w:=w) (I:=I) (β:=β) h2 []
  refine ⟨_,_,[],[],a,by simpa using c,rfl,fun I' μ hp0 i1 i2 ρ m ej dC rest=> ?_⟩
  obtain ⟨blk,k1,k2⟩:=dC j _ (by rw[ej];exact pX b)
  exact aeg hv k2 k1 rfl
 | list e=>
  obtain ⟨⟨y,u⟩,l1,l2,h1,h2⟩:=mq hr
  cases y<;>simp only at h2<;>first|(cases h2;done)|skip
  rename_i e' es
  obtain ⟨h3,h4⟩:=aJ h2
  rw[aW] at h3
  subst h3
  obtain ⟨p1,p2⟩:=G2 S.h.rel h1 hv
  exact ⟨_,_,[.list e es],u,h4,⟨rfl,rfl,p1,⟨[],by simp⟩,id⟩,rfl,fun I' μ hp0 i1 i2 _ _ _ _ rest=> .list (p2 I' i1 i2)⟩
 | whole e j=>
  cases x<;>simp only at hr<;>first|(cases hr;done)|skip
  ·rename_i e' id
   obtain ⟨h1,h2⟩:=aJ hr
   rw[aW] at h1
   subst h1
   obtain ⟨kX,a,b,c⟩:=wu (P:=P) (w:=w) (I:=I) (β:=β) h2 []
   refine ⟨_,_,[],[],a,by simpa using c,rfl,fun I' μ hp0 i1 i2 ρ m ej dC rest=> ?_⟩
   obtain ⟨blk,k1,k2⟩:=dC j _ (by rw[ej];exact pX b)
   exact aef hv k2 k1 rfl
  ·rename_i e' id ver path
   obtain ⟨h1,h2⟩:=aJ hr
   rw[aW] at h1
   subst h1
   obtain ⟨kX,a,b,c⟩:=wu (P:=P) (w:=w) (I:=I) (β:=β) h2 []
   refine ⟨_,_,[],[],a,by simpa using c,rfl,fun I' μ hp0 i1 i2 ρ m ej dC rest=> ?_⟩
   obtain ⟨blk,k1,k2⟩:=dC j _ (by rw[ej];exact pX b)
   exact aej S hv k2 k1 rfl
 | sub e j=>
  cases x<;>simp only at hr<;>first|(cases hr;done)|skip
  rename_i e' id o n
  obtain ⟨h1,h2⟩:=aJ hr
  rw[aW] at h1
  subst h1
  obtain ⟨kX,a,b,c⟩:=wu (P:=P) (w:=w) (I:=I) (β:=β) h2 [ff o,ff n]
  refine ⟨_,_,[ff o,ff n],[],a,c,rfl,fun I' μ hp0 i1 i2 ρ m ej dC rest=> ?_⟩
  obtain ⟨blk,k1,k2⟩:=dC j _ (by rw[ej];exact pX b)
  simpa[jL,V.nth] using aeh (I':=I') hv k2 k1 rfl
 | ptr j=>
  cases x<;>simp only at hr<;>first|(cases hr;done)|skip
  rename_i id i c
  obtain ⟨kX,a,b,c'⟩:=wu (P:=P) (w:=w) (I:=I) (β:=β) hr [ff i,ff c]
  refine ⟨_,_,[ff i,ff c],[],a,c',rfl,fun I' μ hp0 i1 i2 ρ m ej dC rest=> ?_⟩
  obtain ⟨blk,k1,k2⟩:=dC j _ (by rw[ej];exact pX b)
  simpa[jL,V.nth] using Uf (I':=I') hv k2 k1 rfl
 | eZ j i c=>
  cases x<;>simp only at hr<;>first|(cases hr;done)|skip
  rename_i id i' c'
  obtain ⟨h1,h2⟩:=aJ hr
  simp only[aL,aW] at h1
  obtain ⟨rfl,rfl⟩:=h1
  obtain ⟨kX,a,b,c'⟩:=wu (P:=P) (w:=w) (I:=I) (β:=β) h2 []
  refine ⟨_,_,[],[],a,by simpa using c',rfl,fun I' μ hp0 i1 i2 ρ m ej dC rest=> ?_⟩
  obtain ⟨blk,k1,k2⟩:=dC j _ (by rw[ej];exact pX b)
  exact Uf hv k2 k1 rfl
end
section
variable {P:Program} {A:cU} {w w':World} {I I' I2:Nat→Prop} {μ β av:Nat→Option Nat} {hp hp' hp0:Nat→Option aj} {C:ae} {B:Nat} {M:Nat→Prop} {w0:Start}
def oa (P:Program) (w:World) (I:Nat→Prop) (β:Nat→Option Nat) (hp:Nat→Option aj) (h':Hand) (u:List (Nat × aj)) (K:(Nat→Prop)→(Nat→Option Nat)→(Nat→Option aj)→Prop):Prop:=
 ∀(I':Nat→Prop) (μ:Nat→Option Nat) (hp0:Nat→Option aj),(∀b,I b→I' b)→(∀q∈u,∀b,uF P w β hp q.1 b→I' b)→∀ρ m,ρ=h'.pl++m→Ck P w β hp ρ μ hp0→K I' μ hp0
theorem oa.later {h h':Hand} {d:List V} {u u':List (Nat × aj)} {K:(Nat→Prop)→(Nat→Option Nat)→(Nat→Option aj)→Prop} (t:oa P w I β hp h u K) (e:Ext P w I β hp h h' d u'):oa P w I β hp h' (u++u') K:=by
 obtain ⟨m1,e1⟩:=e.pl
 exact fun I' μ hp0 i1 i2 ρ m ej dC=>t I' μ hp0 i1 (fun q hq=>i2 q (ew.2 (.inl hq))) ρ (m1++m) (by rw[ej,e1,dK]) dC
theorem oa.more {h:Hand} {u u':List (Nat × aj)} {K:(Nat→Prop)→(Nat→Option Nat)→(Nat→Option aj)→Prop} (t:oa P w I β hp h u K):oa P w I β hp h (u'++u) K:=
 fun I' μ hp0 i1 i2 ρ m ej dC=>t I' μ hp0 i1 (fun q hq=>i2 q (ew.2 (.inr hq))) ρ m ej dC
theorem HI (S:aI P w I β hp B M w0) {α:Type}: ∀{ls:List LS} {xs:List V} {h:Hand} {k:Hand→Rd α} {r:α} {rd:List Nat} {vs:List Value},(yo P ls xs h k).run C hp=some (r,rd)→vs.length=xs.length→
  (∀(j:Nat) v x,vs[j]? =some v→xs[j]? =some x→an P w I β hp v x)→
  ∃h' fS d u,(k h').run C hp=some (r,fS)∧Ext P w I β hp h h' d u∧d.length=lH ls∧ls.length=xs.length∧
   oa P w I β hp h' u fun I' μ hp0=> ∀rest,(jk ls (d++rest)).length=xs.length∧∀(j:Nat) v y,vs[j]? =some v→(jk ls (d++rest))[j]? =some y→an P w I' μ hp0 v y
 | [],[],h,k,r,rd,vs,hr,hl,hv=>⟨h,rd,[],[],hr,Ext.refl h,rfl,rfl,fun I' μ hp0 _ _ _ _ _ _ rest=>⟨rfl,fun j v y _ hy=>by simp[jk] at hy⟩⟩
 | [],_::_,h,k,r,rd,vs,hr,hl,hv=>by cases hr
 | _::_,[],h,k,r,rd,vs,hr,hl,hv=>by cases hr
 | l::ls,x::xs,h,k,r,rd,vs,hr,hl,hv=>by
  cases vs with
  | nil=>simp at hl
  | cons v vs=>
   simp only[yo] at hr
   obtain ⟨h1,kE,d1,u1,a1,a2,a3,a4⟩:=Ug S hr (hv 0 v x rfl rfl)
   obtain ⟨h2,uQ,d2,u2,b1,b2,b3,b5,b4⟩:=HI S a1 (by simpa using hl) (vs:=vs) (fun j v x hj hx=>hv (j+1) v x (by simpa using hj) (by simpa using hx))
   have a4':oa P w I β hp h1 u1 fun I' μ hp0=> ∀rest,an P w I' μ hp0 v (jL l (d1++rest)):=a4
   refine ⟨h2,uQ,d1++d2,u1++u2,b1,a2.trans b2,by simp only[dO,lH];omega,by simp[b5],fun I' μ hp0 i1 i2 ρ m ej dC rest=> ?_⟩
   have k1:=(a4'.later b2) I' μ hp0 i1 i2 ρ m ej dC (d2++rest)
   obtain ⟨k2,k3⟩:=b4.more I' μ hp0 i1 i2 ρ m ej dC rest
   simp only[jk]
   rw[show (d1++d2++rest).drop l.size=d2++rest by rw[dK];exact pc a3,dK]
   refine ⟨by simp[k2],fun j v' y hj hy=> ?_⟩
   cases j with
   | zero=>simp at hj hy;subst hj;subst hy;exact k1
   | succ j=>exact k3 j v' y (by simpa using hj) (by simpa using hy)
theorem ael (S:aI P w I β hp B M w0) {α:Type} {s:VS} {x:V} {h:Hand} {k:Hand→Rd α} {r:α} {rd:List Nat} {v:Value} (hr:(Bs P s x h k).run C hp=some (r,rd)) (hv:an P w I β hp v x):
  ∃h' fS d u,(k h').run C hp=some (r,fS)∧Ext P w I β hp h h' d u∧d.length=s.size∧
   oa P w I β hp h' u fun I' μ hp0=> ∀rest,an P w I' μ hp0 v (ml s (d++rest)):=by
 cases s with
 | one l=>
  simp only[Bs] at hr
  obtain ⟨h1,kE,d1,u1,a1,a2,a3,a4⟩:=Ug S hr hv
  exact ⟨h1,kE,d1,u1,a1,a2,a3,a4⟩
 | agg ls=>
  cases x<;>simp only[Bs] at hr<;>first|(cases hr;done)|skip
  rename_i xs
  obtain ⟨cs,rfl,e1,e2⟩:=hv.mr
  obtain ⟨h1,kE,d1,u1,a1,a2,a3,a5,a4⟩:=HI S hr (vs:=cs.toList) (by simpa using e1) (fun j v x hj hx=>e2 j v x (by simpa using hj) hx)
  refine ⟨h1,kE,d1,u1,a1,a2,a3,fun I' μ hp0 i1 i2 ρ m ej dC rest=> ?_⟩
  obtain ⟨k1,k2⟩:=a4 I' μ hp0 i1 i2 ρ m ej dC rest
  exact .agg (by rw[k1];exact e1) fun j v y hj hy=>k2 j v y (by simpa using hj) hy
 | bw ls=>cases x<;>cases hr
 | pref ts ls=>cases x<;>cases hr
 | fn f a b=>
  cases x<;>simp only[Bs] at hr<;>first|(cases hr;done)|skip
  rename_i f' xs ys
  obtain ⟨hc,pY⟩:=aJ hr
  clear hr
  rw[aW] at hc
  subst hc
  cases hv with
  | @fn _ fs cs _ _ q1 q2 q3 q4=>
   obtain ⟨h1,kE,d1,u1,a1,a2,a3,a5,a4⟩:=HI S pY (vs:=fs.toList) (by simpa using q1) (fun j v x hj hx=>q2 j v x (by simpa using hj) hx)
   obtain ⟨h2,uQ,d2,u2,b1,b2,b3,b5,b4⟩:=HI S a1 (vs:=cs.toList) (by simpa using q3) (fun j v x hj hx=>q4 j v x (by simpa using hj) hx)
   refine ⟨h2,uQ,d1++d2,u1++u2,b1,a2.trans b2,by simp only[dO,VS.size];omega,fun I' μ hp0 i1 i2 ρ m ej dC rest=> ?_⟩
   obtain ⟨k1,k2⟩:=(a4.later b2) I' μ hp0 i1 i2 ρ m ej dC (d2++rest)
   obtain ⟨k3,k4⟩:=b4.more I' μ hp0 i1 i2 ρ m ej dC rest
   simp only[ml]
   rw[show (d1++d2++rest).drop (lH a)=d2++rest by rw[dK];exact pc a3,dK]
   exact .fn (by rw[k1];exact q1) (fun j v y hj hy=>k2 j v y (by simpa using hj) hy) (by rw[k3];exact q3) (fun j v y hj hy=>k4 j v y (by simpa using hj) hy)
theorem Mv (S:aI P w I β hp B M w0) {α:Type}: ∀{ls:List VS} {xs:List V} {h:Hand} {k:Hand→Rd α} {r:α} {rd:List Nat} {vs:List Value},(Bt P ls xs h k).run C hp=some (r,rd)→vs.length=xs.length→
  (∀(j:Nat) v x,vs[j]? =some v→xs[j]? =some x→an P w I β hp v x)→
  ∃h' fS d u,(k h').run C hp=some (r,fS)∧Ext P w I β hp h h' d u∧d.length=uy ls∧ls.length=xs.length∧
   oa P w I β hp h' u fun I' μ hp0=> ∀rest,(gC ls (d++rest)).length=xs.length∧∀(j:Nat) v y,vs[j]? =some v→(gC ls (d++rest))[j]? =some y→an P w I' μ hp0 v y
 | [],[],h,k,r,rd,vs,hr,hl,hv=>⟨h,rd,[],[],hr,Ext.refl h,rfl,rfl,fun I' μ hp0 _ _ _ _ _ _ rest=>⟨rfl,fun j v y _ hy=>by simp[gC] at hy⟩⟩
 | [],_::_,h,k,r,rd,vs,hr,hl,hv=>by cases hr
 | _::_,[],h,k,r,rd,vs,hr,hl,hv=>by cases hr
 | l::ls,x::xs,h,k,r,rd,vs,hr,hl,hv=>by
  cases vs with
  | nil=>simp at hl
  | cons v vs=>
   simp only[Bt] at hr
   obtain ⟨h1,kE,d1,u1,a1,a2,a3,a4⟩:=ael S hr (hv 0 v x rfl rfl)
   obtain ⟨h2,uQ,d2,u2,b1,b2,b3,b5,b4⟩:=Mv S a1 (by simpa using hl) (vs:=vs) (fun j v x hj hx=>hv (j+1) v x (by simpa using hj) (by simpa using hx))
   refine ⟨h2,uQ,d1++d2,u1++u2,b1,a2.trans b2,by simp only[dO,uy];omega,by simp[b5],fun I' μ hp0 i1 i2 ρ m ej dC rest=> ?_⟩
   have k1:=(a4.later b2) I' μ hp0 i1 i2 ρ m ej dC (d2++rest)
   obtain ⟨k2,k3⟩:=b4.more I' μ hp0 i1 i2 ρ m ej dC rest
   simp only[gC]
   rw[show (d1++d2++rest).drop l.size=d2++rest by rw[dK];exact pc a3,dK]
   refine ⟨by simp[k2],fun j v' y hj hy=> ?_⟩
   cases j with
   | zero=>simp at hj hy;subst hj;subst hy;exact k1
   | succ j=>exact k3 j v' y (by simpa using hj) (by simpa using hy)
def HJ:List BS→Nat
 | []=>0
 | b::l=>b.size+HJ l
theorem Uh: ∀{b:Nat} {e e':TypeId} {es:List V} {v:V},(∀q b' e' m,At P w b e es q b' e' m→kA P w I b' e' m)→∀(path:Path),lF P e path=some e'→jK P e es path=some v→0<v.toList.length→
  ∃b1,At P w b e es path b1 e' v.toList
 | b,e,e',es,v,cK,[],ht,hv,hl=>by
  simp only[lF,ez] at ht
  simp only[jK,ez] at hv
  subst ht;subst hv
  exact ⟨b,.here⟩
 | b,e,e',es,v,cK,(i,c)::q,ht,hv,hl=>by
  simp only[lF] at ht
  simp only[jK] at hv
  obtain ⟨x,hx,hv⟩:=bind_some hv
  cases Mw:(lF.Bi P e)[c]? with
  | none=>rw[Mw] at ht;cases ht
  | some t=>
   rw[Mw] at ht
   simp only at ht
   have HK:(a8 P e)[c]? =some t:=Mw
   cases hu:P.underlying t with
   | none=>rw[hu] at ht;cases ht
   | some d=>
    rw[hu] at ht
    cases d<;>simp only at ht<;>first|(cases ht;done)|skip
    rename_i e1
    rw[oZ HK] at hv
    have hR:=cK _ _ _ _ .here
    obtain ⟨Ca,c1,c2,c3⟩:=hR.cells
    have vX:c<P.cellsOf e:=by rw[←gF hR.ok];exact (bE.1 HK).1
    obtain ⟨u,d1,d2⟩:=c3 i c x t hx HK vX
    rw[d2.uH] at hv
    generalize hy:bW P e x c=y at d2 hv
    cases d2 with
    | gZ a p=>unfold gV at a;rw[hu] at a;cases a
    | @emp e2 a cap qR ha=>
     rw[hu] at qR;cases qR
     simp only at hv
     cases q with
     | nil=>simp only[jK,ez] at hv;subst hv;simp[V.toList] at hl
     | cons a q=>simp[jK] at hv
    | @row e2 cw b2 cap qR nP a9 cx pP=>
     rw[hu] at qR;cases qR
     simp only at hv
     have nR: ∀{q b' e' aQ},At P w b2 e1 cw q b' e' aQ→At P w b e es ((i,c)::q) b' e' aQ:=fun h=> .step c1 hx HK hu hy nP d1 h
     obtain ⟨b1,na⟩:=Uh (fun q b' e' m h=>cK _ _ _ _ (nR h)) q ht hv hl
     exact ⟨b1,nR na⟩
theorem Ui (S:aI P w I β hp B M w0) {α:Type}: ∀{bs:List BS} {j:Nat} {h:Hand} {k:Hand→Rd α} {r:α} {rd:List Nat},(rZ P bs j h k).run C hp=some (r,rd)→
  ∃h' fS d u,(k h').run C hp=some (r,fS)∧Ext P w I β hp h h' d u∧d.length=HJ bs∧
   ∀rest,(fI bs (d++rest)).length=bs.length∧∃o:Nat→Option Nat,
    (∀(i:Nat) blk,(fI bs (d++rest))[i]? =some blk→∃p,fg h'.pl (j+i)=some p∧e7 P w β hp p (o i) blk)∧
    oa P w I β hp h' u fun I' μ hp0=> ∀(i:Nat) blk,(fI bs (d++rest))[i]? =some blk→(∀b,bL P w (o i) blk b→¬I' b)→e6 P w I' μ hp0 (o i) blk
 | [],j,h,k,r,rd,hr=>⟨h,rd,[],[],hr,Ext.refl h,rfl,fun rest=>⟨rfl,fun _=>none,fun i blk hb=>by simp[fI] at hb,fun I' μ hp0 _ _ _ _ _ _ i blk hb=>by simp[fI] at hb⟩⟩
 | b::bs,j,h,k,r,rd,hr=>by
  simp only[rZ] at hr
  have fin: ∀{h1:Hand} {kE:List Nat} {d1:List V} {u1:List (Nat × aj)} {o1:Option Nat} {p:Place},(rZ P bs (j+1) h1 k).run C hp=some (r,kE)→Ext P w I β hp h h1 d1 u1→d1.length=b.size→fg h.pl j=some p→
    (∀rest,e7 P w β hp p o1 (gW b (d1++rest)))→(∀rest,oa P w I β hp h1 u1 fun I' μ hp0=>(∀bb,bL P w o1 (gW b (d1++rest)) bb→¬I' bb)→e6 P w I' μ hp0 o1 (gW b (d1++rest)))→
    ∃h' fS d u,(k h').run C hp=some (r,fS)∧Ext P w I β hp h h' d u∧d.length=HJ (b::bs)∧
     ∀rest,(fI (b::bs) (d++rest)).length=(b::bs).length∧∃o:Nat→Option Nat,
      (∀(i:Nat) blk,(fI (b::bs) (d++rest))[i]? =some blk→∃p,fg h'.pl (j+i)=some p∧e7 P w β hp p (o i) blk)∧
      oa P w I β hp h' u fun I' μ hp0=> ∀(i:Nat) blk,(fI (b::bs) (d++rest))[i]? =some blk→(∀b,bL P w (o i) blk b→¬I' b)→e6 P w I' μ hp0 (o i) blk:=by
   intro h1 kE d1 u1 o1 p hk he hd bG hl ht
   obtain ⟨h2,uQ,d2,u2,b1,b2,b3,b4⟩:=Ui S hk
   refine ⟨h2,uQ,d1++d2,u1++u2,b1,he.trans b2,by simp only[dO,HJ];omega,fun rest=> ?_⟩
   obtain ⟨c1,o,c2,c3⟩:=b4 rest
   simp only[fI]
   rw[show (d1++d2++rest).drop b.size=d2++rest by rw[dK];exact pc hd,dK]
   refine ⟨by simp[c1],fun i=>match i with|0=>o1|i+1=>o i,fun i blk hb=> ?_,fun I' μ hp0 i1 i2 ρ m ej dC i blk hb dh=> ?_⟩
   ·cases i with
    | zero=>
     simp at hb
     subst hb
     exact ⟨p,b2.look (he.look bG),hl _⟩
    | succ i=>
     obtain ⟨q,e1,e2⟩:=c2 i blk (by simpa using hb)
     exact ⟨q,by rw[show j+(i+1)=j+1+i by omega];exact e1,e2⟩
   ·cases i with
    | zero=>
     simp at hb
     subst hb
     exact ((ht _).later b2) I' μ hp0 i1 i2 ρ m ej dC dh
    | succ i=>exact c3.more I' μ hp0 i1 i2 ρ m ej dC i blk (by simpa using hb) dh
  cases bG:fg h.pl j with
  | none=>rw[bG] at hr;cases hr
  | some p=>
   rw[bG] at hr
   cases p with
   | blk id=>
    obtain ⟨l1,hr⟩:=run_get hr
    cases af:hp id with
    | none=>rw[af] at hr;cases hr
    | some blk=>
     rw[af] at hr
     cases blk with
     | dead=>cases hr
     | var T0 cs=>
      cases b<;>simp only at hr<;>first|(cases hr;done)|skip
      rename_i T1 ss
      obtain ⟨hT,hr1⟩:=aJ hr
      clear hr
      rw[aW] at hT
      subst hT
      have cW:=S.h.rel id _ af
      generalize ho:β id=o at cW
      cases cW with
      | @var _ bb Ca T hb hh hs hI hx il=>
       obtain ⟨h1,kE,d1,u1,a1,a2,a3,a5,a4⟩:=Mv S hr1 (vs:=Ca.toList) (by simpa using hs) (fun j v x hj cP=>hx j v x (by simpa using hj) cP)
       refine fin (o1:=β id) a1 a2 a3 bG (fun rest=> .var af) fun rest I' μ hp0 i1 i2 ρ m ej dC dh=> ?_
       obtain ⟨k1,k2⟩:=a4 I' μ hp0 i1 i2 ρ m ej dC rest
       exact .var (ho.trans hb) hh (by rw[k1];exact hs) (dh _ (.root (by simp[gW]) (ho.trans hb))) (fun i v y hi hy=>k2 i v y (by simpa using hi) hy) il
     | arr e' es fz=>
      cases fz with
      | true=>cases hr
      | false=>
       cases b with
       | arr e fz=>
        cases fz with
        | true=>cases hr
        | false=>
         obtain ⟨hc,pY⟩:=aJ hr
         clear hr
         rw[aW] at hc
         subst hc
         refine fin (d1:=[.list e es]) (o1:=β id) pY (Ext.leaf h _) rfl bG (fun rest=>e7.arr af) fun rest I' μ hp0 i1 i2 ρ m ej dC dh=> ?_
         change e6 P w I' μ hp0 (β id) (.arr e es false)
         have cW:=S.h.rel id _ af
         generalize ho:β id=o at cW dh⊢
         cases cW with
         | eK hb=>exact .eK hb
         | arr a1 a2 a3 a4 a5 a6 a7=>
          refine .arr a1 a2 a3 a4 (fun h=>by cases h) (fun _=>dh _ (.root (by simp[gW]) a2)) fun i j x t' y1 y2 y3=> ?_
          obtain ⟨v,z1,z2⟩:=a7 i j x t' y1 y2 y3
          exact ⟨v,z1,z2.mono i1 fun _ _=>rfl⟩
       | _=>cases hr
     | nest e' es ao=>
      cases b with
      | nest e=>
       obtain ⟨hc,pY⟩:=aJ hr
       clear hr
       rw[aW] at hc
       subst hc
       refine fin (d1:=[.list e es]) (o1:=β id) pY (Ext.leaf h _) rfl bG (fun rest=>e7.nest af) fun rest I' μ hp0 i1 i2 ρ m ej dC dh=> ?_
       have Uj: ∀bb,bL P w (β id) (.nest e es [0,0,0]) bb→¬I' bb:=dh
       change e6 P w I' μ hp0 (β id) (.nest e es [0,0,0])
       have cW:=S.h.rel id _ af
       generalize ho:β id=o at cW Uj⊢
       cases cW with
       | nest hb cK pS=>
        refine .nest hb (fun q b' e1 m1 hq=> ?_) pS
        obtain ⟨ok,⟨Ca,c1,c2,c3⟩,nI⟩:=cK q b' e1 m1 hq
        refine ⟨ok,⟨Ca,c1,c2,fun i j x t' y1 y2 y3=> ?_⟩,Uj _ (.row hb hq)⟩
        obtain ⟨v,z1,z2⟩:=c3 i j x t' y1 y2 y3
        exact ⟨v,z1,z2.mono i1 (fun _ _=>rfl) fun _ _ _ _ _=>rfl⟩
      | _=>cases hr
     | map t' es=>
      cases b with
      | map t=>
       obtain ⟨hc,pY⟩:=aJ hr
       clear hr
       rw[aW] at hc
       subst hc
       refine fin (d1:=[.list t es]) (o1:=β id) pY (Ext.leaf h _) rfl bG (fun rest=>e7.map af) fun rest I' μ hp0 i1 i2 ρ m ej dC dh=> ?_
       change e6 P w I' μ hp0 (β id) (.map t es)
       have cW:=S.h.rel id _ af
       generalize ho:β id=o at cW dh⊢
       cases cW with
       | map a1 a2 a3 a4 a5 a6 a7=>exact .map a1 a2 a3 a4 (dh _ (.root (by simp[gW]) a2)) a6 a7
      | _=>cases hr
   | row id ver path=>
    obtain ⟨e0,es,ao,l1,k1,k2,k3,k4,k5⟩:=pO hr
    obtain ⟨e',vv,m1,m2,m3⟩:=yz k5
    cases b with
    | arr e fz=>
     cases fz with
     | true=>cases m3
     | false=>
      obtain ⟨hc,m4⟩:=aJ m3
      clear m3
      simp only[aL,aW,lA] at hc
      obtain ⟨rfl,Cl,nP⟩:=hc
      have cW:=S.h.rel id _ k1
      cases hb:β id with
      | none=>
       rw[hb] at cW
       cases cW with
       | nest aB _ _=>cases aB
      | some b0=>
       rw[hb] at cW
       cases cW with
       | nest aB cK pS=>
        cases aB
        obtain ⟨b1,dR⟩:=Uh cK path m1 m2 nP
        refine fin (d1:=[.list e vv.toList]) (o1:=some b1) m4 (Ext.leaf h _) rfl bG (fun rest=>e7.row k1 hb dR Cl k2 k3 k4 nP) fun rest I' μ hp0 i1 i2 ρ m ej dC dh=> ?_
        change e6 P w I' μ hp0 (some b1) (.arr e vv.toList false)
        obtain ⟨ok,⟨Ca,c1,c2,c3⟩,nI⟩:=cK _ _ _ _ dR
        refine .arr ok rfl c1 c2 (fun h=>by cases h) (fun _=>dh _ (.root (by simp[gW]) rfl)) fun i j x t' y1 y2 y3=> ?_
        obtain ⟨v,z1,z2⟩:=c3 i j x t' y1 y2 y3
        refine ⟨v,z1,?_⟩
        generalize bW P e x j=y at z2⊢
        cases z2 with
        | gZ _ p=>exact p.mono i1 fun _ _=>rfl
        | emp hu _=>exact absurd hu (Uk Cl y2 _)
        | row hu _ _ _ _=>exact absurd hu (Uk Cl y2 _)
    | _=>cases m3
where
 Uk {e t:TypeId} {j:Nat} (h:Bo P e=true) (ht:(a8 P e)[j]? =some t) (e':TypeId):P.underlying t≠some (.slice e'):=by
  intro hu
  have h2:=gl.1 h t (kh ht)
  rw[hu] at h2
  cases h2
end
end Go.AM
