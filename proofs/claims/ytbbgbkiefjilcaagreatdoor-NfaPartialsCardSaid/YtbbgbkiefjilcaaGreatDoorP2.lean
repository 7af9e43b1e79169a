/-
  Functions of the program, lifted to plain data.
-/
import Derived.Great.BuildSlice
import Derived.Maps.Keyed
import Derived.WideKeyArr
import Derived.MapKept
import Derived.ChangeMaps4
import Derived.Carry
import Derived.Lib.AppendStr
import Derived.Laws.BytesString
import Derived.Lib.Builder
import Derived.Lib.UnsafeStr
import Derived.Test.YtbbgbkiefjilcaaGreatDoorP1
set_option linter.unusedVariables false
set_option linter.unusedSimpArgs false
namespace Go.AM
section
variable {P:Program} {w w':World} {I I':Nat→Prop} {β β':Nat→Option Nat} {hp hp':Nat→Option ao} {C:af} {B:Nat} {M:Nat→Prop} {w0:Start}
theorem acH (S:aO P w I β hp B M w0) {t:TypeId} {a v:Value} {xa x:V} {r:R} {rd:List Nat} (ha:au P w I β hp a xa) (hv:au P w I β hp v x)
  (h:(Ks P t xa x).run C hp=some (r,rd)):qG P ((Instr.storeAt t a v).run P w) w I β hp B M w0 r:=by
 unfold Ks at h
 obtain ⟨h0,h⟩:=aP h
 simp only[aU,bj] at h0
 obtain ⟨ht,hn⟩:=h0
 cases xa with
 | ptr id i c=>
  obtain ⟨l,h⟩:=run_get h
  cases ai:hp id with
  | none=>rw[ai] at h;cases h
  | some blk=>
   rw[ai] at h
   cases blk with
   | dead=>cases h
   | var T0 cs=>
    obtain ⟨SY,h⟩:=aP h
    have nh:qu P T0=true→0<c:=fun bB=>by
     rw[bB] at SY
     simpa using SY
    obtain ⟨b,hb,rfl⟩:=ha.iU ai (by simp)
    simp only[ao.sz,Nat.mul_zero,hO]
    cases qF:(AV P t cs&&fH P t x) with
    | true=>
     dsimp only at h
     rw[qF] at h
     simp only[cond_true] at h
     obtain ⟨hc,h⟩:=aP h
     obtain rfl:=aY h
     simp only[aU,lB] at hc qF
     obtain ⟨o1,o2⟩:=SP hv qF.2
     have mw:=acr qF.2
     refine SN S ai hb ht hn (by rw[o2,mw];rfl) nh (fun j u y hu hy=> ?_) (by rw[o2];simp[o1]) (by rw[mw];simp;omega) (SM _ _ _ _) (fun j y hy hj u hu=> ?_) (fun j y hy hj u hu=> ?_)
     ·rw[o2] at hu
      rw[mw] at hy
      cases j with
      | zero=>simp at hu hy;subst hu;subst hy;exact hv
      | succ j=>simp at hy
     ·rw[K6] at hy
      cases xU:cs[j]? with
      | none=>rw[xU] at hy;cases hy
      | some y0=>
       rw[xU] at hy
       simp only[Option.map_some,eN] at hy
       rw[mw] at hj
       simp only[List.length_singleton] at hj
       have bX:Nat.beq c (0+j)=false:=by
        cases hq:Nat.beq c (0+j) with
        | false=>rfl
        | true=>rw[bj] at hq;omega
       rw[bX] at hy
       have:=SB (c:=false) hv (hu y0 xU)
       rw[←hy]
       simpa using this
     ·rw[mw] at hj hu
      have hj0:j=0:=by simpa using hj
      subst hj0
      rw[K6] at hy
      cases xU:cs[c+0]? with
      | none=>rw[xU] at hy;cases hy
      | some y0=>
       rw[xU] at hy
       simp only[Option.map_some,eN] at hy
       have heq:Nat.beq c (0+(c+0))=true:=by rw[bj];omega
       rw[heq] at hy
       have h2:au P w I β hp u x:=hu x rfl
       have:tn true x y0=x:=acs x y0
       rw[←hy,this]
       exact h2
    | false=>
     dsimp only at h
     rw[qF] at h
     simp only[cond_false] at h
     obtain ⟨hc,h⟩:=aP h
     simp only[aU,dN] at hc
     obtain ⟨e1,e2⟩:=K4 hv h
     obtain ⟨h1,l2,h⟩:=GG h (vs:=v.cells.toList) (by simpa using e1) (fun j u y a b=>e2 j u y (by simpa using a) b)
     obtain rfl:=aY h
     refine SN S ai hb ht hn e1 nh e2 h1 hc.2 (Bx _ _ _ hc.2) (fun j y hy hj u hu=> ?_) (fun j y hy hj u hu=> ?_)
     ·unfold gQ at hy
      rw[oF _ _ _ _ hc.2] at hy
      rcases hj with hj|hj
      ·rw[ag hj] at hy;exact hu y hy
      ·rw[ah (by omega),ah (by omega)] at hy;exact hu y hy
     ·unfold gQ at hy
      rw[oF _ _ _ _ hc.2,ah (by omega),ag (by omega)] at hy
      rw[show c+j-c=j by omega] at hy
      exact hu y hy
   | arr e es fz=>
    cases fz with
    | true=>cases h
    | false=>
    obtain ⟨b,hb,rfl⟩:=ha.iU ai (by simp)
    obtain ⟨ax,h⟩:=aP h
    obtain ⟨⟨ys,fr⟩,l1,l2,bI,h⟩:=lK h
    obtain ⟨hc,h⟩:=aP h
    obtain ⟨x0,sb,h⟩:=mr h
    obtain rfl:=aY h
    simp only[aU,pf,dN] at hc
    obtain ⟨et,hc3,jw⟩:=hc
    have qH:v.cells.size=x.cells.length∧∀(j:Nat) u y,v.cells.toList[j]? =some u→x.cells[j]? =some y→au P w I β hp u y:=by
     cases x with
     | agg xs=>
      obtain ⟨cs,rfl,h1,h2⟩:=hv.lL
      exact ⟨h1,fun j u y a b=>h2 j u y (by simpa[Value.cells] using a) b⟩
     | _=>
      simp only[V.cells] at bI jw⊢
      simp only[tk] at bI
      obtain ⟨⟨y1,u1⟩,l3,l4,hq,bI⟩:=lK bI
      obtain ⟨q1,q2⟩:=Gt S.h.rel hq hv
      obtain ⟨⟨y2,u2⟩,l5,l6,Lk,bI⟩:=lK bI
      cases Lk
      have:=aY bI
      cases this
      obtain ⟨tl,tg⟩:=u9 jw
      have gE:=tg 0 _ y1 (bZ (by rw[tl];exact Nat.one_pos)) rfl
      have bM:=q2 (jz P w I β hp u1) (fun _ h=> .inl h) (fun p hp b h=> .inr ⟨p,hp,h⟩)
      have ho:=bM.pure gE
      have Ll:v.cells= #[v]:=by cases ho<;>rfl
      rw[Ll]
      refine ⟨rfl,fun j u y hu hy=> ?_⟩
      cases j with
      | zero=>simp at hu hy;subst hu;subst hy;exact hv
      | succ j=>simp at hy
    obtain ⟨k1,k2,k3⟩:=KX S.h.rel bI (vs:=v.cells.toList) (by simpa using qH.1) qH.2
    obtain ⟨sa,S1⟩:=Bp S k2
    have BE:b9 hp fr id=some (.arr e es false):=by
     rcases u3 (hp:=hp) (l:=fr) (id:=id) with h|⟨b',hm,_⟩
     ·exact h.trans ai
     ·exfalso
      have vc:kV (fr.map (·.1)) id=true:=xN (fG.2 ⟨_,hm,rfl⟩)
      rw[vc] at et;cases et
    have SZ:=k3 (jz P w I β hp fr) (fun _ h=> .inl h) (fun p hp b h=> .inr ⟨p,hp,h⟩)
    obtain ⟨tl,tg⟩:=u9 jw
    have xH:=(ld ax).1
    have vd:ys.length=v.cells.size:=by rw[k1,qH.1]
    have hcn:c+v.cells.size≤P.cellsOf e:=by rw[qH.1];exact hc3
    have hr:=S1.h.rel id _ BE
    cases hr with
    | er aE=>simp at sb
    | @arr _ _ _ b' Ca K3 aE hh hs hf e6 hx=>
     rw[hb] at aE
     cases aE
     have my:i<es.length:=(bH.1 sb).1
     have hbound:i*P.cellsOf e+P.cellsOf e≤Ca.size:=by
      have:(i+1)*P.cellsOf e≤es.length*P.cellsOf e:=eh _ my
      rw[dY] at this
      omega
     simp only[ao.sz]
     have tG:i*P.cellsOf e+c+v.cells.size≤Ca.size:=by omega
     have dp: ¬jz P w I β hp fr b:=e6 rfl
     have h1: ∀u∈v.cells.toList,u.oneCell'=true:=by
      intro u hu
      obtain ⟨j,hj⟩:=s8 hu
      have cp:j<ys.length:=by rw[vd];simpa using (bH.1 hj).1
      have pE:j<(((flat P e).drop c).take x.cells.length).length:=by rw[tl];exact cp
      exact (SZ j u ys[j] hj (bZ cp)).one (tg j _ ys[j] (bZ pE) (bZ cp))
     have dx:=K5 (t:=t) (o:=i*P.cellsOf e+c) (v:=v) ht (by rw[qH.1];exact hn.symm) hh tG h1
     have hlen:(Ca.toList.take (i*P.cellsOf e+c)++(v.cells.toList++Ca.toList.drop (i*P.cellsOf e+c+v.cells.toList.length))).length=Ca.size:=by
      rw[Bx _ _ _ (by simpa using tG)];simp
     have bM:(parts P e x0).length=P.cellsOf e:=by rw[xK];exact gD ax
     have By:=GH S1 (blk':= .arr e (es.set i (cT P e (gQ (parts P e x0) c ys))) false)
      (Cb:=(Ca.toList.take (i*P.cellsOf e+c)++(v.cells.toList++Ca.toList.drop (i*P.cellsOf e+c+v.cells.toList.length))).toArray) BE (by simp) ⟨rfl,by simp⟩ hb dp (by simp) hh (by simpa using hlen)
      (fun hle fJ=> .arr ax rfl fJ (by simp only[rE,kR];omega) (fun h=>by cases h) (fun _=>dp) fun i' j z t' hz pE hj=>by
       simp only[oh]
       rw[oF _ _ _ _ (by simpa using tG)]
       simp only[Array.length_toList]
       rw[List.getElem?_set] at hz
       by_cases jC:i=i'
       ·subst jC
        rw[ag rfl,ag my] at hz
        cases hz
        have GQ:j<(parts P e x0).length:=by omega
        have ve:(gQ (parts P e x0) c ys)[j]? =if j<c then (parts P e x0)[j]? else if j<c+ys.length then ys[j-c]? else (parts P e x0)[j]? :=by
         unfold gQ;exact oF _ _ _ _ (by omega)
        by_cases rX:j<c
        ·rw[ag (by omega)]
         rw[ag rX] at ve
         obtain ⟨u,t2,a1,a2,a3⟩:=GC hx ax sb (bZ GQ)
         rw[pE] at a1;cases a1
         refine ⟨u,by simpa using a2,?_⟩
         rw[rY (ve.trans (bZ GQ)) pE]
         exact a3.mono hle.dO hle.cJ
        ·rw[ah rX] at ve
         by_cases ig:j<c+ys.length
         ·rw[ag ig] at ve
          rw[ah (by omega),ag (by omega)]
          have qI:j-c<ys.length:=by omega
          have S3:j-c<v.cells.toList.length:=by simp;omega
          have aoV:j-c<v.cells.size:=by omega
          refine ⟨v.cells.toList[j-c],?_,?_⟩
          ·rw[show i*P.cellsOf e+j-(i*P.cellsOf e+c)=j-c by omega]
           exact bZ S3
          ·rw[rY (ve.trans (bZ qI)) pE]
           have hft:(((flat P e).drop c).take x.cells.length)[j-c]? =some t':=by
            rw[fU (by omega),ja,show c+(j-c)=j by omega,←tD]
            exact pE
           exact ((SZ (j-c) _ ys[j-c] (bZ S3) (bZ qI)).pure (tg (j-c) t' ys[j-c] hft (bZ qI))).mono hle.dO hle.cJ
         ·rw[ah ig] at ve
          rw[ah (by omega),ah (by omega)]
          obtain ⟨u,t2,a1,a2,a3⟩:=GC hx ax sb (bZ GQ)
          rw[pE] at a1;cases a1
          refine ⟨u,by simpa using a2,?_⟩
          rw[rY (ve.trans (bZ GQ)) pE]
          exact a3.mono hle.dO hle.cJ
       ·rw[ah jC] at hz
        obtain ⟨u,a2,a3⟩:=hx i' j z t' hz pE hj
        have bX:i'*P.cellsOf e+j<i*P.cellsOf e+c∨i*P.cellsOf e+c+v.cells.size≤i'*P.cellsOf e+j:=by
         rcases s6 i' i with aR|qJ
         ·left
          have:(i'+1)*P.cellsOf e≤i*P.cellsOf e:=eh _ aR
          rw[dY] at this
          omega
         ·right
          have:(i+1)*P.cellsOf e≤i'*P.cellsOf e:=eh _ (by omega)
          rw[dY] at this
          omega
        refine ⟨u,?_,a3.mono hle.dO hle.cJ⟩
        rcases bX with bX|bX
        ·rw[ag bX];simpa using a2
        ·rw[ah (by omega),ah (by omega)];simpa using a2)
     exact ⟨_,_,_,dx,sa.trans By.1,By.2,rfl⟩
   | map _ _=>cases h
   | nest e es av=>
    obtain ⟨b,hb,rfl⟩:=ha.iU ai (by simp)
    exact SW S ht hn hv ai hb .here h
 | c6 id ver path i c=>
  obtain ⟨e0,es,av,l,ai,h1,h2,h3,h⟩:=pw h
  obtain ⟨b,b1,e1,l1,hb,dP,rfl⟩:=ha.Sy ai h1 h2 h3
  exact SW S ht hn hv ai hb dP h
 | _=>cases h
end
section
variable {P:Program} {w w':World} {I I':Nat→Prop} {β β':Nat→Option Nat} {hp hp':Nat→Option ao} {C:af} {B:Nat} {M:Nat→Prop} {w0:Start}
theorem Lm: ∀{ts:List TypeId} {vs:List Value} {j:Nat} {y:V},(jV P ts vs)[j]? =some y→∃t v,ts[j]? =some t∧vs[j]? =some v∧y=qt P t v
 | [],vs,j,y,h=>by simp[jV] at h
 | _::_,[],j,y,h=>by simp[jV] at h
 | t::ts,v::vs,0,y,h=>by simp[jV] at h;exact ⟨t,v,rfl,rfl,h.symm⟩
 | t::ts,v::vs,j+1,y,h=>by
  simp only[jV,List.getElem?_cons_succ] at h
  obtain ⟨t',v',a,b,c⟩:=Lm h
  exact ⟨t',v',by simpa using a,by simpa using b,c⟩
theorem S4: ∀{ts:List TypeId} {vs:List Value},ts.length=vs.length→(jV P ts vs).length=vs.length
 | [],[],_=>rfl
 | [],_::_,h=>by simp at h
 | _::_,[],h=>by simp at h
 | t::ts,v::vs,h=>by simp[jV,S4 (ts:=ts) (vs:=vs) (by simpa using h)]
theorem lh {e:TypeId} (h:dt P e=true): ∃i z,P.info? e=some i∧i.zero=some z∧i.size=P.cellsOf e∧z.cells.size=P.cellsOf e∧zeroCells P e=jV P (flat P e) z.cells.toList:=by
 unfold dt at h
 simp only[aU,bj,lB] at h
 obtain ⟨h1,h2,_,h3⟩:=h
 cases hi:P.info? e with
 | none=>rw[hi] at h3;cases h3
 | some i=>
  rw[hi] at h3
  simp only[Option.bind_some] at h3
  cases hz:i.zero with
  | none=>rw[hz] at h3;cases h3
  | some z=>
   rw[hz] at h3
   simp only[bj] at h3
   exact ⟨i,z,rfl,hz,by simp[Program.cellsOf,hi],h3,by simp[zeroCells,hi,hz]⟩
theorem S5 {e:TypeId} (h:dt P e=true): ∃i z,P.info? e=some i∧i.zero=some z∧z.cells.size=(zeroCells P e).length∧z.cells.size=P.cellsOf e∧
  ∀(j:Nat) v x,z.cells[j]? =some v→(zeroCells P e)[j]? =some x→au P w I β hp v x:=by
 obtain ⟨i,z,h1,h2,h3,h4,h5⟩:=lh h
 have hl:(flat P e).length=z.cells.toList.length:=by rw[(ld h).1];simpa using h4.symm
 refine ⟨i,z,h1,h2,?_,h4,fun j v x hv hx=> ?_⟩
 ·rw[h5,S4 hl];simp
 ·rw[h5] at hx
  obtain ⟨t,v',_,xL,rfl⟩:=Lm hx
  have:v'=v:=by
   have e1:z.cells[j]? =some v':=by simpa using xL
   rw[hv] at e1;exact (dB e1).symm
  subst this
  exact au.const t v'
theorem oH {nb:Nat} {b:ao} {v:V} {upd:List (Nat × ao)} {r:R} {rd:List Nat} (h:(jW nb b v upd).run C hp=some (r,rd)):hp nb=none∧r=⟨v,(nb,b)::upd⟩:=by
 obtain ⟨l,h⟩:=run_get h
 cases hn:hp nb with
 | none=>rw[hn] at h;exact ⟨rfl,(aY h).symm⟩
 | some x=>rw[hn] at h;cases h
theorem S6 (S:aO P w I β hp B M w0) {nb:Nat} {xs:List V} {C0:Array Value} {T:TypeId} (hn:hp nb=none) (hs:C0.size=xs.length)
  (hx: ∀(j:Nat) v x,C0[j]? =some v→xs[j]? =some x→au P w I β hp v x) (ic:Sr P w.heap.size T C0):
  Le P w I β hp (w.alloc (.cells C0 T)) I (aV β nb (some w.heap.size)) (aV hp nb (some (.var T xs)))∧aO P (w.alloc (.cells C0 T)) I (aV β nb (some w.heap.size)) (aV hp nb (some (.var T xs))) B M w0∧
  au P (w.alloc (.cells C0 T)) I (aV β nb (some w.heap.size)) (aV hp nb (some (.var T xs))) (.pointer (some ⟨w.heap.size,0,none⟩)) (.ptr nb 0 0):=by
 obtain ⟨h1,h2⟩:=KZ S (blk:= .var T xs) (c:=C0) (T:=T) hn (fun b' h=>(dB (h.flat (by simp))).symm) (fun hle fJ dp=> .var rfl fJ hs dp (fun j v x a b=>(hx j v x a b).mono hle) ic)
 refine ⟨h1,h2,?_⟩
 have:=au.ptr (P:=P) (w:=w.alloc (.cells C0 T)) (I:=I) (β:=aV β nb (some w.heap.size)) (hp:=aV hp nb (some (.var T xs))) (i:=0) (c:=0) (blk:= .var T xs) (dw _ _ _) (by simp) (dw _ _ _)
 simpa using this
theorem acI (S:aO P w I β hp B M w0) {e:TypeId} {nb:Nat} {r:R} {rd:List Nat}
  (h:(Rd.aI (dt P e&&(!(qu P e)||Sm (zeroCells P e))) (jW nb (.var e (zeroCells P e)) (.ptr nb 0 0) [])).run C hp=some (r,rd)):dz P ((Instr.alloc e true (.tuple #[])).run P w) w I β hp B M w0 r:=by
 obtain ⟨ax,h⟩:=aP h
 rw[aU] at ax
 obtain ⟨ax,nh⟩:=ax
 obtain ⟨hn,rfl⟩:=oH h
 obtain ⟨i,z,h1,h2,h3,h4,h5⟩:=S5 (w:=w) (I:=I) (β:=β) (hp:=hp) ax
 obtain ⟨a,b,c⟩:=S6 S (T:=e) hn h3 h5 fun bB=>by
  rw[bB,oj,Bool.false_or] at nh
  cases hz:zeroCells P e with
  | nil=>rw[hz] at nh;cases nh
  | cons y l=>
   rw[hz] at nh h3 h5
   cases y<;>first|(cases nh;done)|skip
   have aR:0<z.cells.size:=by rw[h3];simp
   have:=h5 0 z.cells[0] .eb (lD aR) rfl
   left
   rw[lD aR]
   generalize z.cells[0]=u at this
   cases this;rfl
 exact ⟨_,_,_,_,by simp[Instr.alloc,zeroValue,typeInfo,h1,h2,newVar,newRow],a,b,c⟩
theorem acJ (S:aO P w I β hp B M w0) {e:TypeId} {nb:Nat} {x:V} {v:Value} {r:R} {rd:List Nat} (hv:au P w I β hp v x)
  (h:(Rd.aI (!(qu P e)) <| ml x.cells (jW nb (.var e x.cells) (.ptr nb 0 0) [])).run C hp=some (r,rd)):dz P ((Instr.box e v).run P w) w I β hp B M w0 r:=by
 obtain ⟨nh,h⟩:=aP h
 obtain ⟨e1,e2⟩:=K4 hv h
 obtain ⟨_,l,h⟩:=GG h (vs:=v.cells.toList) (by simpa using e1) (fun j u y a b=>e2 j u y (by simpa using a) b)
 obtain ⟨hn,rfl⟩:=oH h
 obtain ⟨a,b,c⟩:=S6 S (T:=e) hn e1 e2 fun bB=>by rw[bB] at nh;cases nh
 exact ⟨_,_,_,_,by simp[Instr.box,newVar,newRow],a,b,c⟩
theorem foldl_set (off:Nat): ∀(vs:List Value) (k:Nat) (cs:Array Value) (i:Nat),off+k+vs.length≤cs.size→
  ((vs.zipIdx k).foldl (fun cs p=>cs.setIfInBounds (off+p.2) p.1) cs)[i]? =if i<off+k then cs[i]? else if i<off+k+vs.length then vs[i-(off+k)]? else cs[i]?
 | [],k,cs,i,h=>by simp;intro h1 h2;omega
 | v::vs,k,cs,i,h=>by
  simp only[List.zipIdx_cons,List.foldl_cons]
  simp only[List.length_cons] at h⊢
  rw[foldl_set off vs (k+1) _ i (by simp;omega)]
  by_cases h1:i<off+k
  ·rw[ag (by omega),ag h1]
   rw[FH (by omega)]
  ·rw[ah h1]
   by_cases h2:i=off+k
   ·subst h2
    rw[ag (by omega),ag (by omega)]
    rw[Kp (by omega)]
    simp
   ·rw[ah (by omega)]
    by_cases h3:i<off+k+(vs.length+1)
    ·rw[ag (by omega),ag h3,show i-(off+k)=(i-(off+(k+1)))+1 by omega]
     simp
    ·rw[ah (by omega),ah h3,FH (by omega)]
theorem S7 (off:Nat): ∀(vs:List Value) (k:Nat) (cs:Array Value),((vs.zipIdx k).foldl (fun cs p=>cs.setIfInBounds (off+p.2) p.1) cs).size=cs.size
 | [],k,cs=>rfl
 | v::vs,k,cs=>by
  simp only[List.zipIdx_cons,List.foldl_cons]
  rw[S7 off vs (k+1)]
  simp
theorem S8 {cells:Array Value} {off:Nat} {v:Value} (h:off+v.cells.size≤cells.size) (i:Nat):
  (v.cells.zipIdx.foldl (fun cs (p:Value × Nat)=>cs.setIfInBounds (off+p.2) p.1) cells)[i]? =if i<off then cells[i]? else if i<off+v.cells.size then v.cells[i-off]? else cells[i]? :=by
 have:=foldl_set off v.cells.toList 0 cells i (by simpa using h)
 rw[←FI]
 simpa[Array.toList_zipIdx] using this
theorem S9 {cells:Array Value} {off:Nat} {v:Value}:(v.cells.zipIdx.foldl (fun cs (p:Value × Nat)=>cs.setIfInBounds (off+p.2) p.1) cells).size=cells.size:=by
 have:=S7 off v.cells.toList 0 cells
 rw[←FI]
 simpa[Array.toList_zipIdx] using this
inductive xV (P:Program) (w:World) (I:Nat→Prop) (β:Nat→Option Nat) (hp:Nat→Option ao):List (Nat × Value)→List (Nat × V)→Prop
 | nil:xV P w I β hp [] []
 | cons {i:Nat} {v:Value} {x:V} {vs:List (Nat × Value)} {xs:List (Nat × V)}:v.cells.size=x.cells.length→(∀(j:Nat) u y,v.cells[j]? =some u→x.cells[j]? =some y→au P w I β hp u y)→
   xV P w I β hp vs xs→xV P w I β hp ((i,v)::vs) ((i,x)::xs)
theorem Ta (place:Nat→Option (Nat × Nat)): ∀{vs:List (Nat × Value)} {px:List (Nat × V)} {cells:Array Value} {xs ys:List V},xV P w I β hp vs px→cells.size=xs.length→
  (∀(j:Nat) v x,cells[j]? =some v→xs[j]? =some x→au P w I β hp v x)→uN place xs px=some ys→
  ∃qK:Array Value,Instr.fill place cells vs=some qK∧qK.size=ys.length∧∀(j:Nat) v x,qK[j]? =some v→ys[j]? =some x→au P w I β hp v x
 | _,_,cells,xs,ys,.nil,hs,hx,h=>by
  simp only[uN,eN] at h
  subst h
  exact ⟨cells,by simp[Instr.fill],hs,hx⟩
 | _,_,cells,xs,ys,@xV.cons _ _ _ _ _ i v x vs px h1 h2 h3,hs,hx,h=>by
  simp only[uN] at h
  cases bM:place i with
  | none=>rw[bM] at h;cases h
  | some os=>
   obtain ⟨off,size⟩:=os
   rw[bM] at h
   simp only at h
   cases hc:(Nat.beq x.cells.length size&&Nat.ble (off+size) xs.length) with
   | false=>rw[hc] at h;cases h
   | true=>
    rw[hc] at h
    simp only[cond_true] at h
    simp only[aU,bj,dN] at hc
    have hv:off+v.cells.size≤cells.size:=by omega
    have hb:off+x.cells.length≤xs.length:=by omega
    have hl:(gQ xs off x.cells).length=xs.length:=Bx _ _ _ hb
    obtain ⟨qK,f1,f2,f3⟩:=Ta place (cells:=v.cells.zipIdx.foldl (fun cs (p:Value × Nat)=>cs.setIfInBounds (off+p.2) p.1) cells) (xs:=gQ xs off x.cells) h3 (by rw[S9,hl,hs])
     (fun j u y hu hy=>by
      rw[S8 hv] at hu
      unfold gQ at hy
      rw[oF _ _ _ _ hb] at hy
      by_cases j1:j<off
      ·rw[ag j1] at hu hy;exact hx j u y hu hy
      ·rw[ah j1] at hu hy
       by_cases j2:j<off+x.cells.length
       ·rw[ag (by omega)] at hu
        rw[ag j2] at hy
        exact h2 (j-off) u y hu hy
       ·rw[ah (by omega)] at hu
        rw[ah j2] at hy
        exact hx j u y hu hy) h
    refine ⟨qK,?_,f2,f3⟩
    simp only[Instr.fill,bM]
    rw[ah (by simp;omega)]
    exact f1
theorem acK {t:TypeId} {parts:Array (Nat × Value)} {cells:Array Value} {z:Value} {i:TypeInfo} (hi:P.info? t=some i) (hz:i.zero=some z) (h:Instr.fill (placeOf P t) z.cells parts.toList=some cells) (ha:b7 P t=true)
  (bM: ∀fs,P.underlying t=some (.struct fs)→(fs.toList.mapM fun f=>(P.info? f.type).map fun i=>(f.offset,i.size)).isSome=true) (sc: ∀n e,P.underlying t=some (.array n e)→(P.info? e).isSome=true):
  (Instr.build t parts).run P w= .ok (.agg cells) w:=by
 refine run_build w t parts cells ?_
 unfold Program.built
 unfold b7 at ha
 rw[hi]
 split at ha
 ·rename_i fs hu
  have:=bM fs hu
  cases hm:fs.toList.mapM fun f=>(P.info? f.type).map fun i=>(f.offset,i.size) with
  | none=>rw[hm] at this;cases this
  | some places=>
   simp only[hu,hz,hm]
   have hq:placeOf P t=fun i=>places[i]? :=by simp[placeOf,hu,hm]
   rw[hq] at h
   simpa using h
 ·rename_i n e hu
  have:=sc n e hu
  cases ik:P.info? e with
  | none=>rw[ik] at this;cases this
  | some ie=>
   simp only[hu,hz,ik]
   have hq:placeOf P t=fun i=>some (i*ie.size,ie.size):=by simp[placeOf,hu,ik]
   rw[hq] at h
   exact h
 ·cases ha
theorem Tb {α:Type}: ∀(xs ys:List V) (k:Rd α),ml (xs++ys) k=ml xs (ml ys k)
 | [],_,_=>rfl
 | x::xs,ys,k=>by simp only[List.cons_append,ml,Tb xs ys k]
theorem Tc {a:Act} {sl:Nat→V} (hs:lJ P w I β hp a sl) {G:Nat→V} (hg:iE P G w I) (t:TypeId) {α:Type}: ∀{l:List (Nat × Operand)} {k:Rd α} {r:α} {rd:List Nat},
  (ml ((l.map fun p=>(bc P G t sl p.2).cells).flatten) k).run C hp=some (r,rd)→
  xV P w I β hp (l.map fun p=>(p.1,a.eval p.2)) (l.map fun p=>(p.1,bc P G t sl p.2))∧∃fK,k.run C hp=some (r,fK)
 | [],k,r,rd,h=>⟨.nil,rd,h⟩
 | (i,x)::l,k,r,rd,h=>by
  simp only[dZ,List.flatten_cons,Tb] at h
  obtain ⟨e1,e2⟩:=K4 (hs.ev hg t x) h
  obtain ⟨_,l1,h⟩:=GG h (vs:=(a.eval x).cells.toList) (by simpa using e1) (fun j u y a b=>e2 j u y (by simpa using a) b)
  obtain ⟨h1,h2⟩:=Tc hs hg t h
  exact ⟨.cons e1 e2 h1,h2⟩
theorem acL (S:aO P w I β hp B M w0) {a:Act} {sl:Nat→V} (hs:lJ P w I β hp a sl) {G:Nat→V} (hg:iE P G w I) {t ty:TypeId} {ps:Array (Nat × Operand)} {r:R} {rd:List Nat}
  (h:(Rd.aI (dt P t&&(b7 P t&&Gb P t)) (ml ((ps.toList.map fun p=>(bc P G ty sl p.2).cells).flatten)
   (xt (uN (placeOf P t) (zeroCells P t) (ps.toList.map fun p=>(p.1,bc P G ty sl p.2))) fun cs=> .ret ⟨.agg cs,[]⟩))).run C hp=some (r,rd)):
  dz P ((Instr.build t (ps.map fun (i,x)=>(i,a.eval x))).run P w) w I β hp B M w0 r:=by
 obtain ⟨ax,h⟩:=aP h
 simp only[aU] at ax
 obtain ⟨h1,l,h⟩:=Tc hs hg ty h
 cases hf:uN (placeOf P t) (zeroCells P t) (ps.toList.map fun p=>(p.1,bc P G ty sl p.2)) with
 | none=>rw[hf] at h;cases h
 | some cs=>
  rw[hf] at h
  obtain rfl:=aY h
  obtain ⟨i,z,hi,hz,h3,h4,h5⟩:=S5 (w:=w) (I:=I) (β:=β) (hp:=hp) ax.1
  obtain ⟨cells,f1,f2,f3⟩:=Ta (placeOf P t) h1 h3 h5 hf
  have GR:=ax.2.2
  refine .same S (v:= .agg cells) (acK hi hz (by simpa using f1) ax.2.1 (fun fs hu=> ?_) (fun n e hu=> ?_)) (.agg f2 f3)
  ·simpa[Gb,hu] using GR
  ·simpa[Gb,hu] using GR
theorem acM (c8: ∀id blk,hp id=some blk→eO P w I β hp (β id) blk) {x:V} {v:Value} {ys:List V} {fr:List (Nat × ao)} {rd:List Nat} {ts:List TypeId} (hv:au P w I β hp v x)
  (h:(tk P x.cells).run C hp=some ((ys,fr),rd)) (ht:rG P ts ys=true):
  v.cells.size=x.cells.length∧∀(j:Nat) u y,v.cells.toList[j]? =some u→x.cells[j]? =some y→au P w I β hp u y:=by
 cases x with
 | agg xs=>
  obtain ⟨cs,rfl,h1,h2⟩:=hv.lL
  exact ⟨h1,fun j u y a b=>h2 j u y (by simpa[Value.cells] using a) b⟩
 | _=>
  simp only[V.cells] at h⊢
  simp only[tk] at h
  obtain ⟨⟨y1,u1⟩,l3,l4,hq,h⟩:=lK h
  obtain ⟨q1,q2⟩:=Gt c8 hq hv
  obtain ⟨⟨y2,u2⟩,l5,l6,Lk,h⟩:=lK h
  cases Lk
  have:=aY h
  cases this
  obtain ⟨tl,tg⟩:=u9 ht
  have gE:=tg 0 _ y1 (bZ (by rw[tl];exact Nat.one_pos)) rfl
  have bM:=q2 (jz P w I β hp u1) (fun _ h=> .inl h) (fun p hp b h=> .inr ⟨p,hp,h⟩)
  have ho:=bM.pure gE
  have Ll:v.cells= #[v]:=by cases ho<;>rfl
  rw[Ll]
  refine ⟨rfl,fun j u y hu hy=> ?_⟩
  cases j with
  | zero=>simp at hu hy;subst hu;subst hy;exact hv
  | succ j=>simp at hy
def xW (P:Program) (w:World) (I:Nat→Prop) (e:TypeId) (cells:Array Value) (es:List V):Prop:=
 cells.size=es.length*P.cellsOf e∧∀(i j:Nat) (x:V) (t':TypeId),es[i]? =some x→(bp P e)[j]? =some t'→j<P.cellsOf e→∃v,cells[i*P.cellsOf e+j]? =some v∧Pure P w I t' v (cb P e x j)
theorem xW.set {e:TypeId} {cells:Array Value} {es ys:List V} {i:Nat} {v:Value} (h:xW P w I e cells es) (hi:i<es.length) (hv:v.cells.size=P.cellsOf e) (hy:ys.length=P.cellsOf e)
  (hr: ∀(j:Nat) (t':TypeId) (u:Value) (y:V),(bp P e)[j]? =some t'→v.cells[j]? =some u→ys[j]? =some y→Pure P w I t' u y):
  xW P w I e (v.cells.zipIdx.foldl (fun cs (p:Value × Nat)=>cs.setIfInBounds (i*P.cellsOf e+p.2) p.1) cells) (es.set i (cT P e ys)):=by
 obtain ⟨h1,h2⟩:=h
 have hb:i*P.cellsOf e+v.cells.size≤cells.size:=by
  have:(i+1)*P.cellsOf e≤es.length*P.cellsOf e:=eh _ hi
  rw[dY] at this
  omega
 refine ⟨by rw[S9,kR,h1],fun i' j x t' hx ht hj=> ?_⟩
 rw[S8 hb]
 rw[List.getElem?_set] at hx
 by_cases jC:i=i'
 ·subst jC
  rw[ag rfl,ag hi] at hx
  cases hx
  rw[ah (by omega),ag (by omega),show i*P.cellsOf e+j-i*P.cellsOf e=j by omega]
  have h3:j<v.cells.size:=by omega
  have h4:j<ys.length:=by omega
  refine ⟨v.cells[j],lD h3,?_⟩
  rw[rY (bZ h4) ht]
  exact hr j t' _ _ ht (lD h3) (bZ h4)
 ·rw[ah jC] at hx
  have bX:i'*P.cellsOf e+j<i*P.cellsOf e∨i*P.cellsOf e+v.cells.size≤i'*P.cellsOf e+j:=by
   rcases s6 i' i with aR|qJ
   ·left
    have:(i'+1)*P.cellsOf e≤i*P.cellsOf e:=eh _ aR
    rw[dY] at this
    omega
   ·right
    have:(i+1)*P.cellsOf e≤i'*P.cellsOf e:=eh _ (by omega)
    rw[dY] at this
    omega
  rcases bX with bX|bX
  ·rw[ag bX];exact h2 i' j x t' hx ht hj
  ·rw[ah (by omega),ah (by omega)];exact h2 i' j x t' hx ht hj
theorem acN {t':TypeId} {v:Value} (gE:fH P t' (xm (qt P t' v))=true):Pure P w I t' v (xm (qt P t' v)):=by
 have hc:=au.const (P:=P) (w:=w) (I:=I) (β:=fun _=>none) (hp:=fun _=>none) t' v
 cases vf:qt P t' v<;>rw[vf] at gE hc<;>simp only[xm] at gE⊢
 case int k n=>rw[hc.eD];exact Plain.pure (v:= .int k n) (y:= .int k n) rfl gE
 case bool b=>rw[hc.lf];exact Plain.pure (v:= .bool b) (y:= .bool b) rfl gE
 case str l=>obtain ⟨s,e1,e2⟩:=hc.ng;rw[e1];exact Plain.pure (v:= .string s) (y:= .str l) ⟨s,rfl,e2⟩ gE
 case nilS e'=>
  cases hc
  exact Plain.pure (y:= .list e' []) (jv.any fun _=>rfl) gE
 case list e' es=>
  cases hc with
  | list hp=>exact Plain.pure (y:= .list e' es) hp gE
 all_goals (unfold fH at gE;split at gE<;>simp_all)
theorem BF {e:TypeId} (h:mY P e=true): ∃i z,P.info? e=some i∧i.zero=some z∧i.size=P.cellsOf e∧z.cells.size=P.cellsOf e∧
  ∀(j:Nat) (t':TypeId),(bp P e)[j]? =some t'→j<P.cellsOf e→∃v,z.cells[j]? =some v∧Pure P w I t' v (cb P e (cT P e (fw P e)) j):=by
 unfold mY at h
 simp only[aU] at h
 obtain ⟨i,z,h1,h2,h3,h4,h5⟩:=lh h.1
 refine ⟨i,z,h1,h2,h3,h4,fun j t' ht hj=> ?_⟩
 obtain ⟨tl,tg⟩:=u9 h.2
 have cp:j<(fw P e).length:=by rw[←tl,(ld h.1).1];exact hj
 have hz:=bZ cp
 have gE:=tg j t' _ (by rw[←tD];exact ht) hz
 refine ⟨z.cells[j],lD (by omega),?_⟩
 rw[rY hz ht]
 have vg:(fw P e)[j]=xm (qt P t' z.cells[j]):=by
  have:(fw P e)[j]? =((zeroCells P e)[j]?).map xm:=by simp[fw]
  rw[hz] at this
  cases hc:(zeroCells P e)[j]? with
  | none=>rw[hc] at this;cases this
  | some y=>
   rw[hc] at this
   simp only[Option.map_some,eN] at this
   rw[h5] at hc
   obtain ⟨t2,v2,a1,a2,rfl⟩:=Lm hc
   have ht2:t2=t':=by
    rw[←tD,ht] at a1;exact (dB a1).symm
   have rT:v2=z.cells[j]:=by
    have hjz:j<z.cells.size:=by omega
    have:z.cells.toList[j]? =some z.cells[j]:=by simp[hjz]
    rw[this] at a2;exact (dB a2).symm
   rw[this,ht2,rT]
 rw[vg] at gE⊢
 exact acN gE
end
section
variable {P:Program} {w w':World} {I I':Nat→Prop} {β β':Nat→Option Nat} {hp hp':Nat→Option ao} {C:af} {B:Nat} {M:Nat→Prop} {w0:Start}
theorem xX (S:aO P w I β hp B M w0) {nb cap:Nat} {e:TypeId} {es:List V} {C0:Array Value} (ax:dt P e=true) (hn:hp nb=none) (hs:C0.size=cap*P.cellsOf e) (hl:es.length≤cap) (hm:cap≤maxLen)
  (hx: ∀(i j:Nat) (x:V) (t':TypeId),es[i]? =some x→(bp P e)[j]? =some t'→j<P.cellsOf e→∃v,C0[i*P.cellsOf e+j]? =some v∧Pure P w I t' v (cb P e x j)):
  Le P w I β hp (w.alloc (.cells C0 e)) I (aV β nb (some w.heap.size)) (aV hp nb (some (.arr e es false)))∧aO P (w.alloc (.cells C0 e)) I (aV β nb (some w.heap.size)) (aV hp nb (some (.arr e es false))) B M w0∧
  au P (w.alloc (.cells C0 e)) I (aV β nb (some w.heap.size)) (aV hp nb (some (.arr e es false))) (.slice (some ⟨w.heap.size,0,none⟩) es.length cap) (.whole e nb):=by
 obtain ⟨h1,h2⟩:=KZ S (blk:= .arr e es false) (c:=C0) (T:=e) hn (fun b' h=>(dB (h.flat (by simp))).symm) (fun hle fJ dp=> .arr ax rfl fJ (by rw[hs];exact eh _ hl) (fun h=>by cases h) (fun _=>dp) fun i j x t' a b c=>by
  obtain ⟨v,hv,hp⟩:=hx i j x t' a b c
  exact ⟨v,hv,hp.mono hle.dO hle.cJ⟩)
 refine ⟨h1,h2,.whole (dw _ _ _) (dw _ _ _) ?_ hl hm⟩
 rw[oB (heap_alloc_new w (.cells C0 e)),hs]
theorem At.only {b b':Nat} {e e':TypeId} {es aW:List V} {q:Path} (hz: ∀(i j:Nat) x t' e1 l,es[i]? =some x→(bp P e)[j]? =some t'→cb P e x j= .list e1 l→l=[])
  (h:At P w b e es q b' e' aW):q=[]∧b'=b∧e'=e∧aW=es:=by
 cases h with
 | here=>exact ⟨rfl,rfl,rfl,rfl⟩
 | step h1 h2 h3 h4 h5 h6=>have:=hz _ _ _ _ _ _ h2 h3 h5;subst this;simp at h6
theorem na.rQ {t:TypeId} {v:Value} {x:V} (h:Pure P w I t v x) (hz: ∀e1 l,x= .list e1 l→l=[]):na P w I t v x:=by
 cases h with
 | int h=>exact .gW (by unfold gR;rw[h]) (.int h)
 | bool h=>exact .gW (by unfold gR;rw[h]) (.bool h)
 | str h hl=>exact .gW (by unfold gR;rw[h]) (.str h hl)
 | nil h=>exact .emp h fun _=>rfl
 | emp h=>exact .emp h fun h=>by cases h
 | list g hu hl _ _ _ _=>
  have:=hz _ _ rfl
  subst this
  simp at hl
  subst hl
  exact .emp hu fun h=>by cases h
theorem acO (S:aO P w I β hp B M w0) {nb cap:Nat} {e:TypeId} {es:List V} {C0:Array Value} (ax:dt P e=true) (hn:hp nb=none) (hs:C0.size=cap*P.cellsOf e) (hl:es.length≤cap) (hm:cap≤maxLen)
  (hx: ∀(i j:Nat) (x:V) (t':TypeId),es[i]? =some x→(bp P e)[j]? =some t'→j<P.cellsOf e→∃v,C0[i*P.cellsOf e+j]? =some v∧Pure P w I t' v (cb P e x j))
  (hz: ∀(i j:Nat) x t' e1 l,es[i]? =some x→(bp P e)[j]? =some t'→cb P e x j= .list e1 l→l=[]):
  Le P w I β hp (w.alloc (.cells C0 e)) I (aV β nb (some w.heap.size)) (aV hp nb (some (.nest e es [0,0,0])))∧aO P (w.alloc (.cells C0 e)) I (aV β nb (some w.heap.size)) (aV hp nb (some (.nest e es [0,0,0]))) B M w0∧
  au P (w.alloc (.cells C0 e)) I (aV β nb (some w.heap.size)) (aV hp nb (some (.nest e es [0,0,0]))) (.slice (some ⟨w.heap.size,0,none⟩) es.length cap) (.whole e nb):=by
 obtain ⟨h1,h2⟩:=KZ S (blk:= .nest e es [0,0,0]) (c:=C0) (T:=e) hn (fun b' h=>by
   cases h with
   | root _ h=>exact (dB h).symm
   | row h ha=>cases h;exact (At.only hz ha).2.1)
  (fun hle fJ dp=> .nest rfl (fun q b' e' aW ha=>by
   obtain ⟨rfl,rfl,rfl,rfl⟩:=At.only hz ha
   refine ⟨ax,⟨C0,fJ,by rw[hs];exact eh _ hl,fun i j x t' a b c=> ?_⟩,dp⟩
   obtain ⟨v,hv,hp⟩:=hx i j x t' a b c
   exact ⟨v,hv,.rQ (hp.mono hle.dO hle.cJ) fun e1 l h=>hz i j x t' e1 l a b h⟩)
   fun q1 q2 b' e1 cO e2 cE a1 a2=>(At.only hz a1).1.trans (At.only hz a2).1.symm)
 refine ⟨h1,h2,.fj (dw _ _ _) (dw _ _ _) ?_ hl hm⟩
 rw[oB (heap_alloc_new w (.cells C0 e)),hs]
theorem Td (c8: ∀id blk,hp id=some blk→eO P w I β hp (β id) blk) {a:Act} {sl:Nat→V} (hs:lJ P w I β hp a sl) {G:Nat→V} (hg:iE P G w I) {e:TypeId} {len:Nat}: ∀{l:List (Nat × Operand)} {ps:List (Nat × V)} {upd:List (Nat × ao)} {rd:List Nat},
  (A0 P e len (l.map fun p=>(p.1,bc P G e sl p.2))).run C hp=some ((ps,upd),rd)→dt P e=true→(∀p∈upd,Bl hp p)∧∀I':Nat→Prop,(∀b,I b→I' b)→(∀p∈upd,∀b,tC P w β hp p.1 b→I' b)→
   ∀(cells:Array Value) (es:List V),es.length=len→xW P w I' e cells es→∃qK,Instr.fill (fun i=>some (i*P.cellsOf e,P.cellsOf e)) cells (l.map fun p=>(p.1,a.eval p.2))=some qK∧xW P w I' e qK (AZ es ps)∧(AZ es ps).length=len
 | [],ps,upd,rd,h,_=>by
  cases h
  exact ⟨by simp,fun I' _ _ cells es hl he=>⟨cells,by simp[Instr.fill],he,hl⟩⟩
 | (i,x)::l,ps,upd,rd,h,ax=>by
  simp only[dZ,A0] at h
  obtain ⟨⟨ys,u1⟩,l1,l2,h1,h⟩:=lK h
  obtain ⟨hc,h⟩:=aP h
  obtain ⟨⟨ps',u2⟩,l3,l4,h2,h⟩:=lK h
  have:=aY h
  cases this
  simp only[aU,lB] at hc
  obtain ⟨hi,gE⟩:=hc
  obtain ⟨tl,tg⟩:=u9 gE
  have xM:=hs.ev hg e x
  obtain ⟨v1,v2⟩:=acM c8 xM h1 gE
  obtain ⟨k1,k2,k3⟩:=KX c8 h1 (vs:=(a.eval x).cells.toList) (by simpa using v1) v2
  obtain ⟨m1,m2⟩:=Td c8 hs hg h2 ax
  refine ⟨fun p hp=> ?_,fun I' i1 i2 cells es hl he=> ?_⟩
  ·rcases cZ.1 hp with h|h
   ·exact k2 p h
   ·exact m1 p h
  ·have bM:=k3 I' i1 (fun p hp=>i2 p (cZ.2 (.inl hp)))
   have bh:=(ld ax).1
   have vd:ys.length=P.cellsOf e:=by rw[←tl,bh]
   have SO:(a.eval x).cells.size=P.cellsOf e:=by rw[v1,←k1,vd]
   have vh:=he.set (i:=i) (ys:=ys) (by omega) SO vd (fun j t' u y ht hu hy=>by
    exact (bM j u y (by simpa using hu) hy).pure (tg j t' y (by rw[←tD];exact ht) hy))
   obtain ⟨qK,f1,f2,f3⟩:=m2 I' i1 (fun p hp=>i2 p (cZ.2 (.inr hp))) _ (es.set i (cT P e ys)) (by simpa using hl) vh
   refine ⟨qK,?_,f2,f3⟩
   have hb:i*P.cellsOf e+P.cellsOf e≤cells.size:=by
    rw[he.1,hl]
    have:(i+1)*P.cellsOf e≤len*P.cellsOf e:=eh _ hi
    rw[dY] at this
    omega
   simp only[dZ,Instr.fill]
   rw[ah (by simp;omega)]
   exact f1
theorem Te {z:Array Value} {n k:Nat} (hk:k<n) (hz:0<z.size):((Array.range n).map (z[· %z.size]!))[k]? =z[k %z.size]? :=by
 have hm:k %z.size<z.size:=Nat.mod_lt _ hz
 simp[hk,hm]
theorem GS {e:TypeId} (h:mY P e=true) {i:TypeInfo} {z:Value} (hi:P.info? e=some i) (hz:i.zero=some z) (n m:Nat) (ph:n≤m):
  ∀(k j:Nat) (x:V) (t':TypeId),(List.replicate n (cT P e (fw P e)))[k]? =some x→(bp P e)[j]? =some t'→j<P.cellsOf e→
   ∃v,((Array.range (m*P.cellsOf e)).map (z.cells[· %z.cells.size]!))[k*P.cellsOf e+j]? =some v∧Pure P w I t' v (cb P e x j):=by
 intro k j x t' hx ht hj
 obtain ⟨i2,z2,h1,h2,h3,h4,h5⟩:=BF (w:=w) (I:=I) h
 rw[hi] at h1;cases h1
 rw[hz] at h2;cases h2
 rw[List.getElem?_replicate] at hx
 split at hx
 ·rename_i hk
  cases hx
  obtain ⟨v,hv,hp⟩:=h5 j t' ht hj
  refine ⟨v,?_,hp⟩
  have hb:k*P.cellsOf e+j<m*P.cellsOf e:=by
   have:(k+1)*P.cellsOf e≤m*P.cellsOf e:=eh _ (by omega)
   rw[dY] at this
   omega
  rw[Te hb (by omega),h4,show (k*P.cellsOf e+j) %P.cellsOf e=j by rw[kS,Nat.mul_add_mod];exact Nat.mod_eq_of_lt hj]
  exact hv
 ·cases hx
theorem acP {P:Program} (w:World) (t e:TypeId) (len:Nat) (parts:Array (Nat × Value)) (cells:Array Value) (ie:TypeInfo) (z:Value)
  (hu:P.underlying t=some (.slice e)) (ik:P.info? e=some ie) (hz:ie.zero=some z) (acQ: ¬len*ie.size>2^24)
  (h:Instr.fill (fun i=>some (i*ie.size,ie.size)) ((Array.range (len*ie.size)).map (z.cells[· %z.cells.size]!)) parts.toList=some cells):
  (Instr.buildSlice t len parts).run P w= .ok (.slice (some ⟨w.heap.size,0,none⟩) len len) (w.alloc (.cells cells e)):=by
 by_cases ph:len*ie.size=0
 ·have h0: ∀g:Nat→Value,(Array.range (len*ie.size)).map g= #[]:=by intro g;exact Array.eq_empty_of_size_eq_zero (by simp[ph])
  have hp: ∀(u:Array Value),(Pure.pure u:Sem (Array Value)).run P w= .ok u w:=fun _=>rfl
  rw[h0] at h
  simp only[Instr.buildSlice,Sem.run_bind,run_underlying hu,Result.andThen_ok,sizeOf,typeInfo,ik]
  have h1:(Array.range (len*ie.size)).map (fun _:Nat=>(default:Value))= #[]:=h0 _
  have hs: ¬16777216<len*ie.size:=by omega
  simp[ik,hs,ph]
  simp only[ph] at h1
  simp[h1,h,newRow]
 ·exact run_buildSlice w t e len parts cells ie z hu ik hz acQ ph h
theorem acR (S:aO P w I β hp B M w0) {a:Act} {sl:Nat→V} (hs:lJ P w I β hp a sl) {G:Nat→V} (hg:iE P G w I) {t e:TypeId} {len nb:Nat} {ps:Array (Nat × Operand)} {r:R} {rd:List Nat} (hu:P.underlying t=some (.slice e))
  (h:(Rd.aI (mY P e&&Nat.ble (len*P.cellsOf e) (2^24)) ((A0 P e len (ps.toList.map fun p=>(p.1,bc P G e sl p.2))).bind fun r=>
    jW nb (.arr e (AZ (List.replicate len (cT P e (fw P e))) r.1) false) (.whole e nb) r.2)).run C hp=some (r,rd)):
  dz P ((Instr.buildSlice t len (ps.map fun (i,x)=>(i,a.eval x))).run P w) w I β hp B M w0 r:=by
 obtain ⟨hc,h⟩:=aP h
 simp only[aU,dN] at hc
 obtain ⟨cP,xC⟩:=hc
 have ax:dt P e=true:=by
  unfold mY at cP;simp only[aU] at cP;exact cP.1
 obtain ⟨⟨pv,upd⟩,l1,l2,h1,h⟩:=lK h
 obtain ⟨hn,rfl⟩:=oH h
 obtain ⟨m1,m2⟩:=Td S.h.rel hs hg h1 ax
 obtain ⟨sa,S1⟩:=Bp S m1
 obtain ⟨i,z,hi,hz,h3,h4,_⟩:=BF (w:=w) (I:=I) cP
 have mq:=(ld ax).2
 have h0:xW P w (jz P w I β hp upd) e ((Array.range (len*P.cellsOf e)).map (z.cells[· %z.cells.size]!)) (List.replicate len (cT P e (fw P e))):=
  ⟨by simp,GS cP hi hz len len (bN _)⟩
 obtain ⟨cells,f1,f2,f3⟩:=m2 (jz P w I β hp upd) (fun _ h=> .inl h) (fun p hp b h=> .inr ⟨p,hp,h⟩) _ _ (by simp) h0
 have lj:b9 hp upd nb=none:=by
  rcases u3 (hp:=hp) (l:=upd) (id:=nb) with h|⟨b',hm,_⟩
  ·exact h.trans hn
  ·obtain ⟨e1,cO,_,h5⟩:=m1 _ hm
   simp only[hn] at h5
   rcases h5 with ⟨_,h5⟩|⟨_,h5⟩<;>cases h5
 have py:len≤maxLen:=by
  have:len*1≤len*P.cellsOf e:=uF _ mq
  simp only[maxLen]
  omega
 obtain ⟨n1,n2,n3⟩:=xX S1 (cap:=len) ax lj (by rw[f2.1,f3]) (by rw[f3];exact bN _) py f2.2
 have dx:=acP w t e len (ps.map fun (i,x)=>(i,a.eval x)) cells i z hu hi hz (by rw[h3];omega) (by rw[h3];simpa using f1)
 refine ⟨_,_,_,_,dx,sa.trans n1,n2,?_⟩
 rw[f3] at n3
 exact n3
theorem Tf (S:aO P w I β hp B M w0) {t e:TypeId} {nb:Nat} {kl kc:IntKind} {n m:Int} {r:R} {rd:List Nat} (hu:P.underlying t=some (.slice e))
  (h:(Rd.aI (mY P e&&(decide (0≤n)&&(decide (n≤m)&&Nat.ble (m.toNat*P.bytesOf e) b8)))
    (jW nb (.arr e (List.replicate n.toNat (cT P e (fw P e))) false) (.whole e nb) [])).run C hp=some (r,rd)):
  dz P ((Instr.makeSlice t (.int kl n) (.int kc m)).run P w) w I β hp B M w0 r:=by
 obtain ⟨hc,h⟩:=aP h
 simp only[aU,dN,dX] at hc
 obtain ⟨cP,h0,ph,fp⟩:=hc
 have ax:dt P e=true:=by
  unfold mY at cP;simp only[aU] at cP;exact cP.1
 obtain ⟨hn,rfl⟩:=oH h
 obtain ⟨i,z,hi,hz,h3,h4,_⟩:=BF (w:=w) (I:=I) cP
 have nk:P.bytesOf e=i.bytes:=by simp[Program.bytesOf,hi]
 have Ln:m≤9223372036854775807:=by
  have h1:m.toNat*1≤m.toNat*P.bytesOf e:=uF _ (xE ax)
  simp only[b8] at fp
  omega
 have dx:=run_make (P:=P) w t e i z hu hi hz kl kc n m h0 ph (by
  rw[nk] at fp
  simp only[b8] at fp
  have:(i.bytes:Int)*m=((m.toNat*i.bytes:Nat):Int):=by
   rw[Int.natCast_mul,Int.toNat_of_nonneg (by omega),Int.mul_comm]
  rw[this]
  omega) Ln
 have hlen:(List.replicate n.toNat (cT P e (fw P e))).length=n.toNat:=by simp
 obtain ⟨n1,n2,n3⟩:=xX S (cap:=m.toNat) (es:=List.replicate n.toNat (cT P e (fw P e))) (C0:=madeCells z.cells (m.toNat*i.size)) ax hn (by rw[size_madeCells,h3]) (by rw[hlen];omega) (by simp only[maxLen];omega)
  (by rw[h3];exact GS cP hi hz n.toNat m.toNat (by omega))
 refine ⟨_,_,_,_,dx,n1,n2,?_⟩
 rw[hlen] at n3
 exact n3
theorem Lo: ∀{l:List V} {j:Nat} {e1:TypeId} {k:List V},Ba l=true→V.nth l j= .list e1 k→k=[]
 | [],j,e1,k,_,h=>by cases j<;>cases h
 | x::l,0,e1,k,hn,h=>by
  simp only[V.nth] at h
  subst h
  cases k with
  | nil=>rfl
  | cons _ _=>cases hn
 | x::l,j+1,e1,k,hn,h=>by
  refine Lo (l:=l) (j:=j) ?_ h
  cases x with
  | list e2 k2=>
   cases k2 with
   | nil=>exact hn
   | cons _ _=>cases hn
  | _=>exact hn
theorem acS {e:TypeId} {n:Nat} (ax:dt P e=true) (h:Ba (fw P e)=true):
  ∀(i j:Nat) x t' e1 l,(List.replicate n (cT P e (fw P e)))[i]? =some x→(bp P e)[j]? =some t'→cb P e x j= .list e1 l→l=[]:=by
 intro i j x t' e1 l hx ht hl
 have:=List.eq_of_mem_replicate (kg hx)
 subst this
 unfold cb cT at hl
 cases ha:b7 P e with
 | true=>rw[ha] at hl;exact Lo h hl
 | false=>rw[ha] at hl;exact Lo h hl
theorem acT (S:aO P w I β hp B M w0) {t e:TypeId} {nb:Nat} {kl kc:IntKind} {n m:Int} {r:R} {rd:List Nat} (hu:P.underlying t=some (.slice e))
  (h:(Rd.aI (mY P e&&(decide (0≤n)&&(decide (n≤m)&&Nat.ble (m.toNat*P.bytesOf e) b8)))
    (Rd.aI (Ba (fw P e)) (jW nb (.nest e (List.replicate n.toNat (cT P e (fw P e))) [0,0,0]) (.whole e nb) []))).run C hp=some (r,rd)):
  dz P ((Instr.makeSlice t (.int kl n) (.int kc m)).run P w) w I β hp B M w0 r:=by
 obtain ⟨hc,h⟩:=aP h
 simp only[aU,dN,dX] at hc
 obtain ⟨cP,h0,ph,fp⟩:=hc
 have ax:dt P e=true:=by
  unfold mY at cP;simp only[aU] at cP;exact cP.1
 obtain ⟨hnr,h⟩:=aP h
 obtain ⟨hn,rfl⟩:=oH h
 obtain ⟨i,z,hi,hz,h3,h4,_⟩:=BF (w:=w) (I:=I) cP
 have nk:P.bytesOf e=i.bytes:=by simp[Program.bytesOf,hi]
 have Ln:m≤9223372036854775807:=by
  have h1:m.toNat*1≤m.toNat*P.bytesOf e:=uF _ (xE ax)
  simp only[b8] at fp
  omega
 have dx:=run_make (P:=P) w t e i z hu hi hz kl kc n m h0 ph (by
  rw[nk] at fp
  simp only[b8] at fp
  have:(i.bytes:Int)*m=((m.toNat*i.bytes:Nat):Int):=by
   rw[Int.natCast_mul,Int.toNat_of_nonneg (by omega),Int.mul_comm]
  rw[this]
  omega) Ln
 have hlen:(List.replicate n.toNat (cT P e (fw P e))).length=n.toNat:=by simp
 obtain ⟨n1,n2,n3⟩:=acO S (cap:=m.toNat) (es:=List.replicate n.toNat (cT P e (fw P e))) (C0:=madeCells z.cells (m.toNat*i.size)) ax hn (by rw[size_madeCells,h3]) (by rw[hlen];omega) (by simp only[maxLen];omega)
  (by rw[h3];exact GS cP hi hz n.toNat m.toNat (by omega))
  (acS ax hnr)
 refine ⟨_,_,_,_,dx,n1,n2,?_⟩
 rw[hlen] at n3
 exact n3
theorem Pure.one {t:TypeId} {v:Value} {x:V} (h:Pure P w I t v x):v.oneCell'=true:=by cases h<;>rfl
structure Row (P:Program) (w:World) (I:Nat→Prop) (e:TypeId) (v:Value) (xs:List V) (a:Addr) (c:Nat) (news:List Value):Prop where
 val:v= .slice (some a) xs.length c
 len:news.length=xs.length*P.cellsOf e
 cell: ∀(j:Nat) u,news[j]? =some u→w.cell? (a.add j)=some u
 el: ∀(i j:Nat) (x:V) (t':TypeId),xs[i]? =some x→(bp P e)[j]? =some t'→j<P.cellsOf e→∃u,news[i*P.cellsOf e+j]? =some u∧Pure P w I t' u (cb P e x j)
theorem Row.one {e:TypeId} {v:Value} {xs:List V} {a:Addr} {c:Nat} {news:List Value} (h:Row P w I e v xs a c news) (ax:dt P e=true): ∀u∈news,u.oneCell'=true:=by
 intro u hu
 obtain ⟨k,hk⟩:=s8 hu
 have ku:=(bH.1 hk).1
 have mq:=(ld ax).2
 rw[h.len] at ku
 have hi:k/P.cellsOf e<xs.length:=Nat.div_lt_of_lt_mul (by rw[kS];exact ku)
 have hj:k %P.cellsOf e<P.cellsOf e:=Nat.mod_lt _ mq
 have gY:k %P.cellsOf e<(bp P e).length:=by rw[gD ax];exact hj
 obtain ⟨u',fW,hp⟩:=h.el (k/P.cellsOf e) (k %P.cellsOf e) _ _ (bZ hi) (bZ gY) hj
 rw[Nat.div_add_mod'] at fW
 rw[hk] at fW
 cases fW
 exact hp.one
theorem Tg {e:TypeId} {es:List V} {b:Nat} {Ca:Array Value} {off len cap o:Nat} (hh:w.heap[b]? =some (.cells Ca e (0,0))) (hs:es.length*P.cellsOf e≤Ca.size)
  (hx: ∀(i j:Nat) (x:V) (t':TypeId),es[i]? =some x→(bp P e)[j]? =some t'→j<P.cellsOf e→∃v,Ca[i*P.cellsOf e+j]? =some v∧Pure P w I t' v (cb P e x j))
  (kp:off+len≤es.length) (ho:0<len→o=off*P.cellsOf e):
  Row P w I e (.slice (some ⟨b,o,none⟩) len cap) ((es.drop off).take len) ⟨b,o,none⟩ cap ((Ca.toList.drop (off*P.cellsOf e)).take (len*P.cellsOf e)):=by
 have hlen:((es.drop off).take len).length=len:=by simp;omega
 have hb:(off+len)*P.cellsOf e≤Ca.size:=lA (eh _ kp) hs
 rw[dY] at hb
 refine ⟨by rw[hlen],by rw[hlen];simp;omega,fun j u hj=> ?_,fun i j x t' iF ht hj=> ?_⟩
 ·have cp:=(bH.1 hj).1
  have Lp:j<len*P.cellsOf e:=by
   rw[dV] at cp;omega
  have nc:0<len:=by
   rcases Nat.eq_zero_or_pos len with h|h
   ·rw[h] at Lp;simp at Lp
   ·exact h
  rw[fU Lp,ja] at hj
  rw[oE,cell?_cells hh,ho nc]
  simpa using hj
 ·have hi:i<len:=by rw[←hlen];exact (bH.1 iF).1
  rw[fU hi,ja] at iF
  obtain ⟨u,hu,hp⟩:=hx (off+i) j x t' iF ht hj
  refine ⟨u,?_,hp⟩
  have:i*P.cellsOf e+j<len*P.cellsOf e:=by
   have:(i+1)*P.cellsOf e≤len*P.cellsOf e:=eh _ hi
   rw[dY] at this
   omega
  rw[fU this,ja]
  rw[dY] at hu
  rw[←pg]
  simpa using hu
theorem GU (c8: ∀id blk,hp id=some blk→eO P w I β hp (β id) blk) {e:TypeId} {v:Value} {x:V} {k:List V→Rd R} {r:R} {rd:List Nat} (ax:dt P e=true) (hv:au P w I β hp v x)
  (h:(tq e x k).run C hp=some (r,rd)): ∃xs,(((∃a,v= .slice a 0 0)∧xs=[])∨∃a c news,Row P w I e v xs a c news)∧∃l,(k xs).run C hp=some (r,l):=by
 cases hv with
 | list hp'=>
  obtain ⟨hc,h2⟩:=aP h
  clear h
  rw[bj] at hc
  subst hc
  cases hp' with
  | nil=>exact ⟨[],.inl ⟨⟨_,rfl⟩,rfl⟩,rd,h2⟩
  | @emp a cap=>exact ⟨[],.inr ⟨a,cap,[],⟨rfl,by simp,fun j u hj=>by simp at hj,fun i j x t' hx _ _=>by simp at hx⟩⟩,rd,h2⟩
  | @list b o len cap es g hl cF hI ib hx=>
   refine ⟨_,.inr ⟨⟨b,o,none⟩,cap,(List.range (len*P.cellsOf e)).map fun k=>g (k/P.cellsOf e) (k %P.cellsOf e),⟨by rw[hl],by rw[hl];simp,fun j u hj=> ?_,fun i j x t' iF ht hj=> ?_⟩⟩,rd,h2⟩
   ·obtain ⟨cp,jl⟩:=bH.1 hj
    simp at cp jl
    have mq:=(ld ax).2
    have hi:j/P.cellsOf e<len:=Nat.div_lt_of_lt_mul (by rw[kS];exact cp)
    have ig:j %P.cellsOf e<P.cellsOf e:=Nat.mod_lt _ mq
    rw[oE,←jl]
    have:=ib (j/P.cellsOf e) (j %P.cellsOf e) hi ig
    rwa [Nat.div_add_mod'] at this
   ·have hi:i<len:=by rw[←hl];exact (bH.1 iF).1
    have hb:i*P.cellsOf e+j<len*P.cellsOf e:=by
     have:(i+1)*P.cellsOf e≤len*P.cellsOf e:=eh _ hi
     rw[dY] at this
     omega
    refine ⟨g i j,?_,hx i j x t' iF ht⟩
    have e1:(i*P.cellsOf e+j)/P.cellsOf e=i:=by
     rw[kS,Nat.mul_add_div (ld ax).2,Nat.div_eq_of_lt hj,Nat.add_zero]
    have e2:(i*P.cellsOf e+j) %P.cellsOf e=j:=by
     rw[kS,Nat.mul_add_mod];exact Nat.mod_eq_of_lt hj
    simp[hb,e1,e2]
 | nilS=>
  obtain ⟨hc,h⟩:=aP h
  exact ⟨[],.inl ⟨⟨_,rfl⟩,rfl⟩,rd,h⟩
 | ep ai hb=>
  obtain ⟨l,h⟩:=run_get h
  simp only[ai] at h
  obtain ⟨hc,h⟩:=aP h
  exact ⟨[],.inl ⟨⟨_,rfl⟩,rfl⟩,l,h⟩
 | @whole e' id es fz b cap ai hb bh cF hm=>
  obtain ⟨l,h⟩:=run_get h
  simp only[ai] at h
  obtain ⟨hc,h2⟩:=aP h
  clear h
  simp only[aU,bj] at hc
  obtain ⟨rfl,_⟩:=hc
  have hr:=c8 _ _ ai
  cases hr with
  | er aE=>rw[aE] at hb;cases hb
  | arr K3 aE hh hs hf e6 hx=>
   rw[hb] at aE;cases aE
   have:=Tg (cap:=cap) (off:=0) (len:=es.length) (o:=0) hh hs hx (by omega) (fun _=>by simp)
   exact ⟨es,.inr ⟨_,_,_,by simpa using this⟩,l,h2⟩
 | gX ai hb=>
  obtain ⟨l,h⟩:=run_get h
  simp only[ai] at h
  obtain ⟨hc,h⟩:=aP h
  exact ⟨[],.inl ⟨⟨_,rfl⟩,rfl⟩,l,by simpa using h⟩
 | @sub e' id off len es fz b o cap ai hb kp cF ho=>
  obtain ⟨l,h⟩:=run_get h
  simp only[ai] at h
  obtain ⟨hc,h2⟩:=aP h
  clear h
  simp only[aU,bj] at hc
  obtain ⟨rfl,_⟩:=hc
  have hr:=c8 _ _ ai
  cases hr with
  | er aE=>rw[aE] at hb;cases hb
  | arr K3 aE hh hs hf e6 hx=>
   rw[hb] at aE;cases aE
   exact ⟨_,.inr ⟨_,_,_,Tg (cap:=cap) hh hs hx kp ho⟩,l,h2⟩
 | eZ ai=>
  obtain ⟨l,h⟩:=run_get h
  simp only[ai] at h
  cases h
 | ia ai=>
  obtain ⟨l,h⟩:=run_get h
  simp only[ai] at h
  cases h
 | undef=>cases h
 | int=>cases h
 | bool=>cases h
 | str=>cases h
 | agg=>cases h
 | bC=>cases h
 | eb=>cases h
 | fn=>cases h
 | pref=>cases h
 | la=>cases h
 | ptr=>cases h
 | kj=>cases h
 | km=>cases h
 | row=>cases h
 | c6=>cases h
 | ei=>cases h
 | jk=>cases h
 | c7=>cases h
 | fj ai=>
  obtain ⟨l,h⟩:=run_get h
  simp only[ai] at h
  cases h
theorem Th {t ty e:TypeId} {i:TypeInfo} (ht:P.underlying t=some (.slice e)) (hi:P.info? e=some i) (a:Option Addr) (n cap:Nat) (x:Value) (hx: ∃a c,x= .slice a 0 c) (hn:n≤cap):
  (Builtin.append_ #[t,t] ty #[.slice a n cap,x]).run P w= .ok (.slice a n cap) w:=by
 obtain ⟨a',c,rfl⟩:=hx
 cases a' with
 | none=>cases a<;>simp[Builtin.append_,run_underlying ht,sizeOf,typeInfo,hi,Builtin.lenOf,Builtin.firstCells,hn,storeCells]
 | some a'=>cases a<;>simp[Builtin.append_,run_underlying ht,sizeOf,typeInfo,hi,Builtin.lenOf,Builtin.firstCells,hn,storeCells,loadCells,loadCellsFrom]
theorem GV {e:TypeId} {es xs:List V} {n:Nat} {c:List Value} {news:List Value} (hn:es.length=n)
  (h1: ∀(i j:Nat) (x:V) (t':TypeId),es[i]? =some x→(bp P e)[j]? =some t'→j<P.cellsOf e→∃v,c[i*P.cellsOf e+j]? =some v∧Pure P w I t' v (cb P e x j))
  (h2: ∀(i j:Nat) (x:V) (t':TypeId),xs[i]? =some x→(bp P e)[j]? =some t'→j<P.cellsOf e→∃v,news[i*P.cellsOf e+j]? =some v∧Pure P w I t' v (cb P e x j))
  (hb:n*P.cellsOf e≤c.length) (rest:List Value):
  ∀(i j:Nat) (x:V) (t':TypeId),(es++xs)[i]? =some x→(bp P e)[j]? =some t'→j<P.cellsOf e→∃v,(c.take (n*P.cellsOf e)++news++rest)[i*P.cellsOf e+j]? =some v∧Pure P w I t' v (cb P e x j):=by
 intro i j x t' hx ht hj
 have hl:(c.take (n*P.cellsOf e)).length=n*P.cellsOf e:=by simp;omega
 by_cases hi:i<n
 ·rw[kT (by omega)] at hx
  obtain ⟨v,hv,hp⟩:=h1 i j x t' hx ht hj
  have:i*P.cellsOf e+j<n*P.cellsOf e:=by
   have:(i+1)*P.cellsOf e≤n*P.cellsOf e:=eh _ hi
   rw[dY] at this
   omega
  exact ⟨v,by rw[dj,kT (by omega),fU this];exact hv,hp⟩
 ·rw[kh (by omega),hn] at hx
  obtain ⟨v,hv,hp⟩:=h2 (i-n) j x t' hx ht hj
  have eE:i-n<xs.length:=(bH.1 hx).1
  have e1:i*P.cellsOf e+j-n*P.cellsOf e=(i-n)*P.cellsOf e+j:=by
   rw[Nat.sub_mul]
   have:n*P.cellsOf e≤i*P.cellsOf e:=eh _ (by omega)
   omega
  have h3:(i-n)*P.cellsOf e+j<news.length:=(bH.1 hv).1
  refine ⟨v,?_,hp⟩
  have h4:n*P.cellsOf e≤i*P.cellsOf e+j:=by
   have:n*P.cellsOf e≤i*P.cellsOf e:=eh _ (by omega)
   omega
  rw[dj,kh (by omega),hl,e1,kT h3]
  exact hv
theorem Pure.drew {t:TypeId} {v:Value} {x:V} (h:Pure P w I t v x):Pure P w.drew I t v x:=Pure.mono (w:=w) (w':=w.drew) (fun _ h=>h) (fun _ _=>rfl) h
theorem acU (w:World) (t ty e:TypeId) (i:TypeInfo) (z:Value) (ht:P.underlying t=some (.slice e)) (hi:P.info? e=some i) (hz:i.zero=some z)
  (a0:Option Addr) (a:Addr) (n c:Nat) (news:List Value) (hl:news.length=n*i.size) (GW: ∀j v,news[j]? =some v→w.cell? (a.add j)=some v)
  (h0:0<n) (GX:(n:Int)≤9223372036854775807) (GY:n*i.bytes≤281474976710656):
  (Builtin.append_ #[t,t] ty #[.slice a0 0 0,.slice (some a) n c]).run P w=
   .ok (.slice (some ⟨w.heap.size,0,none⟩) n (grownCap w n 0 e)) (w.drew.alloc (.cells (news.toArray++Builtin.zeroCells z.cells (grownCap w n 0 e-n)) e)):=by
 cases a0 with
 | none=>exact run_append_nil w t ty e i z ht hi hz a n c news hl GW h0 GX GY
 | some b=>
  have:=run_append_grow (P:=P) w t ty e i z ht hi hz b 0 0 [] (by simp) (by simp) a n c news hl GW (by omega) (by omega) (by rw[hO,nextslicecap_zero h0];omega)
  simpa using this
theorem Lq (S:aO P w I β hp B M w0) {t ty e:TypeId} {nb:Nat} {x:Value} {xs:List V} (hu:P.underlying t=some (.slice e)) (ax:dt P e=true) (hn:hp nb=none)
  (fp:xs.length*P.bytesOf e≤b8) {a0:Option Addr} (hx:((∃a,x= .slice a 0 0)∧xs=[])∨∃a c news,Row P w I e x xs a c news):
  ∃v w' β',(Builtin.append_ #[t,t] ty #[.slice a0 0 0,x]).run P w= .ok v w'∧Le P w I β hp w' I β' (aV hp nb (some (.arr e xs false)))∧aO P w' I β' (aV hp nb (some (.arr e xs false))) B M w0∧
   au P w' I β' (aV hp nb (some (.arr e xs false))) v (.whole e nb):=by
 obtain ⟨i,z,hi,hz,h3,h4,_⟩:=lh ax
 have vi:=xE ax
 have nk:P.bytesOf e=i.bytes:=by simp[Program.bytesOf,hi]
 have hlen:xs.length≤2^45:=by
  have:xs.length*1≤xs.length*P.bytesOf e:=uF _ vi
  simp only[b8] at fp
  omega
 have empty:xs=[]→(∃a c,x= .slice a 0 c)→∃v w' β',(Builtin.append_ #[t,t] ty #[.slice a0 0 0,x]).run P w= .ok v w'∧Le P w I β hp w' I β' (aV hp nb (some (.arr e xs false)))∧aO P w' I β' (aV hp nb (some (.arr e xs false))) B M w0∧
   au P w' I β' (aV hp nb (some (.arr e xs false))) v (.whole e nb):=by
  intro gn Lr
  subst gn
  obtain ⟨a1,a2⟩:=Gv S e hn
  exact ⟨_,_,_,Th hu hi a0 0 0 x Lr (bN _),a1,a2,.ep (dw _ _ _) (dw _ _ _)⟩
 rcases hx with ⟨⟨_,rfl⟩,rfl⟩|⟨a,c,news,hr⟩
 ·exact empty rfl ⟨_,_,rfl⟩
 ·by_cases h0:xs.length=0
  ·have gn:xs=[]:=mg h0
   refine empty gn ⟨some a,c,?_⟩
   rw[hr.val,h0]
  ·have dx:=acU (P:=P) w t ty e i z hu hi hz a0 a xs.length c news (by rw[hr.len,h3]) hr.cell (by omega) (by omega) (by rw[←nk];simp only[b8] at fp;omega)
   have qJ:=grownCap_ge w xs.length 0 e
   have vj:grownCap w xs.length 0 e≤maxLen:=grownCap_le_maxLen w xs.length 0 e (by simp only[maxLen];omega)
   obtain ⟨n1,n2,n3⟩:=xX S.drew (nb:=nb) (cap:=grownCap w xs.length 0 e) (es:=xs) (C0:=news.toArray++Builtin.zeroCells z.cells (grownCap w xs.length 0 e-xs.length)) ax hn
    (by simp only[FJ,rE,size_zeroCells,h4,hr.len,←dY];congr 1;omega) qJ vj
    (fun i' j y t' hy ht hj=>by
     obtain ⟨u,fW,hp⟩:=hr.el i' j y t' hy ht hj
     have aR:=(bH.1 fW).1
     refine ⟨u,?_,Pure.drew hp⟩
     rw[Array.getElem?_append_left (by simpa using aR)]
     simpa using fW)
   rw[hr.val]
   exact ⟨_,_,_,dx,(Le.drew w I β hp).trans n1,n2,n3⟩
theorem acV (S:aO P w I β hp B M w0) {t ty e:TypeId} {nb:Nat} {s x:Value} {sv xv:V} {r:R} {rd:List Nat} (hu:P.underlying t=some (.slice e)) (hs:au P w I β hp s sv) (hx:au P w I β hp x xv)
  (h:(xr P nb e sv xv).run C hp=some (r,rd)):dz P ((Builtin.append_ #[t,t] ty #[s,x]).run P w) w I β hp B M w0 r:=by
 unfold xr at h
 obtain ⟨ax,h⟩:=aP h
 obtain ⟨xs,mC,l0,h⟩:=GU S.h.rel ax hx h
 cases sv with
 | nilS e'=>
  obtain ⟨hc,h⟩:=aP h
  simp only[aU,bj,dN] at hc
  obtain ⟨hn,rfl⟩:=oH h
  obtain ⟨a0,rfl⟩: ∃a0,s= .slice a0 0 0:=by cases hs;exact ⟨_,rfl⟩
  obtain ⟨v,w',β',a1,a2,a3,a4⟩:=Lq (ty:=ty) S hu ax hn hc.2 mC
  exact ⟨v,w',I,β',a1,a2,a3,a4⟩
 | whole e' id=>
  obtain ⟨l,h⟩:=run_get h
  cases ai:hp id with
  | none=>rw[ai] at h;cases h
  | some blk=>
   rw[ai] at h
   cases blk with
   | dead=>cases h
   | var _=>cases h
   | nest _ _ _=>cases h
   | map _ _=>cases h
   | arr en es fz=>
    cases fz with
    | true=>cases h
    | false=>
     obtain ⟨hc,h⟩:=aP h
     obtain ⟨hn,rfl⟩:=oH h
     simp only[aU,bj,dN] at hc
     obtain ⟨Ls,Lt,fp⟩:=hc
     subst Ls
     subst Lt
     have bX:nb≠id:=fun e=>by rw[e,ai] at hn;cases hn
     obtain ⟨k1,k2⟩:=Gw S ai
     have lj:aV hp id (some ao.dead) nb=none:=by rw[e7 _ _ bX];exact hn
     cases hs with
     | eZ hd=>rw[ai] at hd;cases hd
     | fj hd=>rw[ai] at hd;cases hd
     | ep hd hb=>
      rw[ai] at hd
      cases hd
      simp only[List.length_nil,hO] at fp
      have acW:((∃a,x= .slice a 0 0)∧xs=[])∨∃a c news,Row P w I e x xs a c news:=mC
      obtain ⟨v,w',β',a1,a2,a3,a4⟩:=Lq (ty:=ty) k2 hu ax lj fp acW
      exact ⟨v,w',I,β',a1,k1.trans a2,a3,a4⟩
     | @whole _ _ aW ox b cap hd hb bh cF hm=>
      rw[ai] at hd
      cases hd
      have hr:=S.h.rel id _ ai
      cases hr with
      | er aE=>rw[aE] at hb;cases hb
      | @arr _ _ _ b' Ca _ aE hh qL hf e6 nn=>
       rw[hb] at aE
       cases aE
       obtain ⟨i,z,hi,hz,h3,h4,_⟩:=lh ax
       have vi:=xE ax
       have nk:P.bytesOf e=i.bytes:=by simp[Program.bytesOf,hi]
       have hlen:es.length+xs.length≤2^45:=by
        have:(es.length+xs.length)*1≤(es.length+xs.length)*P.bytesOf e:=uF _ vi
        simp only[b8] at fp
        omega
       rw[oB hh] at bh
       have rU: ∀aJ blk',aV hp id (some ao.dead) aJ=some blk'→¬bL P w (β aJ) blk' b:=by
        intro aJ blk' h1 h2
        by_cases jC:aJ=id
        ·subst jC;rw[dw] at h1;cases h1;exact h2.alive rfl
        ·rw[e7 _ _ jC] at h1
         exact jC (S.h.inj aJ id blk' _ b h1 ai h2 (.root (by simp) hb))
       have Lu:=S.h.tA id _ b ai (by simp) hb
       have room: ∀(C':Array Value) (w':World) (ys:List V),w'.heap[b]? =some (.cells C' e (0,0))→C'.size=Ca.size→(∀b',b'≠b→w'.heap[b']? =w.heap[b']?)→w.heap.size≤w'.heap.size→(w'.os=w.os∧w'.output=w.output)→ys.length≤cap→
         (∀(i j:Nat) (y:V) (t':TypeId),ys[i]? =some y→(bp P e)[j]? =some t'→j<P.cellsOf e→∃v,C'[i*P.cellsOf e+j]? =some v∧Pure P w I t' v (cb P e y j))→
         Le P w I β hp w' I (aV β nb (some b)) (aV (aV hp id (some .dead)) nb (some (.arr e ys false)))∧aO P w' I (aV β nb (some b)) (aV (aV hp id (some .dead)) nb (some (.arr e ys false))) B M w0∧
         au P w' I (aV β nb (some b)) (aV (aV hp id (some .dead)) nb (some (.arr e ys false))) (.slice (some ⟨b,0,none⟩) ys.length cap) (.whole e nb):=by
        intro C' w' ys hC pF hw' hwz acX vd hy
        obtain ⟨a1,a2⟩:=Br k2 (blk:= .arr e ys false) (w':=w') lj rU (e6 rfl) (fun b' h _=>hw' b' h) hwz acX Lu
         (fun b' h=>(dB (h.flat (by simp))).symm) (fun hle=> .arr ax rfl hC (by rw[pF,←bh];exact eh _ vd) (fun h=>by cases h) (fun _=>e6 rfl) fun i j y t' a b c=>by
          obtain ⟨v,hv,hp⟩:=hy i j y t' a b c
          exact ⟨v,hv,hp.mono hle.dO hle.cJ⟩)
        refine ⟨k1.trans a1,a2,.whole (dw _ _ _) (dw _ _ _) ?_ vd hm⟩
        rw[oB hC,pF,bh]
       have same:xs=[]→(∃a c,x= .slice a 0 c)→dz P ((Builtin.append_ #[t,t] ty #[.slice (some ⟨b,0,none⟩) es.length cap,x]).run P w) w I β hp B M w0 ⟨.whole e nb,[(nb,.arr e (es++xs) false),(id,.dead)]⟩:=by
        intro gn Lr
        subst gn
        rw[dc]
        obtain ⟨a1,a2,a3⟩:=room Ca w es hh rfl (fun _ _=>rfl) (bN _) ⟨rfl,rfl⟩ cF nn
        exact ⟨_,_,_,_,Th hu hi _ _ _ x Lr cF,a1,a2,a3⟩
       rcases mC with ⟨⟨_,rfl⟩,rfl⟩|⟨a,c,news,c9⟩
       ·exact same rfl ⟨_,_,rfl⟩
       ·have h1:=c9.one ax
        have mB:es.length*P.cellsOf e≤Ca.toList.length:=by simpa using qL
        by_cases tJ:es.length+xs.length≤cap
        ·have BG:es.length*P.cellsOf e+news.length≤Ca.size:=by rw[c9.len,←dY,←bh];exact eh _ tJ
         have dx:=run_append_room (P:=P) w t ty e i hu hi b es.length cap Ca hh a xs.length c news (by rw[c9.len,h3]) c9.cell h1 tJ (by rw[h3];exact BG)
         rw[h3] at dx
         have cP:=GV (P:=P) (w:=w) (I:=I) (n:=es.length) (c:=Ca.toList) rfl (fun i j y t' a b c=>by
          obtain ⟨v,hv,hp⟩:=nn i j y t' a b c
          exact ⟨v,by simpa using hv,hp⟩) c9.el mB (Ca.toList.drop (es.length*P.cellsOf e+news.length))
         obtain ⟨a1,a2,a3⟩:=room (Ca.toList.take (es.length*P.cellsOf e)++news++Ca.toList.drop (es.length*P.cellsOf e+news.length)).toArray (w.setRow b _) (es++xs)
          (setRow_heap w b Ca _ e _ hh) (by simp;omega) (fun b' aE=>setRow_other w b b' _ aE) (by simp) ⟨rfl,rfl⟩ (by simpa using tJ)
          (fun i j y t' a b c=>by
           obtain ⟨v,hv,hp⟩:=cP i j y t' a b c
           exact ⟨v,by simpa using hv,hp⟩)
         rw[c9.val]
         rw[bO] at a3
         exact ⟨_,_,_,_,dx,a1,a2,a3⟩
        ·have hold: ∀(j:Nat) v,(Ca.toList.take (es.length*P.cellsOf e))[j]? =some v→w.cell? ((⟨b,0,none⟩:Addr).add j)=some v:=by
          intro j v hj
          have cp:=(bH.1 hj).1
          have ig:j<es.length*P.cellsOf e:=by rw[dV] at cp;omega
          rw[fU ig] at hj
          rw[oE,cell?_cells hh,hO]
          simpa using hj
         have dx:=run_append_grow (P:=P) w t ty e i z hu hi hz ⟨b,0,none⟩ es.length cap (Ca.toList.take (es.length*P.cellsOf e)) (by rw[h3];simp;omega) hold a xs.length c news (by rw[c9.len,h3]) c9.cell (by omega) (by omega)
          (growslice_fits (by omega) (by rw[←nk];simp only[b8] at fp;omega))
         have qJ:=grownCap_ge w (es.length+xs.length) cap e
         have vj:grownCap w (es.length+xs.length) cap e≤maxLen:=grownCap_le_maxLen w _ cap e (by simp only[maxLen];omega)
         have cP:=GV (P:=P) (w:=w) (I:=I) (n:=es.length) (c:=Ca.toList) rfl (fun i j y t' a b c=>by
          obtain ⟨v,hv,hp⟩:=nn i j y t' a b c
          exact ⟨v,by simpa using hv,hp⟩) c9.el mB (Builtin.zeroCells z.cells (grownCap w (es.length+xs.length) cap e-(es.length+xs.length))).toList
         obtain ⟨n1,n2,n3⟩:=xX k2.drew (nb:=nb) (cap:=grownCap w (es.length+xs.length) cap e) (es:=es++xs)
          (C0:=(Ca.toList.take (es.length*P.cellsOf e)).toArray++news.toArray++Builtin.zeroCells z.cells (grownCap w (es.length+xs.length) cap e-(es.length+xs.length))) ax lj
          (by
           have e1:(Ca.toList.take (es.length*P.cellsOf e)).length=es.length*P.cellsOf e:=by simp;omega
           simp only[FJ,rE,size_zeroCells,h4,c9.len,e1,←dY];congr 1;omega) (by simpa using qJ) vj
          (fun i j y t' a b c=>by
           obtain ⟨v,hv,hp⟩:=cP i j y t' a b c
           refine ⟨v,?_,Pure.drew hp⟩
           rw[←s9]
           simpa using hv)
         rw[c9.val]
         rw[bO] at n3
         exact ⟨_,_,_,_,dx,(k1.trans (Le.drew w I β _)).trans n1,n2,n3⟩
 | _=>cases h
end
section
variable {P:Program} {w w':World} {I I':Nat→Prop} {β β':Nat→Option Nat} {hp hp':Nat→Option ao} {C:af} {B:Nat} {M:Nat→Prop} {w0:Start}
theorem run_copy_none (w:World) {dT sT ty elem:TypeId} {i:TypeInfo} (a0:Option Addr) (Ti acY:Nat) (a1:Option Addr) (Tj acZ:Nat) (hu:P.underlying dT=some (.slice elem)) (hi:P.info? elem=some i) (h0:Nat.min Tj Ti=0):
  (Builtin.copy_ #[dT,sT] ty #[.slice a0 Ti acY,.slice a1 Tj acZ]).run P w= .ok (goInt 0) w:=by
 cases a0<;>cases a1<;>simp[Builtin.copy_,run_underlying hu,Builtin.lenOf,Builtin.firstCells,sizeOf,typeInfo,hi,h0,storeCells,loadCells,loadCellsFrom]
theorem ac0 (S:aO P w I β hp B M w0) {t u ty e:TypeId} {s x:Value} {sv xv:V} {r:R} {rd:List Nat} (hu:P.underlying t=some (.slice e)) (hs:au P w I β hp s sv) (hx:au P w I β hp x xv)
  (h:(Kz P e sv xv).run C hp=some (r,rd)):dz P ((Builtin.copy_ #[t,u] ty #[s,x]).run P w) w I β hp B M w0 r:=by
 unfold Kz at h
 obtain ⟨ax,h'⟩:=aP h
 clear h
 simp only[aU,bj] at ax
 obtain ⟨ax,h1⟩:=ax
 obtain ⟨xs,mC,l0,h⟩:=GU S.h.rel ax hx h'
 obtain ⟨i,z,hi,hz,bh,_⟩:=lh ax
 cases sv<;>simp only at h<;>first|(cases h;done)|skip
 rename_i e' id
 obtain ⟨l,h2⟩:=run_get h
 clear h
 cases ai:hp id with
 | none=>rw[ai] at h2;cases h2
 | some blk=>
  rw[ai] at h2
  cases blk<;>simp only at h2<;>first|(cases h2;done)|skip
  rename_i e2 es fz
  cases fz with
  | true=>cases h2
  | false=>
  obtain ⟨hc,h3⟩:=aP h2
  simp only[aU,bj] at hc
  obtain ⟨rfl,rfl⟩:=hc
  obtain rfl:=aY h3
  have oI:min xs.length es.length=0→(Builtin.copy_ #[t,u] ty #[s,x]).run P w= .ok (goInt 0) w→dz P ((Builtin.copy_ #[t,u] ty #[s,x]).run P w) w I β hp B M w0 ⟨.int .i64 (min xs.length es.length:Nat),[(id,.arr e (xs.take es.length++es.drop xs.length) false)]⟩:=by
   intro h0 hr
   have he:xs.take es.length++es.drop xs.length=es:=by
    rcases Nat.le_total xs.length es.length with hl|hl
    ·have:xs=[]:=mg (by omega)
     simp[this]
    ·have:es=[]:=mg (by omega)
     simp[this]
   have ic:b9 hp [(id,.arr e (xs.take es.length++es.drop xs.length) false)]=hp:=by
    rw[he];exact KK hp id _ ai
   refine ⟨goInt 0,w,I,β,hr,?_⟩
   simp only[ic,h0]
   exact ⟨Le.refl w I β hp,S,.int⟩
  cases hs with
  | eZ hd=>rw[ai] at hd;cases hd
  | fj hd=>rw[ai] at hd;cases hd
  | @ep _ _ fz a hd hb=>
   rw[ai] at hd
   cases hd
   refine oI (by simp) ?_
   rcases mC with ⟨⟨a',rfl⟩,rfl⟩|⟨a',c,news,c9⟩
   ·exact run_copy_none w _ _ _ _ _ _ hu hi (by simp)
   ·rw[c9.val];exact run_copy_none w _ _ _ _ _ _ hu hi (by simp)
  | @whole _ _ aW ox b cap hd hb BH cF hm=>
   have fy:=hd
   rw[ai] at hd
   cases hd
   rcases mC with ⟨⟨a',rfl⟩,rfl⟩|⟨a',c,news,c9⟩
   ·exact oI (by simp) (run_copy_none w _ _ _ _ _ _ hu hi (by simp))
   have hr:=S.h.rel id _ ai
   cases hr with
   | er aE=>rw[aE] at hb;cases hb
   | @arr _ _ _ b' Ca _ aE hh qL hf e6 nn=>
    rw[hb] at aE
    cases aE
    have ni:news.length=xs.length:=by rw[c9.len,h1,om]
    rw[h1,om] at qL
    have mD:(news.take es.length).length=Nat.min xs.length es.length:=by
     rw[dV,ni,Nat.min_comm]
    have Tk:Nat.min xs.length es.length=min xs.length es.length:=rfl
    have dx:=run_copy_row (P:=P) w t u ty e b 0 es.length cap a' xs.length c Ca e (news.take es.length) hu (by rw[hi];simp[bh,h1]) hh mD
     (fun j v hj=>c9.cell j v (by
      have:=(bH.1 hj).1
      rw[dV] at this
      rwa [fU (by omega)] at hj)) (by rw[mD,Tk];omega) (fun v hv=>c9.one ax v (List.mem_of_mem_take hv))
    rw[c9.val]
    have hq:(goInt (news.take es.length).length)= .int .i64 ((min xs.length es.length:Nat):Int):=by rw[mD];rfl
    have j4:(xs.take es.length++es.drop xs.length).length=es.length:=by simp;omega
    have pF:(Ca.toList.take 0++news.take es.length++Ca.toList.drop (0+(news.take es.length).length)).toArray.size=Ca.size:=by
     simp only[rE,bO,jT,dV,mD,Tk]
     simp
     omega
    obtain ⟨a1,a2⟩:=GH S (blk':= .arr e (xs.take es.length++es.drop xs.length) false) (Cb:=(Ca.toList.take 0++news.take es.length++Ca.toList.drop (0+(news.take es.length).length)).toArray) ai (by simp) ⟨rfl,j4.symm⟩ hb (e6 rfl) (by simp) hh pF
     (fun hle fJ=> .arr ax rfl fJ (by rw[pF,j4,h1,om];exact qL) (fun h=>by cases h) (fun _=>e6 rfl) fun i j y t' hy ht hj=>by
      rw[h1] at hj⊢
      obtain rfl:j=0:=by omega
      rw[om,Nat.add_zero]
      have oJ:=(bH.1 hy).1
      rw[j4] at oJ
      by_cases cf:i<xs.length
      ·rw[kT (by rw[dV];omega),fU oJ] at hy
       obtain ⟨u',k1,k2⟩:=c9.el i 0 y t' hy ht (by omega)
       rw[h1,om,Nat.add_zero] at k1
       refine ⟨u',?_,k2.mono hle.dO hle.cJ⟩
       simp only[List.take_zero,List.nil_append,oh]
       rw[kT (by rw[dV];omega),fU oJ]
       exact k1
      ·have e1:(xs.take es.length).length=xs.length:=by rw[dV];omega
       rw[kh (by omega),e1,ja,show xs.length+(i-xs.length)=i by omega] at hy
       obtain ⟨u',k1,k2⟩:=nn i 0 y t' hy ht (by omega)
       rw[h1,om,Nat.add_zero] at k1
       refine ⟨u',?_,k2.mono hle.dO hle.cJ⟩
       simp only[List.take_zero,List.nil_append,oh,hO]
       have e2:(news.take es.length).length=xs.length:=by rw[dV];omega
       rw[kh (by omega),e2,ja,show xs.length+(i-xs.length)=i by omega]
       simpa using k1)
    exact ⟨_,_,_,_,dx,a1,a2,by rw[hq];exact .int⟩
theorem ac1 (S:aO P w I β hp B M w0) {t ty e:TypeId} {x:Value} {xv:V} {r:R} {rd:List Nat} (hu:P.underlying t=some (.slice e)) (hx:au P w I β hp x xv)
  (h:(Ky P e xv).run C hp=some (r,rd)):dz P ((Builtin.clear_ #[t] ty #[x]).run P w) w I β hp B M w0 r:=by
 unfold Ky at h
 obtain ⟨cP,h'⟩:=aP h
 clear h
 have ax:dt P e=true:=by
  unfold mY at cP;simp only[aU] at cP;exact cP.1
 obtain ⟨i,z,hi,hz,bh,BI,hzp⟩:=BF (w:=w) (I:=I) cP
 have mq:=(ld ax).2
 cases xv<;>simp only at h'<;>first|(cases h';done)|skip
 rename_i e' id off len
 obtain ⟨l,h2⟩:=run_get h'
 clear h'
 cases ai:hp id with
 | none=>rw[ai] at h2;cases h2
 | some blk=>
  rw[ai] at h2
  cases blk<;>simp only at h2<;>first|(cases h2;done)|skip
  rename_i e2 es fz
  cases fz with
  | true=>cases h2
  | false=>
  obtain ⟨hc,h3⟩:=aP h2
  simp only[aU,bj] at hc
  obtain ⟨rfl,rfl⟩:=hc
  obtain rfl:=aY h3
  have oI:len=0→(Builtin.clear_ #[t] ty #[x]).run P w= .ok (.tuple #[]) w→dz P ((Builtin.clear_ #[t] ty #[x]).run P w) w I β hp B M w0 ⟨.bC [],[(id,.arr e (es.take off++(List.replicate len (cT P e (fw P e))++es.drop (off+len))) false)]⟩:=by
   intro h0 hr
   subst h0
   have ic:b9 hp [(id,.arr e (es.take off++(List.replicate 0 (cT P e (fw P e))++es.drop (off+0))) false)]=hp:=by
    simp only[List.replicate_zero,List.nil_append,Nat.add_zero,FK]
    exact KK hp id _ ai
   refine ⟨.tuple #[],w,I,β,hr,?_⟩
   simp only[ic]
   exact ⟨Le.refl w I β hp,S,.bC rfl fun j v x hj hx=>by simp at hx⟩
  cases hx with
  | ia hd=>rw[ai] at hd;cases hd
  | @gX _ _ _ a0 hd hb=>exact oI rfl (by cases a0<;>simp[Builtin.clear_,run_underlying hu])
  | @sub _ _ _ _ aW ox b o cap hd hb kp cF ho=>
   by_cases hlen:len=0
   ·refine oI hlen ?_
    subst hlen
    simp[Builtin.clear_,run_underlying hu]
   have ac2:0<len:=by omega
   have fy:=hd
   rw[ai] at hd
   cases hd
   have hr:=S.h.rel id _ ai
   cases hr with
   | er aE=>rw[aE] at hb;cases hb
   | @arr _ _ _ b' Ca _ aE hh qL hf e6 nn=>
    rw[hb] at aE
    cases aE
    have ho:=ho ac2
    subst ho
    have vg:(Builtin.zeroCells z.cells len).toList.length=len*P.cellsOf e:=by rw[Array.length_toList,size_zeroCells,BI]
    have hmul:off*P.cellsOf e+len*P.cellsOf e≤es.length*P.cellsOf e:=by rw[←dY];exact eh _ kp
    have pD: ∀v∈(Builtin.zeroCells z.cells len).toList,v.oneCell'=true:=by
     intro v hv
     obtain ⟨k,hk⟩:=s8 hv
     have ku:=(bH.1 hk).1
     rw[vg] at ku
     have hzg:(Builtin.zeroCells z.cells len)[k]? =z.cells[k %z.cells.size]? :=Te (z:=z.cells) (n:=len*z.cells.size) (by rw[BI];exact ku) (by rw[BI];exact mq)
     rw[s9,hzg] at hk
     have hm:k %z.cells.size<P.cellsOf e:=by rw[BI];exact Nat.mod_lt _ mq
     have htl:k %z.cells.size<(bp P e).length:=by rw[gD ax];exact hm
     obtain ⟨v',xL,hp'⟩:=hzp (k %z.cells.size) _ (bZ htl) hm
     rw[hk] at xL
     cases xL
     generalize cb P e (cT P e (fw P e)) (k %z.cells.size)=y at hp'
     cases hp'<;>rfl
    have bB:=run_storeCells_at P b (off*P.cellsOf e) e (Builtin.zeroCells z.cells len).toList 0 Ca w hh (by rw[vg];omega) pD
    simp only[Nat.add_zero] at bB
    have dx:(Builtin.clear_ #[t] ty #[.slice (some ⟨b,off*P.cellsOf e,none⟩) len cap]).run P w= .ok (.tuple #[]) (w.setRow b (Ca.toList.take (off*P.cellsOf e)++(Builtin.zeroCells z.cells len).toList++Ca.toList.drop (off*P.cellsOf e+(Builtin.zeroCells z.cells len).toList.length)).toArray):=by
     obtain ⟨n,rfl⟩: ∃n,len=n+1:=⟨len-1,by omega⟩
     simp[Builtin.clear_,run_underlying hu,zeroValue,typeInfo,hi,hz,bB]
    have j4:(es.take off++(List.replicate len (cT P e (fw P e))++es.drop (off+len))).length=es.length:=by simp;omega
    have pF:(Ca.toList.take (off*P.cellsOf e)++(Builtin.zeroCells z.cells len).toList++Ca.toList.drop (off*P.cellsOf e+(Builtin.zeroCells z.cells len).toList.length)).toArray.size=Ca.size:=by
     simp only[rE,bO,jT,dV,vg,Array.length_toList]
     omega
    obtain ⟨a1,a2⟩:=GH S (blk':= .arr e (es.take off++(List.replicate len (cT P e (fw P e))++es.drop (off+len))) false) ai (by simp) ⟨rfl,j4.symm⟩ hb (e6 rfl) (by simp) hh pF
     (fun hle fJ=> .arr ax rfl fJ (by rw[pF,j4];exact qL) (fun h=>by cases h) (fun _=>e6 rfl) fun i' j y t' hy ht hj=>by
      have jD:=oF es (List.replicate len (cT P e (fw P e))) off i' (by simp;omega)
      rw[ta] at jD
      rw[jD] at hy
      have hC:(Ca.toList.take (off*P.cellsOf e)++(Builtin.zeroCells z.cells len).toList++Ca.toList.drop (off*P.cellsOf e+(Builtin.zeroCells z.cells len).toList.length)).toArray[i'*P.cellsOf e+j]? =
        if i'*P.cellsOf e+j<off*P.cellsOf e then Ca.toList[i'*P.cellsOf e+j]? else if i'*P.cellsOf e+j<off*P.cellsOf e+len*P.cellsOf e then (Builtin.zeroCells z.cells len).toList[i'*P.cellsOf e+j-off*P.cellsOf e]? else Ca.toList[i'*P.cellsOf e+j]? :=by
       have:=oF Ca.toList (Builtin.zeroCells z.cells len).toList (off*P.cellsOf e) (i'*P.cellsOf e+j) (by rw[vg,Array.length_toList];omega)
       rw[oh,dj,this,vg]
      by_cases Lv:i'<off
      ·rw[ag Lv] at hy
       have:(i'+1)*P.cellsOf e≤off*P.cellsOf e:=eh _ Lv
       rw[dY] at this
       rw[ag (by omega)] at hC
       obtain ⟨u,k1,k2⟩:=nn i' j y t' hy ht hj
       exact ⟨u,hC.trans (by simpa using k1),k2.mono hle.dO hle.cJ⟩
      ·rw[ah Lv] at hy
       have h1:off*P.cellsOf e≤i'*P.cellsOf e:=eh _ (by omega)
       rw[ah (by omega)] at hC
       by_cases eE:i'<off+len
       ·rw[ag eE] at hy
        have:(i'+1)*P.cellsOf e≤(off+len)*P.cellsOf e:=eh _ eE
        rw[dY,dY] at this
        rw[ag (by omega)] at hC
        obtain ⟨v,k1,k2⟩:=GS (w:=w) (I:=I) cP hi hz len len (bN _) (i'-off) j y t' hy ht hj
        refine ⟨v,hC.trans ?_,k2.mono hle.dO hle.cJ⟩
        rw[show i'*P.cellsOf e+j-off*P.cellsOf e=(i'-off)*P.cellsOf e+j by rw[Nat.sub_mul];omega,s9]
        unfold Builtin.zeroCells
        rw[BI] at k1⊢
        exact k1
       ·rw[ah eE] at hy
        have:(off+len)*P.cellsOf e≤i'*P.cellsOf e:=eh _ (by omega)
        rw[dY] at this
        rw[ah (by omega)] at hC
        obtain ⟨u,k1,k2⟩:=nn i' j y t' hy ht hj
        exact ⟨u,hC.trans (by simpa using k1),k2.mono hle.dO hle.cJ⟩)
    exact ⟨_,_,_,_,dx,a1,a2,.bC rfl fun j v x hj hx=>by simp at hx⟩
end
section
variable {P:Program} {w w':World} {I I':Nat→Prop} {β β':Nat→Option Nat} {hp hp':Nat→Option ao} {C:af} {B:Nat} {M:Nat→Prop} {w0:Start}
theorem ac3 (S:aO P w I β hp B M w0) {s:TypeId} {f:Nat} {v:Value} {x:V} {r:R} {rd:List Nat} (hv:au P w I β hp v x)
  (h:(KD P s f x).run C hp=some (r,rd)):dz P ((Instr.field s v f).run P w) w I β hp B M w0 r:=by
 unfold KD F3 at h
 split at h
 ·rename_i fs hu
  cases hf:fs[f]? with
  | none=>rw[hf] at h;cases h
  | some fd=>
   rw[hf] at h
   simp only[xt] at h
   obtain ⟨ht,h⟩:=aP h
   obtain ⟨d,vk⟩:=Bw ht
   obtain ⟨i,hi⟩:=xJ vk
   have bh:i.size=P.cellsOf fd.type:=by simp[Program.cellsOf,hi]
   cases x with
   | agg xs=>
    obtain ⟨cs,rfl,h1,h2⟩:=hv.lL
    dsimp only at h
    cases ha:b7 P fd.type with
    | true=>
     rw[ha] at h
     simp only[cond_true] at h
     obtain ⟨hc,h⟩:=aP h
     obtain rfl:=aY h
     rw[dN] at hc
     refine .same S (v:= .agg (cs.extract fd.offset (fd.offset+P.cellsOf fd.type))) ?_ (.agg (by simp;omega) fun j u y fW hy=> ?_)
     ·simp[Instr.field,run_underlying hu,hf,part,K1 vk,ha,asAgg,sizeOf,typeInfo,hi,bh]
     ·have hj:j<P.cellsOf fd.type:=by
       have:=(jb.1 fW).1
       simp at this;omega
      rw[fU hj,ja] at hy
      refine h2 (fd.offset+j) u y ?_ hy
      rw[Array.getElem?_extract] at fW
      split at fW
      ·exact fW
      ·cases fW
    | false=>
     rw[ha] at h
     simp only[cond_false] at h
     obtain ⟨y,hy,h⟩:=mr h
     obtain rfl:=aY h
     have aR:fd.offset<cs.size:=by rw[h1];exact (bH.1 hy).1
     refine .same S (v:=cs[fd.offset]) ?_ (h2 _ _ _ (lD aR) hy)
     simp[Instr.field,run_underlying hu,hf,part,K1 vk,ha,asAgg,aR]
   | _=>cases h
 ·cases h
theorem ac4 (S:aO P w I β hp B M w0) {i:Nat} {v:Value} {xs:List V} {r:R} {rd:List Nat} (hv:au P w I β hp v (.bC xs))
  (h:(Rd.opt xs[i]? fun v=> .ret ⟨v,[]⟩).run C hp=some (r,rd)):dz P ((Instr.extract v i).run P w) w I β hp B M w0 r:=by
 obtain ⟨cs,rfl,h1,h2⟩:=hv.u6
 obtain ⟨y,hy,h⟩:=mr h
 obtain rfl:=aY h
 have aR:i<cs.size:=by rw[h1];exact (bH.1 hy).1
 exact .same S (v:=cs[i]) (by simp[Instr.extract,aR]) (h2 _ _ _ (lD aR) hy)
theorem ac5 (S:aO P w I β hp B M w0) {t:TypeId} {s:ByteArray} {l:List UInt8} {k:IntKind} {i:Int} {r:R} {rd:List Nat} (hu:P.underlying t=some .string) (hs:s.data.toList=l)
  (h:(Rd.opt (bif decide (0≤i) then (l[i.toNat]?).map fun b=>V.int .u8 b.toNat else none) fun v=> .ret ⟨.int .u8 v.toInt,[]⟩).run C hp=some (r,rd)):
  dz P ((Instr.index t (.string s) (.int k i)).run P w) w I β hp B M w0 r:=by
 obtain ⟨v,hv,h⟩:=mr h
 obtain rfl:=aY h
 cases hc:decide (0≤i) with
 | false=>rw[hc] at hv;cases hv
 | true=>
  rw[hc] at hv
  simp only[cond_true] at hv
  have h0:0≤i:=by simpa using hc
  cases hb:l[i.toNat]? with
  | none=>rw[hb] at hv;cases hv
  | some b=>
   rw[hb] at hv
   simp only[Option.map_some,eN] at hv
   subst hv
   have hsb:s[i.toNat]? =some b:=by
    subst hs
    obtain ⟨aR,he⟩:=bH.1 hb
    have Lw:i.toNat<s.size:=by simpa using aR
    rw[getElem?_pos s i.toNat Lw]
    congr 1
   refine .same S (v:= .int .u8 b.toNat) ?_ .int
   simp[Instr.index,asIntOf,run_underlying hu,h0,hsb]
theorem Lx (S:aO P w I β hp B M w0) (mx:Bool): ∀{vs:List Value} {xs:List V} {v:Value} {x:V} {r:R} {rd:List Nat},au P w I β hp v x→vs.length=xs.length→
  (∀(j:Nat) u y,vs[j]? =some u→xs[j]? =some y→au P w I β hp u y)→(xu mx x xs).run C hp=some (r,rd)→
  dz P ((vs.foldlM (if mx then Builtin.max2 else Builtin.min2) v).run P w) w I β hp B M w0 r
 | [],[],v,x,r,rd,hv,_,_,h=>by
  have:r=⟨x,[]⟩:=by
   cases x<;>(simp only[xu] at h;exact (aY h).symm)
  subst this
  exact .same S (by simp) hv
 | [],_::_,v,x,r,rd,hv,hl,_,h=>by simp at hl
 | _::_,[],v,x,r,rd,hv,hl,_,h=>by simp at hl
 | u::vs,y::xs,v,x,r,rd,hv,hl,hx,h=>by
  cases x<;>cases y<;>simp only[xu] at h<;>first|(cases h;done)|skip
  rename_i k a k' b
  obtain ⟨hc,h4⟩:=aP h
  clear h
  obtain rfl:k=k':=by simpa using hc
  have hu:=hx 0 u _ rfl rfl
  rw[hv.eD,hu.eD]
  have ih:=Lx S mx (vs:=vs) (xs:=xs) (v:= .int k (bif mx then (if b>a then b else a) else (if b<a then b else a))) .int (by simpa using hl)
   (fun j u y h1 h2=>hx (j+1) u y (by simpa using h1) (by simpa using h2)) h4
  cases mx with
  | true=>simpa[List.foldlM_cons,Builtin.max2] using ih
  | false=>simpa[List.foldlM_cons,Builtin.min2] using ih
theorem sd {n cap:Nat} {isS:Bool} {lo hi:Option V} {lov hiv:Option Value} {k:Nat→Nat→Rd R} {r:R} {rd:List Nat} (hn:n≤cap)
  (iH: ∀x,lo=some x→∃v,lov=some v∧au P w I β hp v x) (gZ: ∀x,hi=some x→∃v,hiv=some v∧au P w I β hp v x) (oK:lo=none→lov=none) (pG:hi=none→hiv=none)
  (h:(tt n lo hi k).run C hp=some (r,rd)): ∃l u,l≤u∧u≤n∧(Instr.sliceBounds isS n cap lov hiv none).run P w= .ok (l,u,cap) w∧(k l u).run C hp=some (r,rd):=by
 have ok: ∀(kk:IntKind) (i:Int) (y:Nat) (c:BoundsCode),0≤i→i≤y→(Instr.sliceBound (.int kk i) y c).run P w= .ok i.toNat w:=by
  intro kk i y c h1 h2
  simp[Instr.sliceBound,asIntOf,h1,h2]
 unfold tt at h
 cases lo with
 | none=>
  rw[oK rfl]
  cases hi with
  | none=>
   rw[pG rfl]
   exact ⟨0,n,jS _,bN _,by simp[Instr.sliceBounds],h⟩
  | some x=>
   obtain ⟨v,rfl,hv⟩:=gZ x rfl
   cases x<;>simp only at h<;>first|(cases h;done)|skip
   rename_i kk u
   obtain ⟨hc,h⟩:=aP h
   simp only[aU,dX] at hc
   rw[hv.eD]
   have:=ok kk u cap (if isS then .sliceAcap else .sliceAlen) hc.1 (by omega)
   exact ⟨0,u.toNat,jS _,by omega,by simp[Instr.sliceBounds,this],h⟩
 | some x=>
  obtain ⟨v,rfl,hv⟩:=iH x rfl
  cases hi with
  | none=>
   rw[pG rfl]
   cases x<;>simp only at h<;>first|(cases h;done)|skip
   rename_i kk l
   obtain ⟨hc,h⟩:=aP h
   simp only[aU,dX] at hc
   rw[hv.eD]
   have:=ok kk l n .sliceB hc.1 (by omega)
   exact ⟨l.toNat,n,by omega,bN _,by simp[Instr.sliceBounds,this],h⟩
  | some y=>
   obtain ⟨v2,rfl,rT⟩:=gZ y rfl
   cases x<;>cases y<;>simp only at h<;>first|(cases h;done)|skip
   rename_i kk l kk2 u
   obtain ⟨hc,h⟩:=aP h
   simp only[aU,dX] at hc
   rw[hv.eD,rT.eD]
   have h1:=ok kk2 u cap (if isS then .sliceAcap else .sliceAlen) (by omega) (by omega)
   have h2:=ok kk l u.toNat .sliceB hc.1 (by omega)
   exact ⟨l.toNat,u.toNat,by omega,by omega,by simp[Instr.sliceBounds,h1,h2],h⟩
theorem GZ {a:Option Addr} {t e:TypeId} {i:TypeInfo} (hu:P.underlying t=some (.slice e)) (hi:P.info? e=some i) {lov hiv:Option Value}
  (hb:(Instr.sliceBounds true 0 0 lov hiv none).run P w= .ok (0,0,0) w):(Instr.sliceAt t (.slice a 0 0) lov hiv none).run P w= .ok (.slice a 0 0) w:=by
 cases a<;>simp[Instr.sliceAt,Instr.slice,run_underlying hu,hb,sizeOf,typeInfo,hi]
theorem Ly {t e:TypeId} {i:TypeInfo} {b o len cap l u:Nat} (hu:P.underlying t=some (.slice e)) (hi:P.info? e=some i) {lov hiv:Option Value} (huc:u≤cap)
  (hb:(Instr.sliceBounds true len cap lov hiv none).run P w= .ok (l,u,cap) w): ∃o',(0<u-l→o'=o+l*i.size)∧(Instr.sliceAt t (.slice (some ⟨b,o,none⟩) len cap) lov hiv none).run P w= .ok (.slice (some ⟨b,o',none⟩) (u-l) (cap-l)) w:=by
 by_cases hc:cap=l
 ·subst hc
  refine ⟨o,fun h=>by omega,?_⟩
  ·simp[Instr.sliceAt,Instr.slice,run_underlying hu,hb,sizeOf,typeInfo,hi]
 ·refine ⟨o+l*i.size,fun _=>rfl,?_⟩
  simp[Instr.sliceAt,Instr.slice,run_underlying hu,hb,sizeOf,typeInfo,hi,hc,oE]
theorem ac6 (s:ByteArray) (l:List UInt8) (h:s.data.toList=l) (a b:Nat):(s.extract a b).data.toList=(l.drop a).take (b-a):=by
 subst h
 simp[ByteArray.data_extract]
theorem ac7 (S:aO P w I β hp B M w0) {t:TypeId} {v:Value} {x:V} {lo hi:Option V} {lov hiv:Option Value} {r:R} {rd:List Nat} (hv:au P w I β hp v x)
  (iH: ∀x,lo=some x→∃v,lov=some v∧au P w I β hp v x) (gZ: ∀x,hi=some x→∃v,hiv=some v∧au P w I β hp v x) (oK:lo=none→lov=none) (pG:hi=none→hiv=none)
  (h:(F9 P t x lo hi).run C hp=some (r,rd)):dz P ((Instr.sliceAt t v lov hiv none).run P w) w I β hp B M w0 r:=by
 unfold F9 at h
 cases hu:P.underlying t with
 | none=>rw[hu] at h;cases h
 | some d=>
  rw[hu] at h
  cases d<;>simp only at h<;>first|(cases h;done)|skip
  case string=>
   cases x<;>simp only at h<;>first|(cases h;done)|skip
   rename_i l
   obtain ⟨s,rfl,hs⟩:=hv.ng
   have bh:l.length=s.size:=by rw[←hs];simp
   obtain ⟨a,u,h1,h2,h3,h4⟩:=sd (isS:=false) (cap:=s.size) (by omega) iH gZ oK pG h
   obtain rfl:=aY h4
   rw[bh] at h3
   refine .same S (v:= .string (s.extract a u)) ?_ (.str (ac6 s l hs a u))
   simp[Instr.sliceAt,Instr.slice,run_underlying hu,h3]
  case slice e=>
   cases x<;>simp only at h<;>first|(cases h;done)|skip
   case list e' es=>
    obtain ⟨hc,h⟩:=aP h
    simp only[aU,bj] at hc
    obtain ⟨et,ax⟩:=hc
    obtain ⟨i,z,dQ,_,bh,_⟩:=lh ax
    cases hv with
    | list hp'=>
     cases hp' with
     | nil=>
      obtain ⟨a,u,h1,h2,h3,h4⟩:=sd (n:=0) (isS:=true) (cap:=0) (bN _) iH gZ oK pG h
      obtain rfl:=aY h4
      obtain rfl:u=0:=by omega
      obtain rfl:a=0:=by omega
      exact .same S (GZ hu dQ h3) (by simpa using au.list jv.nil)
     | @emp ad cap=>
      obtain ⟨a,u,h1,h2,h3,h4⟩:=sd (n:=0) (isS:=true) (cap:=cap) (jS _) iH gZ oK pG h
      obtain rfl:=aY h4
      obtain rfl:u=0:=by omega
      obtain rfl:a=0:=by omega
      refine .same S (v:= .slice (some ad) 0 cap) ?_ (by simpa using au.list jv.emp)
      by_cases hc:cap=0
      ·subst hc
       simp[Instr.sliceAt,Instr.slice,run_underlying hu,h3,sizeOf,typeInfo,dQ]
      ·simp[Instr.sliceAt,Instr.slice,run_underlying hu,h3,sizeOf,typeInfo,dQ,hc,Addr.add]
     | @list b o len cap _ g hl cF hI ib hx=>
      obtain ⟨a,u,h1,h2,h3,h4⟩:=sd (isS:=true) (cap:=cap) (by omega) iH gZ oK pG h
      obtain rfl:=aY h4
      rw[hl] at h2 h3
      obtain ⟨o',nd,dx⟩:=Ly (b:=b) (o:=o) hu dQ (by omega) h3
      have iI:e=e':=et
      refine .same S dx (.list ?_)
      rw[←iI]
      rw[←iI] at ib hx hI
      have hlen:((es.drop a).take (u-a)).length=u-a:=by simp;omega
      refine .list (fun i j=>g (a+i) j) hlen (by omega) (fun h=>hI (rD h (eh _ (by omega)))) (fun i j hi hj=> ?_) (fun i j y t' hy ht=> ?_)
      ·have:=ib (a+i) j (by omega) hj
       rw[dY,pg,←pg o] at this
       rw[nd (by omega),bh]
       exact this
      ·have hi:i<u-a:=by rw[←hlen];exact (bH.1 hy).1
       rw[fU hi,ja] at hy
       exact hx (a+i) j y t' hy ht
   case whole e' id=>
    obtain ⟨l,h⟩:=run_get h
    cases ai:hp id with
    | none=>rw[ai] at h;cases h
    | some blk=>
     rw[ai] at h
     cases blk<;>simp only at h<;>first|(cases h;done)|skip
     rename_i en es fz
     obtain ⟨hc,h9⟩:=aP h
     clear h
     simp only[aU,bj] at hc
     obtain ⟨et,jw,ax⟩:=hc
     obtain ⟨i,z,dQ,_,bh,_⟩:=lh ax
     cases hv with
     | eZ hd=>rw[ai] at hd;cases hd
     | fj hd=>rw[ai] at hd;cases hd
     | ep hd hb=>
      rw[ai] at hd
      cases hd
      obtain ⟨a,u,h1,h2,h3,h4⟩:=sd (n:=0) (isS:=true) (cap:=0) (bN _) iH gZ oK pG h9
      obtain rfl:=aY h4
      obtain rfl:u=0:=by omega
      obtain rfl:a=0:=by omega
      exact .same S (GZ hu dQ h3) (.gX ai hb)
     | @whole _ _ aW ox b cap hd hb BH cF hm=>
      have fy:=hd
      rw[ai] at hd
      cases hd
      obtain ⟨a,u,h1,h2,h3,h4⟩:=sd (isS:=true) (cap:=cap) cF iH gZ oK pG h9
      obtain rfl:=aY h4
      obtain ⟨o',nd,dx⟩:=Ly (b:=b) (o:=0) hu dQ (by omega) h3
      have iI:e=e':=et
      exact .same S dx (.sub fy hb (by omega) (by omega) (fun h=>by rw[nd h,bh,iI,hO]))
   case sub e' id off len=>
    obtain ⟨l,h⟩:=run_get h
    cases ai:hp id with
    | none=>rw[ai] at h;cases h
    | some blk=>
     rw[ai] at h
     cases blk<;>simp only at h<;>first|(cases h;done)|skip
     rename_i en es fz
     obtain ⟨hc,h⟩:=aP h
     simp only[aU,bj] at hc
     obtain ⟨et,jw,ax⟩:=hc
     obtain ⟨i,z,dQ,_,bh,_⟩:=lh ax
     cases hv with
     | ia hd=>rw[ai] at hd;cases hd
     | gX hd hb=>
      have fy:=hd
      obtain ⟨a,u,h1,h2,h3,h4⟩:=sd (isS:=true) (cap:=0) (bN _) iH gZ oK pG h
      obtain rfl:=aY h4
      obtain rfl:u=0:=by omega
      obtain rfl:a=0:=by omega
      exact .same S (GZ hu dQ h3) (.gX fy hb)
     | @sub _ _ _ _ aW ox b o cap hd hb kp cF ho=>
      have fy:=hd
      obtain ⟨a,u,h1,h2,h3,h4⟩:=sd (isS:=true) (cap:=cap) cF iH gZ oK pG h
      obtain rfl:=aY h4
      obtain ⟨o',nd,dx⟩:=Ly (b:=b) (o:=o) hu dQ (by omega) h3
      have iI:e=e':=et
      exact .same S dx (.sub fy hb (by omega) (by omega) (fun h=>by rw[nd h,bh,ho (by omega),iI,dY]))
theorem ac8 (S:aO P w I β hp B M w0) {t:TypeId} {v:Value} {x:V} {lo hi mx:Option V} {lov hiv Tl:Option Value} {r:R} {rd:List Nat} (hv:au P w I β hp v x)
  (iH:lo=none→lov=none) (gZ: ∀y,hi=some y→∃u,hiv=some u∧au P w I β hp u y) (py: ∀y,mx=some y→∃u,Tl=some u∧au P w I β hp u y)
  (h:(KA P t x lo hi mx).run C hp=some (r,rd)):dz P ((Instr.sliceAt t v lov hiv Tl).run P w) w I β hp B M w0 r:=by
 unfold KA at h
 cases hu:P.underlying t with
 | none=>rw[hu] at h;cases h
 | some d=>
  rw[hu] at h
  cases d<;>(try (cases h;done))
  rename_i e
  cases lo<;>(try (cases h;done))
  cases hi<;>(try (cases h;done))
  rename_i xY
  cases xY<;>(try (cases h;done))
  cases mx<;>(try (cases h;done))
  rename_i mv1
  cases mv1<;>(try (cases h;done))
  obtain ⟨hc,h9⟩:=aP h
  clear h
  have h:=h9
  clear h9
  simp only[aU,dX] at hc
  obtain ⟨rfl,rfl,ax⟩:=hc
  obtain ⟨i,z,dQ,_,_,_⟩:=lh ax
  obtain ⟨u1,rfl,k1⟩:=gZ _ rfl
  obtain ⟨u2,rfl,k2⟩:=py _ rfl
  rw[k1.eD,k2.eD,iH rfl]
  have run: ∀{k k2:IntKind} (a:Option Addr) (len cap:Nat),(Instr.sliceAt t (.slice a len cap) none (some (.int k 0)) (some (.int k2 0))).run P w= .ok (.slice a 0 0) w:=by
   intro k k2 a len cap
   cases a<;>simp[Instr.sliceAt,Instr.slice,Instr.sliceBounds,Instr.sliceBound,asIntOf,run_underlying hu,sizeOf,typeInfo,dQ]
  cases x<;>(try (cases h;done))
  ·simp only at h
   obtain rfl:=aY h
   cases hv with
   | list hp'=>cases hp'<;>exact .same S (run _ _ _) .nilS
  ·simp only at h
   obtain rfl:=aY h
   cases hv
   exact .same S (run _ _ _) .nilS
  ·rename_i e' id
   simp only at h
   obtain ⟨l,h⟩:=run_get h
   cases ai:hp id with
   | none=>rw[ai] at h;cases h
   | some blk=>
    rw[ai] at h
    cases blk<;>simp only at h<;>first|(cases h;done)|skip
    all_goals
     obtain rfl:=aY h
     cases hv with
     | eZ hd=>rw[ai] at hd;cases hd
     | fj hd=>exact .same S (run _ _ _) .nilS
     | ep hd hb=>exact .same S (run _ _ _) .nilS
     | whole hd=>exact .same S (run _ _ _) .nilS
theorem ac9 (S:aO P w I β hp B M w0) {t:TypeId} {v ix:Value} {x y:V} {r:R} {rd:List Nat} (hv:au P w I β hp v x) (hy:au P w I β hp ix y)
  (h:(KE P t x y).run C hp=some (r,rd)):dz P ((Instr.indexAt t v ix).run P w) w I β hp B M w0 r:=by
 unfold KE at h
 cases hu:P.underlying t with
 | none=>rw[hu] at h;cases h
 | some d=>
  rw[hu] at h
  cases y<;>(try (cases d<;>cases h;done))
  rename_i k i
  rw[hy.eD]
  cases d<;>simp only at h<;>first|(cases h;done)|skip
  case slice e=>
   have run: ∀(b o len cap:Nat) (ie:TypeInfo),P.info? e=some ie→0≤i→i<(len:Int)→(Instr.indexAt t (.slice (some ⟨b,o,none⟩) len cap) (.int k i)).run P w= .ok (.pointer (some ⟨b,o+i.toNat*ie.size,none⟩)) w:=by
    intro b o len cap ie ik h0 h1
    simp[Instr.indexAt,asIntOf,run_underlying hu,h0,h1,sizeOf,typeInfo,ik,oE]
   cases x<;>simp only at h<;>first|(cases h;done)|skip
   case list e' es=>
    obtain ⟨hc,h⟩:=aP h
    simp only[aU,bj] at hc
    obtain ⟨et,ax⟩:=hc
    have iI:e=e':=et
    obtain ⟨ie,z,dQ,_,bh,_⟩:=lh ax
    obtain ⟨el,cP,h⟩:=mr h
    obtain rfl:=aY h
    unfold idx at cP
    cases h0:decide (0≤i) with
    | false=>rw[h0] at cP;cases cP
    | true=>
     rw[h0] at cP
     simp only[cond_true] at cP
     have h0':0≤i:=by simpa using h0
     have aR:i.toNat<es.length:=(bH.1 cP).1
     cases hv with
     | list hp'=>
      cases hp' with
      | nil=>simp at aR
      | emp=>simp at aR
      | @list b o len cap _ g hl cF hI ib hx=>
       rw[←iI] at ib hx hI
       refine .same S (run b o len cap ie dQ h0' (by omega)) ?_
       have bM:=xK (P:=P) e el
       have LA:=gD ax
       have Tm:(bif b7 P e then flat P e else [e])=bp P e:=rfl
       rw[Tm]
       refine .pref (by rw[bM]) (fun _=>hI ?_) (fun j t' y' ht Bs=> ?_)
       ·have:=Nat.mul_pos (show 0<len by omega) (ld ax).2
        exact this
       ·obtain ⟨t2,a1,a2⟩:=K2 Bs
        rw[ht] at a1;cases a1
        have hj:j<P.cellsOf e:=by rw[←LA];exact (bH.1 ht).1
        have iS:=hx i.toNat j el t' cP ht
        refine ⟨g i.toNat j,?_,?_⟩
        ·rw[bh,pg];exact ib i.toNat j (by omega) hj
        ·rw[a2,iS.tE];exact iS
   case whole e' id=>
    obtain ⟨l,h⟩:=run_get h
    cases ai:hp id with
    | none=>rw[ai] at h;cases h
    | some blk=>
     rw[ai] at h
     cases blk<;>simp only at h<;>first|(cases h;done)|skip
     rename_i en es fz
     obtain ⟨hc,h⟩:=aP h
     simp only[aU,bj] at hc
     obtain ⟨et,jw⟩:=hc
     obtain ⟨fA,h⟩:=aP h
     simp only[aU,dX] at fA
     obtain rfl:=aY h
     cases hv with
     | eZ hd=>rw[ai] at hd;cases hd
     | fj hd=>rw[ai] at hd;cases hd
     | ep hd hb=>rw[ai] at hd;cases hd;simp at fA;omega
     | @whole _ _ aW ox b cap hd hb BH cF hm=>
      have fy:=hd
      rw[ai] at hd
      cases hd
      have hr:=S.h.rel id _ ai
      cases hr with
      | er aE=>rw[aE] at hb;cases hb
      | arr ax aE hh hs hf e6 hx=>
       have iI:e=e':=et
       obtain ⟨ie,z,dQ,_,bh,_⟩:=lh ax
       rw[←iI] at dQ bh
       refine .same S (run b 0 _ cap ie dQ fA.1 fA.2) ?_
       have:=au.ptr (P:=P) (w:=w) (I:=I) (i:=i.toNat) (c:=0) fy (by simp) hb
       simp only[ao.sz] at this
       rw[hO,bh,iI]
       simpa using this
     rename_i en es av
     obtain ⟨hc,h⟩:=aP h
     simp only[aU,bj] at hc
     obtain ⟨et,jw⟩:=hc
     obtain ⟨fA,h⟩:=aP h
     simp only[aU,dX] at fA
     obtain rfl:=aY h
     cases hv with
     | eZ hd=>rw[ai] at hd;cases hd
     | ep hd hb=>rw[ai] at hd;cases hd
     | whole hd=>rw[ai] at hd;cases hd
     | @fj _ _ aW vers' b cap hd hb BH cF hm=>
      have fy:=hd
      rw[ai] at hd
      cases hd
      have ax:=(S.rows fy hb .here).ok
      have iI:e=e':=et
      obtain ⟨ie,z,dQ,_,bh,_⟩:=lh ax
      rw[←iI] at dQ bh
      refine .same S (run b 0 _ cap ie dQ fA.1 fA.2) ?_
      have:=au.ptr (P:=P) (w:=w) (I:=I) (i:=i.toNat) (c:=0) fy (by simp) hb
      simp only[ao.sz] at this
      rw[hO,bh,iI]
      simpa using this
   case row e' id ver path=>
    obtain ⟨e0,es,av,l,ai,h1,h2,h3,h⟩:=pw h
    obtain ⟨e2,v',k1,k2,h⟩:=xF h
    obtain ⟨hc,h⟩:=aP h
    simp only[aU,bj] at hc
    obtain ⟨et,jw⟩:=hc
    obtain ⟨fA,h⟩:=aP h
    simp only[aU,dX] at fA
    obtain rfl:=aY h
    cases hv with
    | kj hd hp'=>rw[ai] at hd;cases hd;exact absurd hp' (xG h1 h2 h3)
    | @row v _ e0 t1 _ ver b i1 c1 q es l1 av hd hb hq Lg ht ib=>
     have ada:=ib
     obtain ⟨b',e3,aW,Ca,T,f,x,m1,m2,m3,m4,m5,m6⟩:=ib
     have gm:=hd
     rw[ai] at gm
     cases gm
     obtain ⟨n1,n2⟩:=Gs m1 m3 m4 ht m5
     rw[n2] at k2
     cases k2
     simp only[V.toList] at fA
     have hR:=S.rows hd hb m1
     obtain ⟨C1,c2,c3,c4⟩:=hR.cells
     rw[m2] at c2
     cases c2
     have hj:c1<P.cellsOf e3:=by
      rw[←gD hR.ok];exact (bH.1 m4).1
     obtain ⟨v2,d1,d2⟩:=c4 _ _ _ _ m3 m4 hj
     rw[m6] at d1
     cases d1
     rw[m5] at d2
     cases d2 with
     | gW a _=>unfold gR at a;rw[ht] at a;cases a
     | emp _ _=>simp at fA;omega
     | @row _ _ b1 cap _ hl _ _ _=>
      have ax:=(S.rows hd hb (m1.snoc m2 m3 m4 ht m5 hl m6)).ok
      have iI:e=e':=et
      obtain ⟨ie,z,dQ,_,bh,_⟩:=lh ax
      rw[←iI] at dQ bh
      refine .same S (run b1 0 _ cap ie dQ fA.1 fA.2) ?_
      have:=au.c6 (P:=P) (I:=I) (i:=i.toNat) (c:=0) hd hb hq Lg ht hl ada
      rw[hO,bh,iI]
      simpa using this
   case sub e' id off len=>
    obtain ⟨l,h⟩:=run_get h
    cases ai:hp id with
    | none=>rw[ai] at h;cases h
    | some blk=>
     rw[ai] at h
     cases blk<;>simp only at h<;>first|(cases h;done)|skip
     rename_i en es fz
     obtain ⟨hc,h⟩:=aP h
     simp only[aU,bj] at hc
     obtain ⟨et,jw⟩:=hc
     obtain ⟨fA,h⟩:=aP h
     simp only[aU,dX] at fA
     obtain rfl:=aY h
     cases hv with
     | ia hd=>rw[ai] at hd;cases hd
     | gX hd hb=>simp at fA;omega
     | @sub _ _ _ _ aW ox b o cap hd hb kp cF ho=>
      have fy:=hd
      rw[ai] at hd
      cases hd
      have hr:=S.h.rel id _ ai
      cases hr with
      | er aE=>rw[aE] at hb;cases hb
      | arr ax aE hh hs hf e6 hx=>
       have iI:e=e':=et
       obtain ⟨ie,z,dQ,_,bh,_⟩:=lh ax
       rw[←iI] at dQ bh
       refine .same S (run b o _ cap ie dQ fA.1 fA.2) ?_
       have:=au.ptr (P:=P) (w:=w) (I:=I) (i:=off+i.toNat) (c:=0) fy (by simp) hb
       simp only[ao.sz] at this
       rw[ho (by omega),bh,iI,←dY]
       simpa using this
  case array n e=>
   have run: ∀(b o:Nat) (ie:TypeInfo),P.info? e=some ie→0≤i→i<(n:Int)→(Instr.indexAt t (.pointer (some ⟨b,o,none⟩)) (.int k i)).run P w= .ok (.pointer (some ⟨b,o+i.toNat*ie.size,none⟩)) w:=by
    intro b o ie ik h0 h1
    simp[Instr.indexAt,asIntOf,run_underlying hu,h0,h1,sizeOf,typeInfo,ik,oE,Instr.sureAddr]
   cases x<;>simp only at h<;>first|(cases h;done)|skip
   case ptr id j c=>
    obtain ⟨⟨blk,ai,hd⟩,l,h⟩:=xI h
    obtain ⟨fA,h⟩:=aP h
    simp only[aU,dX] at fA
    obtain rfl:=aY h
    obtain ⟨b,hb,rfl⟩:=hv.iU ai hd
    obtain ⟨d,vk⟩:=Bw fA.1
    obtain ⟨ie,ik⟩:=xJ vk
    have bh:ie.size=P.cellsOf e:=by simp[Program.cellsOf,ik]
    refine .same S (run b _ ie ik fA.2.1 fA.2.2) ?_
    rw[bh,pg]
    exact .ptr ai hd hb
   case pref ts cs=>
    obtain ⟨fA,h⟩:=aP h
    simp only[aU,dX] at fA
    obtain rfl:=aY h
    obtain ⟨b,o,rfl,h1,h2,h3⟩:=hv.GA
    obtain ⟨d,vk⟩:=Bw fA.1
    obtain ⟨ie,ik⟩:=xJ vk
    have bh:ie.size=P.cellsOf e:=by simp[Program.cellsOf,ik]
    refine .same S (run b _ ie ik fA.2.1 fA.2.2) ?_
    rw[bh]
    exact au.SD h1 h2 h3
end
end Go.AM
namespace Go.AM
open Go.Maps
section
variable {P:Program} {w w':World} {I I':Nat→Prop} {β β':Nat→Option Nat} {hp hp':Nat→Option ao} {C:af} {B:Nat} {M:Nat→Prop} {w0:Start}
theorem adb (S:aO P w I β hp B M w0) {nb:Nat} {t:TypeId} {v:Value} {x:V} {lo hi:Option V} {lov hiv:Option Value} {r:R} {rd:List Nat} (hv:au P w I β hp v x)
  (gZ: ∀x,hi=some x→∃v,hiv=some v∧au P w I β hp v x) (oK:lo=none→lov=none)
  (h:(Ga P nb t x lo hi).run C hp=some (r,rd)):dz P ((Instr.sliceAt t v lov hiv none).run P w) w I β hp B M w0 r:=by
 unfold Ga at h
 split at h
 case h_2=>cases h
 rename_i e e' id k hh hu
 obtain ⟨l,h1⟩:=run_get h
 cases ai:hp id with
 | none=>rw[ai] at h1;cases h1
 | some blk=>
  rw[ai] at h1
  cases blk<;>simp only at h1<;>first|(cases h1;done)|skip
  rename_i e2 es fz
  cases fz with
  | true=>cases h1
  | false=>
  obtain ⟨hc,h2⟩:=aP h1
  simp only[aU,bj,dX] at hc
  obtain ⟨rfl,rfl,ax,Tn,To⟩:=hc
  obtain ⟨hn,rfl⟩:=oH h2
  have iH:=oK rfl
  subst iH
  obtain ⟨LB,rfl,hhv⟩:=gZ _ rfl
  obtain rfl:=hhv.eD
  obtain ⟨i,z,dQ,_,bh,_⟩:=lh ax
  have bX:nb≠id:=fun e=>by rw[e,ai] at hn;cases hn
  obtain ⟨k1,k2⟩:=Gw S ai
  have lj:aV hp id (some ao.dead) nb=none:=by rw[e7 _ _ bX];exact hn
  have Tp: ∀cap,es.length≤cap→(Instr.sliceBounds true es.length cap none (some (.int k hh)) none).run P w= .ok (0,hh.toNat,cap) w:=by
   intro cap cF
   have hb:(tt es.length none (some (.int k hh)) fun l u=> .aI (decide (l=0∧u=hh.toNat)) (.ret (⟨.undef,[]⟩:R))).run C hp=some (⟨.undef,[]⟩,[]):=by
    simp[tt,Rd.run,Tn,To]
   obtain ⟨l,u,b1,b2,b3,b4⟩:=sd (P:=P) (w:=w) (I:=I) (β:=β) (hp:=hp) (n:=es.length) (isS:=true) (cap:=cap) (lov:=none) (hiv:=some (.int k hh)) cF (by simp) (fun x hx=>by cases hx;exact ⟨_,rfl,.int⟩) (fun _=>rfl) (by simp) hb
   obtain ⟨b5,_⟩:=aP b4
   simp only[dX] at b5
   obtain ⟨rfl,rfl⟩:=b5
   exact b3
  cases hv with
  | eZ hd=>rw[ai] at hd;cases hd
  | fj hd=>rw[ai] at hd;cases hd
  | @ep _ _ _ a0 hd hb=>
   rw[ai] at hd
   cases hd
   have K8:hh=0:=by simpa using Int.le_antisymm To Tn
   subst K8
   have aE:=Tp 0 (bN _)
   obtain ⟨a1,a2⟩:=Gv k2 e lj
   refine ⟨_,w,I,_,GZ hu dQ aE,k1.trans a1,a2,.ep (dw _ _ _) (dw _ _ _)⟩
  | @whole _ _ aW ox b cap hd hb BH cF hm=>
   have fy:=hd
   rw[ai] at hd
   cases hd
   have hr:=S.h.rel id _ ai
   cases hr with
   | er aE=>rw[aE] at hb;cases hb
   | @arr _ _ _ b' Ca _ aE G0 qL hf e6 nn=>
    rw[hb] at aE
    cases aE
    have j4:(es.take hh.toNat).length=hh.toNat:=by rw[dV];omega
    have dx:(Instr.sliceAt t (.slice (some ⟨b,0,none⟩) es.length cap) none (some (.int k hh)) none).run P w= .ok (.slice (some ⟨b,0,none⟩) hh.toNat cap) w:=by
     have aE:=Tp cap cF
     by_cases Tq:cap=0
     ·subst Tq
      simp[Instr.sliceAt,Instr.slice,run_underlying hu,aE,sizeOf,typeInfo,dQ]
     ·simp[Instr.sliceAt,Instr.slice,run_underlying hu,aE,sizeOf,typeInfo,dQ,Tq,oE]
    have rU: ∀aJ blk',aV hp id (some ao.dead) aJ=some blk'→¬bL P w (β aJ) blk' b:=by
     intro aJ blk' h1 h2
     by_cases jC:aJ=id
     ·subst jC;rw[dw] at h1;cases h1;exact h2.alive rfl
     ·rw[e7 _ _ jC] at h1
      exact jC (S.h.inj aJ id blk' _ b h1 ai h2 (.root (by simp) hb))
    obtain ⟨a1,a2⟩:=Br k2 (blk:= .arr e (es.take hh.toNat) false) (w':=w) lj rU (e6 rfl) (fun _ _ _=>rfl) (bN _) ⟨rfl,rfl⟩ (S.h.tA id _ b ai (by simp) hb)
     (fun b' h=>(dB (h.flat (by simp))).symm) (fun hle=> .arr ax rfl G0 (by rw[j4];exact lA (eh _ (by omega)) qL) (fun h=>by cases h) (fun _=>e6 rfl) fun i j y t' hy ht hj=>by
      have oJ:=(bH.1 hy).1
      rw[j4] at oJ
      rw[fU oJ] at hy
      obtain ⟨v,hv,hp⟩:=nn i j y t' hy ht hj
      exact ⟨v,hv,hp.mono hle.dO hle.cJ⟩)
    refine ⟨_,w,I,_,dx,k1.trans a1,a2,?_⟩
    have:=au.whole (P:=P) (w:=w) (I:=I) (β:=aV β nb (some b)) (hp:=aV (aV hp id (some .dead)) nb (some (.arr e (es.take hh.toNat) false))) (cap:=cap) (dw _ _ _) (dw _ _ _) BH (by rw[j4];omega) hm
    rw[j4] at this
    exact this
theorem se {t:TypeId} {x:V} (h:qw P t x=true):
  (∃q n,P.underlying t=some (.int q)∧x= .int q n∧Kv q n=true)∨(∃b,P.underlying t=some .bool∧x= .bool b)∨(∃s,P.underlying t=some .string∧x= .str s∧s.length≤maxLen):=by
 unfold qw at h
 split at h
 ·rename_i q q' n hu
  simp only[aU,dX] at h
  obtain ⟨rfl,h⟩:=h
  exact .inl ⟨_,_,hu,rfl,h⟩
 ·rename_i b hu
  exact .inr (.inl ⟨_,hu,rfl⟩)
 ·rename_i s hu
  exact .inr (.inr ⟨_,hu,rfl,by simpa using h⟩)
 ·cases h
theorem size_data (s:ByteArray):s.data.toList.length=s.size:=by simp
theorem ade {q:IntKind} {n:Int} (h:Kv q n=true):(Lit.int q n).wf=true:=h
theorem Tr {t:TypeId} {x:V} {v:Value} (h:qw P t x=true) (hv:jZ v x): ∃l,mapKey P t v=some l∧∀d,P.keyLits (d+1) t [v]=some [l]:=by
 rcases se h with ⟨q,n,hu,rfl,hn⟩|⟨b,hu,rfl⟩|⟨s,hu,rfl,hs⟩
 ·obtain rfl:v= .int q n:=hv
  have hw:=ade hn
  exact ⟨.int q n,by simp[mapKey,hu,hw],fun d=>by simp[Program.keyLits,hu,hw]⟩
 ·obtain rfl:v= .bool b:=hv
  exact ⟨.bool b,by simp[mapKey,hu],fun d=>by simp[Program.keyLits,hu]⟩
 ·obtain ⟨s',rfl,LC⟩:=hv
  have:s'.size≤maxLen:=by rw[←size_data,LC];exact hs
  exact ⟨.string s'.data.toList,by simp[mapKey,hu,this],fun d=>by simp[Program.keyLits,hu,this]⟩
theorem LD {t:TypeId}: ∀{xs:List V} {j:Nat} {x:V},rJ P t xs=true→xs[j]? =some x→qw P t x=true
 | [],j,x,_,h=>by simp at h
 | y::ys,0,x,h,hx=>by
  simp only[rJ,aU] at h
  simp at hx;subst hx;exact h.1
 | y::ys,j+1,x,h,hx=>by
  simp only[rJ,aU] at h
  exact LD (j:=j) h.2 (by simpa using hx)
theorem mapM_some {α β:Type} {f:α→Option β}: ∀{l:List α},(∀a∈l,∃b,f a=some b)→∃bs,l.mapM f=some bs
 | [],_=>⟨[],rfl⟩
 | a::l,h=>by
  obtain ⟨b,hb⟩:=h a (tc ..)
  obtain ⟨bs,iT⟩:=mapM_some (l:=l) fun x hx=>h x (lC _ hx)
  exact ⟨b::bs,by simp[List.mapM_cons,hb,iT]⟩
inductive LF (P:Program) (t:TypeId) (x:V):Prop
 | one:qw P t x=true→x.cells=[x]→LF P t x
 | arr {n:Nat} {e:TypeId} {xs:List V}:x= .agg xs→WideMaps.ArrKey P t e n→xs.length=n→0<P.types.size→rJ P e xs=true→LF P t x
theorem xZ {t:TypeId} {x:V} (h:ov P t x=true):LF P t x:=by
 unfold ov at h
 split at h
 ·rename_i n e xs hu
  simp only[aU,bj] at h
  rw[lB] at h
  exact .arr rfl ⟨hu,h.2.2.2.1,h.2.1,h.2.2.1⟩ h.1 h.2.2.2.2.1 h.2.2.2.2.2
 ·refine .one h ?_
  rcases se h with ⟨q,n,hu,rfl,hn⟩|⟨b,hu,rfl⟩|⟨s,hu,rfl,hs⟩<;>rfl
theorem rP.one {x:V} {v:Value} (h:rP v x) (hx:x.cells=[x]):jZ v x:=by
 cases x<;>first|exact h|skip
 simp only[V.cells] at hx
 rename_i cs
 have:=congrArg List.length hx
 cases cs with
 | nil=>simp at hx
 | cons c cs=>
  simp only[List.cons.injEq] at hx
  have:=congrArg SizeOf.sizeOf hx.1
  simp at this
  omega
theorem G1 {t:TypeId} {x:V} {v:Value} (h:ov P t x=true) (hv:rP v x): ∃l,Go.keyOf P t v=some l:=by
 cases xZ h with
 | one h1 hx=>
  obtain ⟨l,hl,_⟩:=Tr h1 (hv.one hx)
  refine ⟨l,?_⟩
  rcases se h1 with ⟨q,n,hu,_⟩|⟨b,hu,_⟩|⟨s,hu,_⟩<;>simp only[Go.keyOf,hu,hl]
 | @arr n e xs hx A hl hp0 hf=>
  subst hx
  obtain ⟨cs,rfl,hs,hc⟩:=hv
  obtain ⟨m,hm⟩: ∃m,P.types.size=m+1:=⟨P.types.size-1,by omega⟩
  have hkt:=A.keyType ⟨m,hm⟩
  have hlen:cs.toList.length=P.cellsOf t:=by rw[A.size];simp[hs,hl]
  have hfm:(Value.agg cs).formed P t=true:=by simp[Value.formed,A.hu,A.size,hs,hl]
  have hex: ∀i∈List.range n,∃y,P.keyLits (m+1) e (((Value.agg cs).cells.toList.drop (i*P.cellsOf e)).take (P.cellsOf e))=some y:=by
   intro i hi
   have hi:=List.mem_range.1 hi
   rw[A.one]
   have ij:i<cs.size:=by omega
   have cf:i<xs.length:=by omega
   obtain ⟨l,_,h2⟩:=Tr (LD hf (bZ cf)) (hc i cs[i] xs[i] (lD ij) (bZ cf))
   have e1:((Value.agg cs).cells.toList.drop (i*1)).take 1=[cs[i]]:=by
    show (cs.toList.drop (i*1)).take 1=_
    rw[om,List.drop_eq_getElem_cons (by simpa using ij)]
    simp
   rw[e1]
   exact ⟨_,h2 m⟩
  obtain ⟨bs,iT⟩:=mapM_some hex
  refine ⟨.string (keyBytes bs.flatten),?_⟩
  have adf:(Value.agg cs).cells.toList.length=P.cellsOf t:=hlen
  unfold Go.keyOf
  rw[A.hu]
  simp only[hkt,hfm,Bool.and_self,cy]
  unfold Program.keyLits
  rw[A.hu,hm]
  simp only[adf,cy,iT,Option.map_some]
theorem LG {t:TypeId} {x:V} (h:ov P t x=true):Keyed P t:=by
 cases xZ h with
 | one h1 hx=>
  rcases se h1 with ⟨q,n,hu,_⟩|⟨b,hu,_⟩|⟨s,hu,_⟩
  ·exact int_keyed hu
  ·exact bool_keyed hu
  ·exact string_keyed hu
 | arr hx A hl _ hf=>exact Keyed.of_law A.law
theorem Ts {t:TypeId} {x y:V} {v u:Value} (h1:qw P t x=true) (h2:qw P t y=true) (hv:jZ v x) (hu:jZ u y):AY x y=true↔v=u:=by
 rcases se h1 with ⟨q,n,np,rfl,_⟩|⟨b,np,rfl⟩|⟨s,np,rfl,_⟩<;>
 rcases se h2 with ⟨q',n',nq,rfl,_⟩|⟨b',nq,rfl⟩|⟨s',nq,rfl,_⟩<;>
  (rw[np] at nq;cases nq)
 ·obtain rfl:v= .int q n:=hv
  obtain rfl:u= .int q n':=hu
  simp[AY]
 ·obtain rfl:v= .bool b:=hv
  obtain rfl:u= .bool b':=hu
  simp[AY]
 ·obtain ⟨s1,rfl,e1⟩:=hv
  obtain ⟨s2,rfl,e2⟩:=hu
  simp only[AY,beq_iff_eq,Value.string.injEq,←e1,←e2]
  constructor
  ·intro h
   have:=Array.toList_inj.1 h
   cases s1;cases s2;simp_all
  ·rintro rfl;rfl
theorem Tt {t:TypeId}: ∀{xs ys:List V} {vs us:List Value},rJ P t xs=true→rJ P t ys=true→xs.length=ys.length→vs.length=xs.length→us.length=ys.length→
  (∀(j:Nat) v x,vs[j]? =some v→xs[j]? =some x→jZ v x)→(∀(j:Nat) v x,us[j]? =some v→ys[j]? =some x→jZ v x)→(xq xs ys=true↔vs=us)
 | [],[],vs,us,_,_,_,h1,h2,_,_=>by
  have e1:=mg (l:=vs) (by simpa using h1)
  have e2:=mg (l:=us) (by simpa using h2)
  simp[xq,e1,e2]
 | [],_::_,_,_,_,_,h,_,_,_,_=>by simp at h
 | _::_,[],_,_,_,_,h,_,_,_,_=>by simp at h
 | x::xs,y::ys,[],us,_,_,_,h,_,_,_=>by simp at h
 | x::xs,y::ys,v::vs,[],_,_,_,_,h,_,_=>by simp at h
 | x::xs,y::ys,v::vs,u::us,f1,f2,h,h1,h2,r1,r2=>by
  simp only[rJ,aU] at f1 f2
  have a:=Ts f1.1 f2.1 (r1 0 v x rfl rfl) (r2 0 u y rfl rfl)
  have b:=Tt (vs:=vs) (us:=us) f1.2 f2.2 (by simpa using h) (by simpa using h1) (by simpa using h2) (fun j v x hj hx=>r1 (j+1) v x (by simpa using hj) (by simpa using hx)) (fun j v x hj hx=>r2 (j+1) v x (by simpa using hj) (by simpa using hx))
  simp only[xq,aU,a,b,List.cons.injEq]
theorem LH {t:TypeId} {x y:V} {v u:Value} (h1:ov P t x=true) (h2:ov P t y=true) (hv:rP v x) (hu:rP u y):qv x y=true↔v=u:=by
 unfold qv
 cases xZ h1 with
 | one f1 c1=>
  cases xZ h2 with
  | one f2 c2=>
   rw[c1,c2]
   simp only[xq,Bool.and_true]
   exact Ts f1 f2 (hv.one c1) (hu.one c2)
  | arr hy A hl _ hf=>
   rcases se f1 with ⟨q,n,np,_⟩|⟨b,np,_⟩|⟨s,np,_⟩<;>(rw[A.hu] at np;cases np)
 | arr hx A hl _ hf=>
  cases xZ h2 with
  | one f2 c2=>
   rcases se f2 with ⟨q,n,np,_⟩|⟨b,np,_⟩|⟨s,np,_⟩<;>(rw[A.hu] at np;cases np)
  | arr hy A2 ot _ BJ=>
   have iI:=A.hu.symm.trans A2.hu
   cases iI
   subst hx
   subst hy
   obtain ⟨cs,rfl,s1,r1⟩:=hv
   obtain ⟨ds,rfl,s2,r2⟩:=hu
   have:=Tt (vs:=cs.toList) (us:=ds.toList) hf BJ (by omega) (by simpa using s1) (by simpa using s2) (fun j v x hj hx=>r1 j v x (by simpa using hj) hx) (fun j v x hj hx=>r2 j v x (by simpa using hj) hx)
   simp only[V.cells,this,Value.agg.injEq]
   exact Array.toList_inj
theorem Tu {k:V}: ∀{es:List V},(∀x∈es,qv k (x.comp 0)=false)→rH k es=false∧(∀z,rI k es z=z)∧∀v,m7 k v es=es++[.bC [k,v]]
 | [],_=>⟨rfl,fun _=>rfl,fun _=>rfl⟩
 | e::es,h=>by
  have h0:=h e (tc ..)
  obtain ⟨a,b,c⟩:=Tu (k:=k) (es:=es) fun x hx=>h x (lC _ hx)
  exact ⟨by simp[rH,h0,a],fun z=>by simp[rI,h0,b],fun v=>by simp[m7,h0,c]⟩
theorem Tv {k:V}: ∀{es:List V} {j:Nat} {k' y:V},es[j]? =some (.bC [k',y])→qv k k'=true→(∀i x,i<j→es[i]? =some x→qv k (x.comp 0)=false)→
  rH k es=true∧(∀z,rI k es z=y)∧∀v,m7 k v es=es.set j (.bC [k',v])
 | [],j,k',y,h,_,_=>by simp at h
 | e::es,0,k',y,h,he,_=>by
  simp at h
  subst h
  exact ⟨by simp[rH,V.comp,V.nth,he],fun z=>by simp[rI,V.comp,V.nth,he],fun v=>by simp[m7,V.comp,V.nth,he]⟩
 | e::es,j+1,k',y,h,he,aR=>by
  have h0:=aR 0 e (by omega) rfl
  obtain ⟨a,b,c⟩:=Tv (k:=k) (es:=es) (j:=j) (by simpa using h) he fun i x hi hx=>aR (i+1) x (by omega) (by simpa using hx)
  exact ⟨by simp[rH,h0,a],fun z=>by simp[rI,h0,b],fun v=>by simp[m7,h0,c]⟩
theorem Tw {kt vt:TypeId} {E:Array MapEntry} {es:List V} {k:V} {kv:Value} (hs:E.size=es.length) (hx: ∀(j:Nat) (e:MapEntry) (x:V),E[j]? =some e→es[j]? =some x→Gk P kt vt e x)
  (hn:E.toList.Pairwise (fun a b=>a.key≠b.key)) (hk:ov P kt k=true) (G2:rP kv k) (w:World):
  ((Instr.findKey kt kv E.toList).run P w= .ok none w∧(∀e∈E.toList,e.key≠kv)∧rH k es=false∧(∀z,rI k es z=z)∧∀v,m7 k v es=es++[.bC [k,v]])∨
  ∃j e k' y,(Instr.findKey kt kv E.toList).run P w= .ok (some (j,e.val)) w∧E[j]? =some e∧e.key=kv∧es[j]? =some (.bC [k',y])∧ov P kt k'=true∧rP kv k'∧fH P vt y=true∧jZ e.val y∧
   rH k es=true∧(∀z,rI k es z=y)∧∀v,m7 k v es=es.set j (.bC [k',v]):=by
 have K:=LG hk
 obtain ⟨l,hl⟩:=G1 hk G2
 have Tx: ∀(j:Nat) x,es[j]? =some x→∃e,E[j]? =some e∧Gk P kt vt e x:=by
  intro j x hj
  have aR:j<E.size:=by rw[hs];exact (bH.1 hj).1
  exact ⟨E[j],lD aR,hx j _ x (lD aR) hj⟩
 have keys: ∀e∈E.toList,∃l,Go.keyOf P kt e.key=some l:=by
  intro e he
  obtain ⟨j,hj⟩:=s8 he
  have gY:E[j]? =some e:=by simpa using hj
  have aR:j<es.length:=by rw[←hs];exact (jb.1 gY).1
  obtain ⟨k',y,_,h1,h2,_⟩:=hx j e es[j] gY (bZ aR)
  exact G1 h1 h2
 rcases K.find w hl E.toList keys with ⟨h1,h2⟩|⟨j,e,h1,h2,h3⟩
 ·left
  refine ⟨h1,h2,Tu fun x hxm=> ?_⟩
  obtain ⟨j,hj⟩:=s8 hxm
  obtain ⟨e,he,k',y,rfl,f1,f2,_⟩:=Tx j x hj
  cases hq:qv k (V.comp (.bC [k',y]) 0) with
  | false=>rfl
  | true=>
   have:=(LH hk f1 G2 f2).1 hq
   exact absurd this.symm (h2 e (kg (by simpa using he)))
 ·right
  have hE:E[j]? =some e:=by simpa using h2
  have aR:j<es.length:=by rw[←hs];exact (jb.1 hE).1
  obtain ⟨k',y,hy,f1,f2,f3,f4⟩:=hx j e es[j] hE (bZ aR)
  have hj:=bZ aR
  rw[hy] at hj
  rw[h3] at f2
  refine ⟨j,e,k',y,h1,hE,h3,hj,f1,f2,f3,f4,Tv hj ((LH hk f1 G2 f2).2 rfl) fun i x hi iF=> ?_⟩
  obtain ⟨e',vh,k2,y2,rfl,g1,g2,_⟩:=Tx i x iF
  cases hq:qv k (V.comp (.bC [k2,y2]) 0) with
  | false=>rfl
  | true=>
   have:=(LH hk g1 G2 g2).1 hq
   have i1:i<E.toList.length:=by have:=(bH.1 iF).1;simp;omega
   have i2:j<E.toList.length:=by simp;omega
   have:=xd.1 hn i j i1 i2 hi
   have a1:E.toList[i]=e':=by
    have:E.toList[i]? =some e':=by simpa using vh
    rw[bZ i1] at this;exact dB this
   have a2:E.toList[j]=e:=by
    have:=h2
    rw[bZ i2] at this;exact dB this
   rw[a1,a2,h3] at this
   exact absurd (by rw[← ‹kv=e'.key›]) this
theorem au.Tz {v:Value} {x:V} (h:au P w I β hp v x) {t:TypeId} (hx:qw P t x=true):jZ v x:=by
 rcases se hx with ⟨q,n,_,rfl,_⟩|⟨b,_,rfl⟩|⟨s,_,rfl,_⟩
 ·exact h.eD
 ·exact h.lf
 ·exact h.ng
theorem au.TA {v:Value} {x:V} (h:au P w I β hp v x) {t:TypeId} (hx:ov P t x=true):rP v x:=by
 cases xZ hx with
 | one f c=>
  have:=h.Tz f
  cases x<;>first|exact this|cases this
 | arr hx A hl _ hf=>
  subst hx
  obtain ⟨cs,rfl,h1,h2⟩:=h.lL
  exact ⟨cs,rfl,h1,fun j u y hu hy=>(h2 j u y hu hy).Tz (LD hf hy)⟩
theorem TB {vt:TypeId} {y:V} (h:mapVal P vt=true) (ht:fH P vt y=true):(∃q n,P.underlying vt=some (.int q)∧y= .int q n)∨∃b,P.underlying vt=some .bool∧y= .bool b:=by
 unfold mapVal at h
 unfold fH at ht
 split at h
 ·rename_i q hu
  rw[hu] at ht
  cases y<;>first|(simp at ht;done)|skip
  simp only[dX] at ht
  subst ht
  exact .inl ⟨_,_,hu,rfl⟩
 ·rename_i hu
  rw[hu] at ht
  cases y<;>first|(simp at ht;done)|skip
  exact .inr ⟨_,hu,rfl⟩
 ·cases h
theorem jZ.LI {vt:TypeId} {v:Value} {y:V} (h:mapVal P vt=true) (ht:fH P vt y=true) (hv:jZ v y):au P w I β hp v y:=by
 rcases TB h ht with ⟨q,n,_,rfl⟩|⟨b,_,rfl⟩
 ·obtain rfl:v= .int q n:=hv;exact .int
 ·obtain rfl:v= .bool b:=hv;exact .bool
theorem au.adg {vt:TypeId} {v:Value} {y:V} (h:mapVal P vt=true) (ht:fH P vt y=true) (hv:au P w I β hp v y):jZ v y:=by
 rcases TB h ht with ⟨q,n,_,rfl⟩|⟨b,_,rfl⟩
 ·exact hv.eD
 ·exact hv.lf
theorem adh {vt:TypeId} {z:V} (h:F5 P vt=some z) (w:World): ∃v,(zeroValue vt).run P w= .ok v w∧jZ v z:=by
 unfold F5 at h
 cases hi:P.info? vt with
 | none=>rw[hi] at h;cases h
 | some i=>
  rw[hi] at h
  simp only[Option.bind_some] at h
  cases hz:i.zero with
  | none=>rw[hz] at h;cases h
  | some v=>
   rw[hz] at h
   refine ⟨v,by simp[zeroValue,typeInfo,hi,hz],?_⟩
   cases v<;>simp only at h<;>first|(cases h;done)|skip
   ·cases h;rfl
   ·cases h;rfl
theorem LJ {t kt vt:TypeId} (h:mn P t=some (kt,vt)):P.underlying t=some (.map kt vt):=by
 unfold mn at h
 split at h
 ·rename_i k e hu;cases h;exact hu
 ·cases h
theorem LL (S:aO P w I β hp B M w0) {ok:Bool} {v:Value} {x:V} {b:Bool} {r:R} {rd:List Nat} {res:Result Value} (hv:au P w I β hp v x)
  (hr:res= .ok (if ok then .tuple #[v,.bool b] else v) w) (h:(F6 ok x b).run C hp=some (r,rd)):dz P res w I β hp B M w0 r:=by
 unfold F6 at h
 obtain rfl:=aY h
 cases ok with
 | false=>exact .same S hr hv
 | true=>
  refine .same S hr (.bC rfl fun j u y hu hy=> ?_)
  match j,hu,hy with
  | 0,hu,hy=>simp at hu hy;subst hu;subst hy;exact hv
  | 1,hu,hy=>simp at hu hy;subst hu;subst hy;exact .bool
  | j+2,hu,hy=>simp at hy
theorem adi (S:aO P w I β hp B M w0) {t kt vt:TypeId} (ht:mn P t=some (kt,vt)) {m k:Value} {mx kx:V} {ok:Bool} {r:R} {rd:List Nat} (hm:au P w I β hp m mx) (hk:au P w I β hp k kx)
  (h:(Kw P t mx kx ok).run C hp=some (r,rd)):dz P ((Instr.lookup t m k ok).run P w) w I β hp B M w0 r:=by
 unfold Kw at h
 rw[ht] at h
 simp only at h
 cases hz:F5 P vt with
 | none=>rw[hz] at h;cases h
 | some z=>
  rw[hz] at h
  obtain ⟨hc,h'⟩:=aP h
  clear h
  have h:=h'
  clear h'
  simp only[aU] at hc
  obtain ⟨lk,BK,G3⟩:=hc
  have hu:=LJ ht
  have ya:=hk.TA lk
  have K:=LG lk
  obtain ⟨l,hl⟩:=G1 lk ya
  obtain ⟨zv,TC,BL⟩:=adh hz w
  cases mx<;>simp only at h<;>first|(cases h;done)|skip
  ·rename_i t' id
   obtain ⟨mA,h'⟩:=aP h
   clear h
   have h:=h'
   clear h'
   rw[bj] at mA
   subst mA
   obtain ⟨l2,h'⟩:=run_get h
   clear h
   have h:=h'
   clear h'
   cases ai:hp id with
   | none=>rw[ai] at h;cases h
   | some blk=>
    rw[ai] at h
    cases blk<;>simp only at h<;>first|(cases h;done)|skip
    rename_i t2 es
    obtain ⟨mA,h'⟩:=aP h
    clear h
    have h:=h'
    clear h'
    rw[bj] at mA
    subst mA
    cases hm with
    | jk hd=>rw[ai] at hd;cases hd
    | @c7 _ _ b aW hd hb=>
     rw[ai] at hd
     cases hd
     have hr:=S.h.rel id _ ai
     cases hr with
     | @map _ TD TE _ b' clock E fW aE hh hs hI hx hn=>
      rw[hb] at aE;cases aE
      rw[hu] at fW;cases fW
      rcases Tw hs hx hn lk ya w with ⟨h1,_,h3,h4,_⟩|⟨j,e,k',y,h1,_,_,_,_,_,h6,h7,h3,h4,_⟩
      ·rw[h3,h4,Bv G3] at h
       refine LL S (jZ.LI BK G3 BL) ?_ h
       unfold Instr.lookup
       simp only[Sem.run_bind,run_underlying hu,Result.andThen_ok,Go.MapKept.run_getObj_map hh,Sem.run_pure,K.check w E.isEmpty hl,h1,TC]
      ·rw[h3,h4,Bv h6] at h
       refine LL S (jZ.LI BK h6 h7) ?_ h
       unfold Instr.lookup
       simp only[Sem.run_bind,run_underlying hu,Result.andThen_ok,Go.MapKept.run_getObj_map hh,Sem.run_pure,K.check w E.isEmpty hl,h1]
  ·rename_i t'
   obtain ⟨mA,h⟩:=aP h
   cases hm
   rw[Bv G3] at h
   refine LL S (jZ.LI BK G3 BL) ?_ h
   have hf:(Instr.findKey kt k []).run P w= .ok none w:=by
    rcases K.find w hl [] (by simp) with ⟨h1,_⟩|⟨j,e,_,h2,_⟩
    ·exact h1
    ·simp at h2
   unfold Instr.lookup
   simp[run_underlying hu,K.check w true hl,hf,TC]
theorem adj (S:aO P w I β hp B M w0) {t:TypeId} {nb:Nat} {r:R} {rd:List Nat} (h:(Rd.aI (mn P t).isSome (jW nb (.map t []) (.c7 t nb) [])).run C hp=some (r,rd)):
  dz P ((Instr.makeMap t none).run P w) w I β hp B M w0 r:=by
 obtain ⟨ht,h⟩:=aP h
 obtain ⟨hn,rfl⟩:=oH h
 obtain ⟨⟨kt,vt⟩,ht⟩:=AN.1 ht
 have hu:=LJ ht
 have dp: ¬I w.heap.size:=fun h=>Nat.lt_irrefl _ (S.h.ko _ h)
 have fJ:(w.alloc (.map #[] 0)).heap[w.heap.size]? =some (.map #[] 0):=heap_alloc_new w _
 obtain ⟨a1,a2⟩:=Br S (w':=w.alloc (.map #[] 0)) (blk:= .map t []) (b:=w.heap.size) hn (fun aJ blk' h ho=>Nat.lt_irrefl _ (S.h.lt h ho)) dp
  (fun b' _ aR=>heap_alloc_old w _ b' aR) (by simp) ⟨rfl,rfl⟩ (.inr S.size) (fun b' h=>(dB (h.flat (by simp))).symm)
  (fun _=> .map hu rfl fJ rfl dp (fun j e x he _=>by simp at he) (by simp))
 exact ⟨_,_,_,_,Go.RowKit.run_makeMap t w,a1,a2,.c7 (dw _ _ _) (dw _ _ _)⟩
theorem TF (S:aO P w I β hp B M w0) {t kt vt:TypeId} (ht:mn P t=some (kt,vt)) {m k v:Value} {mx kx vx:V} {r:R} {rd:List Nat} (hm:au P w I β hp m mx) (hk:au P w I β hp k kx) (hv:au P w I β hp v vx)
  (h:(F7 P t mx kx vx).run C hp=some (r,rd)):qG P ((Instr.mapUpdate t m k v).run P w) w I β hp B M w0 r:=by
 unfold F7 at h
 rw[ht] at h
 obtain ⟨hc,h'⟩:=aP h
 clear h
 have h:=h'
 clear h'
 simp only[aU] at hc
 obtain ⟨lk,BK,vl⟩:=hc
 have hu:=LJ ht
 have ya:=hk.TA lk
 have xM:=au.adg BK vl hv
 have K:=LG lk
 obtain ⟨l,hl⟩:=G1 lk ya
 cases mx<;>simp only at h<;>first|(cases h;done)|skip
 rename_i t' id
 obtain ⟨mA,h'⟩:=aP h
 clear h
 have h:=h'
 clear h'
 rw[bj] at mA
 subst mA
 obtain ⟨l2,h'⟩:=run_get h
 clear h
 have h:=h'
 clear h'
 cases ai:hp id with
 | none=>rw[ai] at h;cases h
 | some blk=>
  rw[ai] at h
  cases blk<;>simp only at h<;>first|(cases h;done)|skip
  rename_i t2 es
  obtain ⟨mA,h'⟩:=aP h
  clear h
  have h:=h'
  clear h'
  rw[bj] at mA
  subst mA
  obtain rfl:=aY h
  cases hm with
  | jk hd=>rw[ai] at hd;cases hd
  | @c7 _ _ b aW hd hb=>
   rw[ai] at hd
   cases hd
   have hr:=S.h.rel id _ ai
   cases hr with
   | @map _ TD TE _ b' clock E fW aE hh hs hI hx hn=>
    rw[hb] at aE;cases aE
    rw[hu] at fW;cases fW
    have aR:b<w.heap.size:=(jb.1 hh).1
    have fin: ∀(E':Array MapEntry) (BM:Nat),(Instr.mapUpdate t (.map (some b)) k v).run P w= .ok () {w with heap:=w.heap.setIfInBounds b (.map E' BM)}→E'.size=(m7 kx vx es).length→
      (∀(j:Nat) (e:MapEntry) (x:V),E'[j]? =some e→(m7 kx vx es)[j]? =some x→Gk P kt vt e x)→E'.toList.Pairwise (fun a b=>a.key≠b.key)→
      qG P ((Instr.mapUpdate t (.map (some b)) k v).run P w) w I β hp B M w0 ⟨.undef,[(id,.map t (m7 kx vx es))]⟩:=by
     intro E' BM dx LC cU BN
     have fJ:({w with heap:=w.heap.setIfInBounds b (.map E' BM)}:World).heap[b]? =some (.map E' BM):=by simp[aR]
     obtain ⟨a1,a2⟩:=Gx S (w':={w with heap:=w.heap.setIfInBounds b (.map E' BM)}) (blk':= .map t (m7 kx vx es)) ai (by simp) rfl hb hI (by simp)
      (fun b' aE=>by simp[Array.getElem?_setIfInBounds,Ne.symm aE]) (by simp only[bsize,fJ,hh]) (by simp) ⟨rfl,rfl⟩ (fun _=> .map hu rfl fJ LC hI cU BN)
     exact ⟨_,I,β,dx,a1,a2,rfl⟩
    rcases Tw hs hx hn lk ya w with ⟨h1,h2,_,_,h5⟩|⟨j,e,k',y,h1,hE,TG,TH,adk,adl,_,_,_,_,h5⟩
    ·have e5:=h5 vx
     refine fin (E.push {key:=k,val:=v,born:=clock}) (clock+1) ?_ (by rw[e5];simp[hs]) (fun j e x he rW=> ?_) ?_
     ·unfold Instr.mapUpdate
      simp only[Sem.run_bind,run_underlying hu,Result.andThen_ok,Go.MapKept.run_getObj_map hh,K.check w false hl,h1,Go.MapKept.run_setObj_map _ hh]
     ·rw[e5] at rW
      rw[Array.getElem?_push] at he
      split at he
      ·rename_i hj
       rw[kh (by omega),hj,hs,Nat.sub_self] at rW
       simp at he rW
       subst he;subst rW
       exact ⟨kx,vx,rfl,lk,ya,vl,xM⟩
      ·have hj:j<E.size:=(jb.1 he).1
       rw[kT (by omega)] at rW
       exact hx j e x he rW
     ·rw[Array.toList_push,FL]
      refine ⟨hn,by simp,fun a ha b' aE=> ?_⟩
      simp only[cV] at aE
      subst aE
      exact h2 a ha
    ·have e5:=h5 vx
     have hj:j<E.size:=(jb.1 hE).1
     refine fin (E.modify j fun e=>{e with key:=k,val:=v}) clock ?_ (by rw[e5];simp[hs]) (fun i e' x he iF=> ?_) ?_
     ·have bB:=K.stays w hl
      unfold Instr.mapUpdate
      simp only[Sem.run_bind,run_underlying hu,Result.andThen_ok,Go.MapKept.run_getObj_map hh,K.check w false hl,h1]
      simp only[hE,Option.map_some,Option.getD_some,TG,bB,Result.andThen_ok,Go.MapKept.run_setObj_map _ hh]
     ·rw[e5] at iF
      rw[AO] at he
      rw[List.getElem?_set] at iF
      split at he
      ·rename_i qM
       subst qM
       rw[ag rfl,ag (by omega)] at iF
       rw[hE] at he
       simp at he iF
       subst he;subst iF
       exact ⟨k',vx,rfl,adk,adl,vl,xM⟩
      ·rename_i qM
       rw[ah qM] at iF
       exact hx i e' x he iF
     ·have TI: ∀i (h1:i<(E.modify j fun e=>{e with key:=k,val:=v}).toList.length) (h2:i<E.toList.length),((E.modify j fun e=>{e with key:=k,val:=v}).toList[i]).key=(E.toList[i]).key:=by
       intro i h1 h2
       simp only[Array.getElem_toList,Array.getElem_modify]
       split
       ·rename_i qM
        subst qM
        have:=(jb.1 hE).2
        rw[this,TG]
       ·rfl
      rw[xd] at hn⊢
      intro i i' h1 h2 jC
      have g1:i<E.toList.length:=by simpa using h1
      have g2:i'<E.toList.length:=by simpa using h2
      rw[TI i h1 g1,TI i' h2 g2]
      exact hn i i' g1 g2 jC
theorem adm (S:aO P w I β hp B M w0) {t ty kt vt:TypeId} {v:Value} {x:V} {r:R} {rd:List Nat} (hu:P.underlying t=some (.map kt vt)) (hv:au P w I β hp v x)
  (h:(F8 x).run C hp=some (r,rd)):dz P ((Builtin.len_ #[t] ty #[v]).run P w) w I β hp B M w0 r:=by
 unfold F8 at h
 cases x<;>simp only at h<;>first|(cases h;done)|skip
 ·rename_i t' id
  obtain ⟨l2,h'⟩:=run_get h
  clear h
  have h:=h'
  clear h'
  cases ai:hp id with
  | none=>rw[ai] at h;cases h
  | some blk=>
   rw[ai] at h
   cases blk<;>simp only at h<;>first|(cases h;done)|skip
   rename_i t2 es
   obtain rfl:=aY h
   cases hv with
   | jk hd=>rw[ai] at hd;cases hd
   | @c7 _ _ b aW hd hb=>
    rw[ai] at hd
    cases hd
    have hr:=S.h.rel id _ ai
    cases hr with
    | @map _ TD TE _ b' clock E fW aE hh hs hI hx hn=>
     rw[hb] at aE;cases aE
     refine .same S (v:= .int .i64 E.size) (by simp[Builtin.len_,run_underlying hu,Go.MapKept.run_getObj_map hh,goInt]) ?_
     rw[hs]
     exact .int
 ·obtain rfl:=aY h
  cases hv
  exact .same S (v:= .int .i64 0) (by simp[Builtin.len_,run_underlying hu,goInt]) .int
theorem au.LM {v:Value} {t:TypeId} (h:au P w I β hp v (.ei t)):v= .map none:=by cases h;rfl
theorem au.adn {v:Value} {t t':TypeId} {id:Nat} {es:List V} (h:au P w I β hp v (.c7 t id)) (ai:hp id=some (.map t' es)): ∃b,v= .map (some b):=by
 cases h with
 | jk h=>rw[ai] at h;cases h
 | c7 h hb=>exact ⟨_,rfl⟩
theorem TJ (S:aO P w I β hp B M w0) {op:BinOp} {t:TypeId} {a:Option Nat} {r:R} {rd:List Nat} (x y:Operand)
  (h:(F2 P op t a.isNone).run C hp=some (r,rd)):dz P ((do eqGuard op t x y (.map a) (.map none);binOp op t (.map a) (.map none)).run P w) w I β hp B M w0 r:=by
 unfold F2 at h
 split at h
 case h_2=>cases h
 rename_i kt vt hu
 have he:(Op.equal t (.map a) (.map none)).run P w= .ok a.isNone w:=by
  show (Op.equalIn (9999+1) t (.map a) (.map none)).run P w=_
  rw[Op.equalIn]
  cases a<;>simp[Sem.run_bind,run_underlying hu,Result.andThen_ok,Sem.run_pure]
 cases op<;>simp only at h<;>first|(cases h;done)|skip
 ·obtain rfl:=aY h
  exact .same S (by simp[eqGuard,binOp,he]) .bool
 ·obtain rfl:=aY h
  exact .same S (by simp[eqGuard,binOp,he]) .bool
end
end Go.AM
namespace Go.AM
section
variable {P:Program} {w w':World} {I I':Nat→Prop} {β β':Nat→Option Nat} {hp hp':Nat→Option ao} {C:af} {B:Nat} {M:Nat→Prop} {w0:Start}
theorem ado {e:TypeId} (he:P.underlying e=some (.int .u8)) (hc:P.cellsOf e=1) (s:ByteArray): ∀(i j:Nat) (x:V) (t':TypeId),(s.data.toList.map Bb)[i]? =some x→(bp P e)[j]? =some t'→j<P.cellsOf e→
  ∃u,(Lib.strCells s)[i*P.cellsOf e+j]? =some u∧Pure P w I t' u (cb P e x j):=by
 intro i j x t' hx ht hj
 have oL:b7 P e=false:=by simp[b7,he]
 obtain rfl:j=0:=by omega
 simp only[bp,oL,cond_false,List.getElem?_cons_zero,eN] at ht
 subst ht
 rw[hY] at hx
 cases hb:s.data.toList[i]? with
 | none=>rw[hb] at hx;cases hx
 | some b=>
  rw[hb] at hx
  cases hx
  refine ⟨.int .u8 b.toNat,?_,?_⟩
  ·rw[hc,om,Nat.add_zero]
   simp only[Lib.strCells,hY,hb,Option.map_some]
  ·simp only[cb,oL,cond_false]
   exact .int he
theorem adp (w:World) (t u ty e:TypeId) (i:TypeInfo) (z:Value) (ht:P.underlying t=some (.slice e)) (hu:P.underlying u=some .string) (hi:P.info? e=some i) (hz:i.zero=some z)
  (s:ByteArray) (h0:0<s.size) (GX:(s.size:Int)≤9223372036854775807) (GY:s.size*i.bytes≤281474976710656) (a0:Option Addr):
  (Builtin.append_ #[t,u] ty #[.slice a0 0 0,.string s]).run P w=
   .ok (.slice (some ⟨w.heap.size,0,none⟩) s.size (grownCap w s.size 0 e))
    (w.drew.alloc (.cells (s.data.map (fun b=>Value.int .u8 b.toNat)++Builtin.zeroCells z.cells (grownCap w s.size 0 e-s.size)) e)):=by
 cases a0 with
 | none=>exact run_append_nil_string w t u ty e i z ht hu hi hz s h0 GX GY
 | some b=>
  rw[←run_append_nil_string w t u ty e i z ht hu hi hz s h0 GX GY]
  have hn:s.size≠0:=by omega
  have adq: ¬(9223372036854775807<(s.size:Int)):=by omega
  have adr: ¬(281474976710656<Builtin.nextslicecap s.size 0*i.bytes):=by rw[nextslicecap_zero h0];omega
  simp[Builtin.append_,run_underlying ht,run_underlying hu,sizeOf,typeInfo,zeroValue,hi,hz,Builtin.lenOf,Builtin.firstCells,hn,adq,adr,Question.forced,newRow,grownCap,loadCells,loadCellsFrom]
theorem TK (S:aO P w I β hp B M w0) {t u ty e:TypeId} {nb:Nat} {x:ByteArray} {xs:List V} {i:TypeInfo} {z:Value} (hu:P.underlying t=some (.slice e)) (pH:P.underlying u=some .string) (ax:dt P e=true) (hn:hp nb=none)
 (hi:P.info? e=some i) (hz:i.zero=some z) (h3:i.size=P.cellsOf e) (h4:z.cells.size=P.cellsOf e) (yb:i.size=1) (nk:P.bytesOf e=i.bytes) (fp:xs.length*P.bytesOf e≤b8) (nr:xs.length=x.size) (ni:(Lib.strCells x).length=x.size)
 (cP: ∀(i j:Nat) (y:V) (t':TypeId),xs[i]? =some y→(bp P e)[j]? =some t'→j<P.cellsOf e→∃u,(Lib.strCells x)[i*P.cellsOf e+j]? =some u∧Pure P w I t' u (cb P e y j)):
 ∀a0,∃v w' β',(Builtin.append_ #[t,u] ty #[.slice a0 0 0,.string x]).run P w= .ok v w'∧Le P w I β hp w' I β' (aV hp nb (some (.arr e xs false)))∧aO P w' I β' (aV hp nb (some (.arr e xs false))) B M w0∧
  au P w' I β' (aV hp nb (some (.arr e xs false))) v (.whole e nb):=by
 intro a0
 have vi:=xE ax
 have hlen:xs.length≤2^45:=by
  have:xs.length*1≤xs.length*P.bytesOf e:=uF _ vi
  simp only[b8] at fp
  omega
 by_cases h0:x.size=0
 ·have gn:xs=[]:=mg (by omega)
  subst gn
  obtain ⟨a1,a2⟩:=Gv S e hn
  have hf:=Lib.run_firstCells_string (P:=P) w 1 x
  rw[h0] at hf
  have r0:Lib.strCells x=[]:=mg (by omega)
  exact ⟨.slice a0 0 0,_,_,by cases a0<;>simp[storeCells,r0,Builtin.append_,run_underlying hu,run_underlying pH,sizeOf,typeInfo,hi,yb,Builtin.lenOf,h0,hf],a1,a2,.ep (dw _ _ _) (dw _ _ _)⟩
 ·have dx:=adp (P:=P) w t u ty e i z hu pH hi hz x (by omega) (by omega) (by rw[←nk,←nr];simp only[b8] at fp;omega) a0
  have e1:(x.data.map fun b=>Value.int .u8 b.toNat)=(Lib.strCells x).toArray:=by
   apply Array.ext'
   simp[Lib.strCells]
  rw[e1,←nr] at dx
  have qJ:=grownCap_ge w xs.length 0 e
  have vj:grownCap w xs.length 0 e≤maxLen:=grownCap_le_maxLen w xs.length 0 e (by simp only[maxLen];omega)
  obtain ⟨n1,n2,n3⟩:=xX S.drew (nb:=nb) (cap:=grownCap w xs.length 0 e) (es:=xs) (C0:=(Lib.strCells x).toArray++Builtin.zeroCells z.cells (grownCap w xs.length 0 e-xs.length)) ax hn
   (by
    have:(Lib.strCells x).length=xs.length*P.cellsOf e:=by rw[ni,nr,←h3,yb,om]
    simp only[FJ,rE,size_zeroCells,h4,this,←dY];congr 1;omega) qJ vj
   (fun i' j y t' hy ht hj=>by
    obtain ⟨u,fW,hp⟩:=cP i' j y t' hy ht hj
    have aR:=(bH.1 fW).1
    refine ⟨u,?_,Pure.drew hp⟩
    rw[Array.getElem?_append_left (by simpa using aR)]
    simpa using fW)
  exact ⟨_,_,_,dx,(Le.drew w I β hp).trans n1,n2,n3⟩
theorem ads (S:aO P w I β hp B M w0) {t u ty e:TypeId} {nb:Nat} {s:Value} {sv:V} {x:ByteArray} {r:R} {rd:List Nat} (hu:P.underlying t=some (.slice e)) (pH:P.underlying u=some .string) (he:P.underlying e=some (.int .u8)) (hs:au P w I β hp s sv)
  (h:(xr P nb e sv (.list e (x.data.toList.map Bb))).run C hp=some (r,rd)):dz P ((Builtin.append_ #[t,u] ty #[s,.string x]).run P w) w I β hp B M w0 r:=by
 unfold xr at h
 obtain ⟨ax,h⟩:=aP h
 simp only[tq] at h
 obtain ⟨_,h⟩:=aP h
 have oL:b7 P e=false:=by simp[b7,he]
 have et:P.cellsOf e=1:=by rw[←(ld ax).1,Bm oL];rfl
 obtain ⟨i,z,hi,hz,h3,h4,_⟩:=lh ax
 have yb:i.size=1:=by rw[h3,et]
 have vi:=xE ax
 have nk:P.bytesOf e=i.bytes:=by simp[Program.bytesOf,hi]
 have G4:=ado (P:=P) (w:=w) (I:=I) he et x
 have nr:(x.data.toList.map Bb).length=x.size:=by simp
 have ni:(Lib.strCells x).length=x.size:=Lib.strCells_length x
 have h1:=Lib.strCells_oneCell x
 generalize gn:x.data.toList.map Bb=xs at*
 cases sv with
 | nilS e'=>
  obtain ⟨hc,h⟩:=aP h
  simp only[aU,bj,dN] at hc
  obtain ⟨hn,rfl⟩:=oH h
  obtain ⟨a0,rfl⟩: ∃a0,s= .slice a0 0 0:=by cases hs;exact ⟨_,rfl⟩
  obtain ⟨v,w',β',a1,a2,a3,a4⟩:=TK S hu pH ax hn hi hz h3 h4 yb nk hc.2 nr ni G4 _
  exact ⟨v,w',I,β',a1,a2,a3,a4⟩
 | whole e' id=>
  obtain ⟨l,h⟩:=run_get h
  cases ai:hp id with
  | none=>rw[ai] at h;cases h
  | some blk=>
   rw[ai] at h
   cases blk with
   | dead=>cases h
   | var _=>cases h
   | nest _ _ _=>cases h
   | map _ _=>cases h
   | arr en es fz=>
    cases fz with
    | true=>cases h
    | false=>
     obtain ⟨hc,h⟩:=aP h
     obtain ⟨hn,rfl⟩:=oH h
     simp only[aU,bj,dN] at hc
     obtain ⟨Ls,Lt,fp⟩:=hc
     subst Ls
     subst Lt
     have bX:nb≠id:=fun e=>by rw[e,ai] at hn;cases hn
     obtain ⟨k1,k2⟩:=Gw S ai
     have lj:aV hp id (some ao.dead) nb=none:=by rw[e7 _ _ bX];exact hn
     cases hs with
     | eZ hd=>rw[ai] at hd;cases hd
     | fj hd=>rw[ai] at hd;cases hd
     | ep hd hb=>
      rw[ai] at hd
      cases hd
      simp only[List.length_nil,hO] at fp
      obtain ⟨v,w',β',a1,a2,a3,a4⟩:=TK k2 hu pH ax lj hi hz h3 h4 yb nk fp nr ni G4 _
      exact ⟨v,w',I,β',a1,k1.trans a2,a3,a4⟩
     | @whole _ _ aW ox b cap hd hb bh cF hm=>
      rw[ai] at hd
      cases hd
      have hr:=S.h.rel id _ ai
      cases hr with
      | er aE=>rw[aE] at hb;cases hb
      | @arr _ _ _ b' Ca _ aE hh qL hf e6 nn=>
       rw[hb] at aE
       cases aE
       have hlen:es.length+xs.length≤2^45:=by
        have:(es.length+xs.length)*1≤(es.length+xs.length)*P.bytesOf e:=uF _ vi
        simp only[b8] at fp
        omega
       rw[oB hh] at bh
       have rU: ∀aJ blk',aV hp id (some ao.dead) aJ=some blk'→¬bL P w (β aJ) blk' b:=by
        intro aJ blk' h1 h2
        by_cases jC:aJ=id
        ·subst jC;rw[dw] at h1;cases h1;exact h2.alive rfl
        ·rw[e7 _ _ jC] at h1
         exact jC (S.h.inj aJ id blk' _ b h1 ai h2 (.root (by simp) hb))
       have Lu:=S.h.tA id _ b ai (by simp) hb
       have mB:es.length*P.cellsOf e≤Ca.toList.length:=by simpa using qL
       have TL:(Lib.strCells x).length=xs.length*P.cellsOf e:=by rw[ni,nr,et,om]
       by_cases tJ:es.length+xs.length≤cap
       ·have BG:es.length*P.cellsOf e+(Lib.strCells x).length≤Ca.size:=by rw[TL,←dY,←bh];exact eh _ tJ
        have dx:=Lib.run_append_room_string (P:=P) w t u ty e i hu pH hi yb b es.length cap Ca hh x (by rw[←nr];exact tJ) (by rw[←ni];rw[et,om] at BG;exact BG)
        have cP:=GV (P:=P) (w:=w) (I:=I) (n:=es.length) (c:=Ca.toList) rfl (fun i j y t' a b c=>by
         obtain ⟨v,hv,hp⟩:=nn i j y t' a b c
         exact ⟨v,by simpa using hv,hp⟩) G4 mB (Ca.toList.drop (es.length*P.cellsOf e+(Lib.strCells x).length))
        generalize xT:(Ca.toList.take es.length++Lib.strCells x++Ca.toList.drop (es.length+x.size)).toArray=C' at dx
        have pF:C'.size=Ca.size:=by
         rw[et,om] at BG
         rw[←xT];simp;omega
        have TM:(w.setRow b C').heap[b]? =some (.cells C' e (0,0)):=setRow_heap w b Ca C' e _ hh
        obtain ⟨a1,a2⟩:=Br k2 (blk:= .arr e (es++xs) false) (w':=w.setRow b C') lj rU (e6 rfl) (fun b' h _=>setRow_other w b b' _ h) (by simp) ⟨rfl,rfl⟩ Lu
         (fun b' h=>(dB (h.flat (by simp))).symm) (fun hle=> .arr ax rfl TM (by rw[pF,←bh];exact eh _ (by simpa using tJ)) (fun h=>by cases h) (fun _=>e6 rfl) fun i j y t' a b c=>by
          obtain ⟨v,hv,hp⟩:=cP i j y t' a b c
          refine ⟨v,?_,hp.mono hle.dO hle.cJ⟩
          rw[←xT,oh]
          rw[et] at hv⊢
          simpa[ni] using hv)
        refine ⟨_,_,_,_,dx,k1.trans a1,a2,?_⟩
        have a3:=au.whole (P:=P) (w:=w.setRow b C') (I:=I) (β:=aV β nb (some b)) (hp:=aV (aV hp id (some .dead)) nb (some (.arr e (es++xs) false))) (cap:=cap) (b:=b) (es:=es++xs) (fz:=false) (id:=nb) (e:=e) (dw _ _ _) (dw _ _ _) (by rw[oB TM,pF,bh]) (by simpa using tJ) hm
        rw[bO,nr] at a3
        exact a3
       ·have hold: ∀(j:Nat) v,(Ca.toList.take (es.length*P.cellsOf e))[j]? =some v→w.cell? ((⟨b,0,none⟩:Addr).add j)=some v:=by
         intro j v hj
         have cp:=(bH.1 hj).1
         have ig:j<es.length*P.cellsOf e:=by rw[dV] at cp;omega
         rw[fU ig] at hj
         rw[oE,cell?_cells hh,hO]
         simpa using hj
        have dx:=Lib.run_append_grow_string (P:=P) w t u ty e i z hu pH hi hz ⟨b,0,none⟩ es.length cap (Ca.toList.take (es.length*P.cellsOf e)) (by rw[h3];simp;omega) hold x (by omega) (by omega)
         (growslice_fits (by omega) (by rw[←nk,←nr];simp only[b8] at fp;omega))
        rw[←nr] at dx
        have qJ:=grownCap_ge w (es.length+xs.length) cap e
        have vj:grownCap w (es.length+xs.length) cap e≤maxLen:=grownCap_le_maxLen w _ cap e (by simp only[maxLen];omega)
        have cP:=GV (P:=P) (w:=w) (I:=I) (n:=es.length) (c:=Ca.toList) rfl (fun i j y t' a b c=>by
         obtain ⟨v,hv,hp⟩:=nn i j y t' a b c
         exact ⟨v,by simpa using hv,hp⟩) G4 mB (Builtin.zeroCells z.cells (grownCap w (es.length+xs.length) cap e-(es.length+xs.length))).toList
        obtain ⟨n1,n2,n3⟩:=xX k2.drew (nb:=nb) (cap:=grownCap w (es.length+xs.length) cap e) (es:=es++xs)
         (C0:=(Ca.toList.take (es.length*P.cellsOf e)).toArray++(Lib.strCells x).toArray++Builtin.zeroCells z.cells (grownCap w (es.length+xs.length) cap e-(es.length+xs.length))) ax lj
         (by
          have e1:(Ca.toList.take (es.length*P.cellsOf e)).length=es.length*P.cellsOf e:=by simp;omega
          simp only[FJ,rE,size_zeroCells,h4,TL,e1,←dY];congr 1;omega) (by simpa using qJ) vj
         (fun i j y t' a b c=>by
          obtain ⟨v,hv,hp⟩:=cP i j y t' a b c
          refine ⟨v,?_,Pure.drew hp⟩
          rw[←s9]
          simpa using hv)
        rw[bO] at n3
        exact ⟨_,_,_,_,dx,(k1.trans (Le.drew w I β _)).trans n1,n2,n3⟩
 | _=>cases h
end
section
variable {P:Program} {w w':World} {I I':Nat→Prop} {β β':Nat→Option Nat} {hp hp':Nat→Option ao} {C:af} {B:Nat} {M:Nat→Prop} {w0:Start}
theorem TN: ∀(ns:List Int) (s:ByteArray),(ns.foldl (fun r n=>r.push (UInt8.ofNat n.toNat)) s).data.toList=s.data.toList++ns.map fun n=>UInt8.ofNat n.toNat
 | [],s=>by simp
 | n::ns,s=>by
  simp only[List.foldl_cons,TN ns,dZ]
  simp[ByteArray.push]
theorem LN {e:TypeId} {u:Value} {x:V} (he:P.underlying e=some (.int .u8)) (hp:Pure P w I e u x):u= .int .u8 x.toInt:=by
 cases hp with
 | int hp'=>rw[he] at hp';cases hp';rfl
 | bool hp'=>rw[he] at hp';cases hp'
 | str hp'=>rw[he] at hp';cases hp'
 | nil hp'=>rw[he] at hp';cases hp'
 | emp hp'=>rw[he] at hp';cases hp'
 | list _ hp'=>rw[he] at hp';cases hp'
theorem adt (S:aO P w I β hp B M w0) {src dst e:TypeId} {v:Value} {x:V} {r:R} {rd:List Nat} (hs:P.underlying src=some (.slice e)) (he:P.underlying e=some (.int .u8)) (hd:P.underlying dst=some .string)
  (hv:au P w I β hp v x) (h:(Rd.aI (dt P e) (tq e x fun es=> .ret ⟨.str (ow es),[]⟩)).run C hp=some (r,rd)):dz P ((convert src dst v).run P w) w I β hp B M w0 r:=by
 obtain ⟨ax,h⟩:=aP h
 obtain ⟨xs,hx,l,h⟩:=GU S.h.rel ax hv h
 obtain rfl:=aY h
 have oL:b7 P e=false:=by simp[b7,he]
 have h1:P.cellsOf e=1:=by rw[←(ld ax).1,Bm oL];rfl
 rcases hx with ⟨⟨a,rfl⟩,rfl⟩|⟨a,c,news,hr⟩
 ·refine .same S (v:= .string .empty) ?_ (.str (by simp[ow]))
  rw[run_convert_bytes_string w src dst e a 0 0 hs he hd]
  cases a<;>simp[Conv.bytesToString,loadCells,loadCellsFrom]
 ·have GW:news=(xs.map V.toInt).map (Value.int .u8):=by
   apply List.ext_getElem?
   intro j
   by_cases hj:j<xs.length
   ·obtain ⟨u,hu,hp⟩:=hr.el j 0 xs[j] e (bZ hj) (by simp[bp,oL]) (by omega)
    rw[h1] at hu
    simp only[cb,oL,cond_false] at hp
    have fW:news[j]? =some u:=by simpa using hu
    rw[fW]
    have:=LN he hp
    simp[hj,←this]
   ·have hl:news.length=xs.length:=by rw[hr.len,h1];simp
    rw[AJ (by omega),AJ (by simp;omega)]
  have LO:=run_loadCells_list (P:=P) w a news hr.cell
  have hl:news.length=xs.length:=by rw[hr.len,h1];simp
  rw[hl] at LO
  rw[GW] at LO
  refine .same S (v:= .string ((xs.map V.toInt).foldl (fun r n=>r.push (UInt8.ofNat n.toNat)) ByteArray.empty)) ?_ (.str ?_)
  ·rw[hr.val,run_convert_bytes_string w src dst e _ _ _ hs he hd]
   exact run_bytesToString w a xs.length c (xs.map V.toInt) LO
  ·rw[TN]
   simp[ow]
theorem au.G5 {v:Value} (h:au P w I β hp v .eb):v= .pointer none:=by cases h;rfl
section
variable (w:World)
theorem adu (t e:TypeId) (a:Addr) (h:P.underlying t=some (.pointer e)):(binOp .eql t (.pointer (some a)) (.pointer none)).run P w= .ok (.bool false) w:=by
 have h0: ∀d:Nat,(Op.equalIn (d+1) t (.pointer (some a)) (.pointer none)).run P w= .ok false w:=fun d=>by simp[Op.equalIn,run_underlying h]
 simp only[binOp]
 simp[Op.equal,Op.maxDepth,h0 9999]
theorem adv (t e:TypeId) (a:Addr) (h:P.underlying t=some (.pointer e)):(binOp .neq t (.pointer (some a)) (.pointer none)).run P w= .ok (.bool (!false)) w:=by
 have h0: ∀d:Nat,(Op.equalIn (d+1) t (.pointer (some a)) (.pointer none)).run P w= .ok false w:=fun d=>by simp[Op.equalIn,run_underlying h]
 simp only[binOp]
 simp[Op.equal,Op.maxDepth,h0 9999]
theorem adw (t e:TypeId) (a:Addr) (h:P.underlying t=some (.pointer e)):(binOp .eql t (.pointer none) (.pointer (some a))).run P w= .ok (.bool false) w:=by
 have h0: ∀d:Nat,(Op.equalIn (d+1) t (.pointer none) (.pointer (some a))).run P w= .ok false w:=fun d=>by simp[Op.equalIn,run_underlying h]
 simp only[binOp]
 simp[Op.equal,Op.maxDepth,h0 9999]
theorem adx (t e:TypeId) (a:Addr) (h:P.underlying t=some (.pointer e)):(binOp .neq t (.pointer none) (.pointer (some a))).run P w= .ok (.bool (!false)) w:=by
 have h0: ∀d:Nat,(Op.equalIn (d+1) t (.pointer none) (.pointer (some a))).run P w= .ok false w:=fun d=>by simp[Op.equalIn,run_underlying h]
 simp only[binOp]
 simp[Op.equal,Op.maxDepth,h0 9999]
theorem ady (t e:TypeId) (h:P.underlying t=some (.pointer e)):(binOp .eql t (.pointer none) (.pointer none)).run P w= .ok (.bool true) w:=by
 have h0: ∀d:Nat,(Op.equalIn (d+1) t (.pointer none) (.pointer none)).run P w= .ok true w:=fun d=>by simp[Op.equalIn,run_underlying h]
 simp only[binOp]
 simp[Op.equal,Op.maxDepth,h0 9999]
theorem adz (t e:TypeId) (h:P.underlying t=some (.pointer e)):(binOp .neq t (.pointer none) (.pointer none)).run P w= .ok (.bool (!true)) w:=by
 have h0: ∀d:Nat,(Op.equalIn (d+1) t (.pointer none) (.pointer none)).run P w= .ok true w:=fun d=>by simp[Op.equalIn,run_underlying h]
 simp only[binOp]
 simp[Op.equal,Op.maxDepth,h0 9999]
end
theorem G6 (S:aO P w I β hp B M w0) {op:BinOp} {t:TypeId} {b:Bool} {x y:Operand} {v1 v2:Value} {r:R} {rd:List Nat} (h:(ptrEq P op t b).run C hp=some (r,rd)) (hg:(eqGuard op t x y v1 v2).run P w= .ok () w)
  (he: ∀e j,P.underlying t=some (.pointer e)→P.info? e=some j→(binOp .eql t v1 v2).run P w= .ok (.bool b) w∧(binOp .neq t v1 v2).run P w= .ok (.bool (!b)) w):
  dz P ((do eqGuard op t x y v1 v2;binOp op t v1 v2:Sem Value).run P w) w I β hp B M w0 r:=by
 unfold ptrEq at h
 cases hu:P.underlying t with
 | none=>rw[hu] at h;cases h
 | some d=>
  rw[hu] at h
  cases d<;>simp only at h<;>first|(cases h;done)|skip
  rename_i e
  obtain ⟨h1,h2⟩:=aP h
  obtain ⟨j,hj⟩:=AN.1 h1
  obtain ⟨k1,k2⟩:=he e j hu hj
  cases op<;>simp only at h2<;>first|(cases h2;done)|skip
  ·obtain rfl:=aY h2
   exact .same S (by simp only[Sem.run_bind,hg,Result.andThen_ok,k1]) .bool
  ·obtain rfl:=aY h2
   exact .same S (by simp only[Sem.run_bind,hg,Result.andThen_ok,k2]) .bool
theorem adA {b n:Nat}:(∀b',b'≠b→(w.freeze ⟨b,0,none⟩ n).heap[b']? =w.heap[b']?)∧bsize (w.freeze ⟨b,0,none⟩ n) b=bsize w b∧w.heap.size≤(w.freeze ⟨b,0,none⟩ n).heap.size∧(w.freeze ⟨b,0,none⟩ n).os=w.os∧(w.freeze ⟨b,0,none⟩ n).output=w.output:=by
 unfold World.freeze
 split
 ·exact ⟨fun _ _=>rfl,rfl,bN _,rfl,rfl⟩
 ·refine ⟨fun b' hb=> ?_,?_,by simp,rfl,rfl⟩
  ·simp only[AO]
   rw[ah (fun e=>hb e.symm)]
  ·simp only[bsize,AO,cy]
   cases w.heap[b]? with
   | none=>rfl
   | some o=>cases o<;>rfl
theorem adB {e:TypeId} (hb:isByte P e=true):P.underlying e=some (.int .u8):=by
 unfold isByte at hb
 split at hb
 ·assumption
 ·cases hb
theorem adC (S:aO P w I β hp B M w0) {ts:Array TypeId} {ty e:TypeId} {v:Value} {id:Nat} {es:List V} {fz:Bool} (hv:au P w I β hp v (.whole e id)) (ai:hp id=some (.arr e es fz)) (h0:0<es.length):
  dz P ((Builtin.unsafeSliceData_ ts ty #[v]).run P w) w I β hp B M w0 ⟨.ptr id 0 0,[]⟩:=by
 cases hv with
 | eZ h=>rw[ai] at h;cases h
 | ep h _=>rw[ai] at h;cases h;simp at h0
 | fj h _ _ _ _=>rw[ai] at h;cases h
 | @whole _ _ aW ox b cap h hb cF hle hm=>
  rw[ai] at h;cases h
  refine .same S (Lib.run_unsafeSliceData_row w ts ty ⟨b,0,none⟩ es.length cap (by omega)) ?_
  have:=au.ptr (P:=P) (w:=w) (I:=I) (β:=β) (i:=0) (c:=0) ai (by simp) hb
  simpa using this
theorem adD (S:aO P w I β hp B M w0) {t u ty e:TypeId} {vx:Value} {id:Nat} {n:Int} {es:List V} (hu:P.underlying t=some (.pointer e)) (hb:isByte P e=true) (hv:au P w I β hp vx (.ptr id 0 0))
  (ai:hp id=some (.arr e es false)) (h0:0<n) (hn:n≤es.length) (hm:n.toNat≤AX) (mz:(es.take n.toNat).all KG=true):dz P ((Builtin.unsafeString_ #[t,u] ty #[vx,.int .i64 n]).run P w) w I β hp B M w0 ⟨.str (ow (es.take n.toNat)),[(id,.dead)]⟩:=by
 obtain ⟨b,LP,rfl⟩:=hv.iU ai (by simp)
 have he:P.underlying e=some (.int .u8):=by
  unfold isByte at hb
  split at hb
  ·assumption
  ·cases hb
 have oL:b7 P e=false:=by simp[b7,he]
 have hr:=S.h.rel id _ ai
 rw[LP] at hr
 cases hr with
 | er aE=>cases aE
 | @arr _ _ _ b1 Ca ax mB hh hs hI dp cP=>
  cases mB
  have h1:P.cellsOf e=1:=by rw[←(ld ax).1,Bm oL];rfl
  have aR:=S.aca ai (by simp) LP
  have hl:(ow (es.take n.toNat)).length=n.toNat:=by simp[ow];omega
  have BN:n=((ow (es.take n.toNat)).length:Nat):=by rw[hl];omega
  have dx:=Lib.run_unsafeString_row (P:=P) w t u ty e hu h1 b Ca.size (by simp[World.shape?,hh]) (ow (es.take n.toNat)) (fun h=>by rw[h] at hl;simp at hl;omega) (by rw[hl];rw[h1] at hs;omega) (by rw[hl];unfold AX at hm;omega) (fun j x hx=>by
   have hj:j<n.toNat:=by
    have:=(bH.1 hx).1
    rw[hl] at this;exact this
   have jl:j<es.length:=by omega
   simp only[ow,hY,fU hj,bZ jl,Option.map_some,eN] at hx
   obtain ⟨v,xY,bI⟩:=cP j 0 es[j] e (bZ jl) (by simp[bp,oL]) (by omega)
   rw[h1] at xY
   simp only[cb,oL,cond_false] at bI
   have:=LN he bI
   have hr:=gz.1 mz es[j] (kg (by rw[fU hj];exact bZ jl))
   simp only[KG,aU,dX] at hr
   have oG:(x.toNat:Int)=es[j].toInt:=by
    rw[←hx]
    have:es[j].toInt.toNat<256:=by omega
    simp only[UInt8.toNat_ofNat']
    omega
   rw[oE,cell?_cells hh,oG]
   rw[show 0+j=j*1+0 by omega,xY,this])
  obtain ⟨f1,f2,f3,f4,f5⟩:=adA (w:=w) (b:=b) (n:=n.toNat)
  obtain ⟨k1,k2⟩:=Gx (w':=w.freeze ⟨b,0,none⟩ n.toNat) S ai (by simp) (blk':= .dead) (by trivial) LP (dp rfl) (by simp) f1 f2 f3 ⟨f4,f5⟩ (fun _=> .dead)
  rw[←BN,hl] at dx
  refine ⟨.string ⟨(ow (es.take n.toNat)).toArray⟩,_,I,β,?_,k1,k2,.str ?_⟩
  ·simpa using dx
  ·rfl
def LQ:Op→Bool
 | .call {callee:= .value (.func _),..}=>true
 | .call {callee:= .value (.tmp _),..}=>true
 | .defer _=>true
 | _=>false
theorem qD.val {o:Oper} {a:Act} {s:Sem Value} {r:R} (he:execOp a.eval o=(do Pure.pure (Next.value (←s)))) (h:dz P (s.run P w) w I β hp B M w0 r):qD P ((execOp a.eval o).run P w) w I β hp B M w0 r:=by
 rw[he];exact h.op
theorem adE {A:cW} (S:aO P w I β hp B M w0) (hg:iE P A.aL w I) {a:Act} {sl:Nat→V} (hs:lJ P w I β hp a sl) {ix nb:Nat} {o:Oper} (LR:LQ o.op=false) {r:R} {rd:List Nat}
  (h:(gB P A sl ix nb o).run C hp=some (r,rd)):qD P ((execOp a.eval o).run P w) w I β hp B M w0 r:=by
 obtain ⟨dst,op,ty,pos,after,guard⟩:=o
 cases op<;>simp only[gB] at h<;>first|(cases h;done)|skip
 case move x=>
  obtain rfl:=aY h
  exact ⟨_,w,I,β,.inl (by simp[execOp]),Le.refl w I β hp,S,hs.ev hg ty x⟩
 case assign x=>
  obtain rfl:=aY h
  exact ⟨_,w,I,β,.inl (by simp[execOp]),Le.refl w I β hp,S,hs.ev hg ty x⟩
 case pick c x y=>
  have hc:=hs.ev hg ty c
  cases vf:bc P A.aL ty sl c<;>rw[vf] at h hc<;>simp only at h<;>first|(cases h;done)|skip
  rename_i t
  have adF:=hc.lf
  have hx:=hs.ev hg ty x
  have hy:=hs.ev hg ty y
  have fin: ∀z:V,au P w I β hp (if t then a.eval x else a.eval y) z→qD P ((execOp a.eval ⟨dst,.pick c x y,ty,pos,after,guard⟩).run P w) w I β hp B M w0 ⟨z,[]⟩:=by
   intro z hz
   exact ⟨_,w,I,β,.inl (by simp[execOp,adF,asBool]),Le.refl w I β hp,S,hz⟩
  cases TO:gone (bc P A.aL ty sl x) with
  | true=>
   rw[TO] at h
   obtain ⟨h1,h⟩:=aP h
   obtain rfl:=aY h
   have:t=false:=by simpa using h1
   subst this
   refine fin _ ?_
   simpa using hy
  | false=>
   rw[TO] at h
   simp only[cond_false] at h
   cases TP:gone (bc P A.aL ty sl y) with
   | true=>
    rw[TP] at h
    obtain ⟨h1,h⟩:=aP h
    obtain rfl:=aY h
    subst h1
    refine fin _ ?_
    simpa using hx
   | false=>
    rw[TP] at h
    obtain rfl:=aY h
    exact fin _ (SB hx hy)
 case makeFunc fn x y=>
  cases fn<;>simp only[gB] at h<;>first|(cases h;done)|skip
  rename_i f
  obtain rfl:=aY h
  refine ⟨.func (.func f) (x.map a.eval) (y.map a.eval),w,I,β,.inl (by simp[execOp,Instr.makeFunc]),Le.refl w I β hp,S,.fn (by simp) (fun j v z hj hz=> ?_) (by simp) (fun j v z hj hz=> ?_)⟩
  ·rw[Array.getElem?_map] at hj
   rw[hY,s9] at hz
   cases hx:x[j]? with
   | none=>rw[hx] at hj;cases hj
   | some o1=>
    rw[hx] at hj hz
    cases hj
    cases hz
    exact hs.ev hg ty o1
  ·rw[Array.getElem?_map] at hj
   rw[hY,s9] at hz
   cases hx:y[j]? with
   | none=>rw[hx] at hj;cases hj
   | some o1=>
    rw[hx] at hj hz
    cases hj
    cases hz
    exact hs.ev hg ty o1
 case defer c=>cases LR
 case makeMap t res=>
  cases res with
  | some x=>cases h
  | none=>exact .val rfl (adj S h)
 case lookup t m k ok=>
  cases ht:mn P t with
  | none=>rw[ht] at h;cases h
  | some q=>
   obtain ⟨kt,vt⟩:=q
   rw[ht] at h
   exact .val (s:=Instr.lookup t (a.eval m) (a.eval k) ok) rfl (adi S ht (hs.ev hg t m) (hs.ev hg kt k) h)
 case mapUpdate t m k x=>
  cases ht:mn P t with
  | none=>rw[ht] at h;cases h
  | some q=>
   obtain ⟨kt,vt⟩:=q
   rw[ht] at h
   have:=TF S ht (hs.ev hg t m) (hs.ev hg kt k) (hs.ev hg vt x) h
   exact this.op
 case insert t m k x=>
  cases ht:mn P t with
  | none=>rw[ht] at h;cases h
  | some q=>
   obtain ⟨kt,vt⟩:=q
   rw[ht] at h
   have:=TF S ht (hs.ev hg t m) (hs.ev hg kt k) (hs.ev hg vt x) h
   exact this.op
 case alloc e=>
  exact .val rfl (acI S h)
 case box e x=>
  exact .val rfl (acJ S (hs.ev hg e x) h)
 case build t ps=>exact .val rfl (acL S hs hg h)
 case buildSlice t len ps=>
  cases hu:P.underlying t with
  | none=>rw[hu] at h;cases h
  | some d=>
   rw[hu] at h
   cases d<;>simp only at h<;>first|(cases h;done)|skip
   exact .val rfl (acR S hs hg hu h)
 case load t x=>exact .val rfl (acq S (hs.ev hg ty x) h)
 case store t x y=>
  have:=acH S (hs.ev hg ty x) (hs.ev hg t y) h
  exact this.op
 case nilCheck x=>
  have hx:=hs.ev hg ty x
  cases gp:bc P A.aL ty sl x<;>rw[gp] at h hx<;>simp only at h<;>first|(cases h;done)|skip
  ·obtain ⟨⟨blk,ai,hd⟩,l,h⟩:=xI h
   obtain rfl:=aY h
   have cU:=hx
   obtain ⟨b,hb,he⟩:=hx.iU ai hd
   rw[he] at cU
   exact ⟨_,w,I,β,.inl (by simp only[execOp,he];rfl),Le.refl w I β hp,S,cU⟩
  ·obtain rfl:=aY h
   have cU:=hx
   obtain ⟨b,o,he,_⟩:=hx.GA
   rw[he] at cU
   exact ⟨_,w,I,β,.inl (by simp only[execOp,he];rfl),Le.refl w I β hp,S,cU⟩
  ·obtain ⟨e0,es,av,l,ai,h1,h2,h3,h⟩:=pw h
   obtain rfl:=aY h
   have cU:=hx
   obtain ⟨b,o,he,_⟩:=hx.Sz ai h1 h2 h3
   rw[he] at cU
   exact ⟨_,w,I,β,.inl (by simp only[execOp,he];rfl),Le.refl w I β hp,S,cU⟩
 case binOp op t x y yt=>
  have hx:=hs.ev hg t x
  have hy:=hs.ev hg t y
  refine .val (s:=do eqGuard op t x y (a.eval x) (a.eval y);binOp op t (a.eval x) (a.eval y)) rfl ?_
  cases gp:bc P A.aL t sl x<;>cases tK:bc P A.aL t sl y<;>rw[gp,tK] at h<;>rw[gp] at hx<;>rw[tK] at hy<;>first|(simp only[kX] at h;cases h;done)|skip
  ·rw[hx.eD,hy.eD]
   have:=acg S h
   simpa[acd] using this
  ·rw[hx.lf,hy.lf]
   have:=aci S h
   simpa[ace] using this
  ·obtain ⟨s1,e1,l1⟩:=hx.ng
   obtain ⟨s2,e2,l2⟩:=hy.ng
   rw[e1,e2]
   rw[←l1,←l2] at h
   have:=acj (t:=t) S h
   simpa[acf] using this
  ·obtain ⟨cs,e1,h1,h2⟩:=hx.lL
   obtain ⟨ds,e2,h3,h4⟩:=hy.lL
   rw[e1,e2]
   exact ack S h1 h3 h2 h4 h
  ·
   simp only[kX] at h
   obtain ⟨h1,h2⟩:=aP h
   clear h
   simp only[aU,bj] at h1
   obtain ⟨rfl,rfl,rfl⟩:=h1
   obtain ⟨⟨blk,ai,hd⟩,l,h⟩:=xI h2
   obtain ⟨b,hb,e1⟩:=hx.iU ai hd
   obtain ⟨b',aE,e2⟩:=hy.iU ai hd
   rw[hb] at aE;cases aE
   rw[e1,e2]
   exact G6 S h (by cases op<;>simp[eqGuard]) fun e j he hj=>⟨run_eql_ptr_same w _ he hj,Lib.run_neq_ptr_same w _ he hj⟩
  ·simp only[kX] at h
   obtain ⟨⟨blk,ai,hd⟩,l,h⟩:=xI h
   obtain ⟨b,_,e1⟩:=hx.iU ai hd
   rw[e1,hy.G5]
   exact G6 S h (by cases op<;>simp[eqGuard]) fun e j he hj=>⟨adu w t e _ he,adv w t e _ he⟩
  ·simp only[kX] at h
   obtain ⟨⟨blk,ai,hd⟩,l,h⟩:=xI h
   obtain ⟨b,_,e1⟩:=hy.iU ai hd
   rw[e1,hx.G5]
   exact G6 S h (by cases op<;>simp[eqGuard]) fun e j he hj=>⟨adw w t e _ he,adx w t e _ he⟩
  ·simp only[kX] at h
   rw[hx.G5,hy.G5]
   exact G6 S h (by cases op<;>simp[eqGuard]) fun e j he hj=>⟨ady w t e he,adz w t e he⟩
  ·
   simp only[kX] at h
   obtain ⟨l,h⟩:=run_get h
   split at h
   ·rename_i t2 es ai
    obtain ⟨b,hb⟩:=hx.adn ai
    rw[hy.LM,hb]
    exact TJ (a:=some b) S x y h
   ·cases h
  ·simp only[kX] at h
   rw[hx.LM,hy.LM]
   exact TJ (a:=none) S x y h
 case unOp op t x=>exact .val rfl (acm S (hs.ev hg ty x) h)
 case convert src dst x=>
  have hx:=hs.ev hg ty x
  refine .val (s:=convert src dst (a.eval x)) rfl ?_
  cases jy:P.underlying src with
  | none=>rw[jy] at h;cases h
  | some d1=>
   cases pI:P.underlying dst with
   | none=>rw[jy,pI] at h;cases d1<;>cases h
   | some d2=>
    rw[jy,pI] at h
    have iD: ∀{b:Nat} {T:TypeId} {cs:List V} {id:Nat},hp id=some (.var T cs)→β id=some b→w.shape? b=some (T,cs.length):=by
     intro b T cs id ai hb
     have hr:=S.h.rel id _ ai
     rw[hb] at hr
     cases hr with
     | var aE hh bh _ _ _=>cases aE;simp[World.shape?,hh,bh]
    cases d1<;>(try (cases d2<;>cases h;done))
    ·cases d2<;>(try (cases h;done))
     rename_i k1 k2
     cases gp:bc P A.aL ty sl x<;>rw[gp] at h hx<;>simp only at h<;>first|(cases h;done)|skip
     obtain rfl:=aY h
     rw[hx.eD]
     exact .same S (by simp[convert,run_underlying jy,run_underlying pI,Conv.intToInt]) .int
    ·cases d2<;>(try (cases h;done))
     rename_i u
     cases gp:bc P A.aL ty sl x<;>rw[gp] at h hx<;>simp only at h<;>first|(cases h;done)|skip
     rename_i id i c
     obtain ⟨l,h1⟩:=run_get h
     cases ai:hp id with
     | none=>rw[ai] at h1;cases h1
     | some blk=>
      rw[ai] at h1
      cases blk<;>simp only at h1<;>first|(cases h1;done)|skip
      rename_i T cs
      obtain ⟨h2,h3⟩:=aP h1
      simp only[aU,bj] at h2
      obtain ⟨rfl,h4,h5⟩:=h2
      obtain ⟨b,hb,e1⟩:=hx.iU ai (by simp)
      obtain rfl:=aY h3
      obtain ⟨j,hj⟩:=AN.1 h4
      have cU:=hx
      rw[e1] at cU⊢
      exact .same S (Lib.run_from_unsafe w _ jy pI hj (iD ai hb) (by simpa using h5)) cU
    ·cases d2<;>(try (cases h;done))
     rename_i t
     cases gp:bc P A.aL ty sl x<;>rw[gp] at h hx<;>simp only at h<;>first|(cases h;done)|skip
     rename_i id i c
     obtain ⟨l,h1⟩:=run_get h
     cases ai:hp id with
     | none=>rw[ai] at h1;cases h1
     | some blk=>
      rw[ai] at h1
      cases blk<;>simp only at h1<;>first|(cases h1;done)|skip
      rename_i T cs
      obtain ⟨h2,h3⟩:=aP h1
      simp only[aU,bj,lB] at h2
      obtain ⟨rfl,h4,h5⟩:=h2
      obtain ⟨b,hb,e1⟩:=hx.iU ai (by simp)
      obtain rfl:=aY h3
      cases hj:P.info? t with
      | none=>rw[hj] at h5;cases h5
      | some j=>
       rw[hj] at h5
       simp only[pf] at h5
       have h6:j.size≠0:=fun e=>by rw[e] at h5;cases h5
       have cU:=hx
       rw[e1] at cU⊢
       exact .same S (Lib.run_to_unsafe w _ jy pI hj h6 (iD ai hb) (by simpa using h4)) cU
    ·rename_i e
     cases d2<;>(try (cases h;done))
     simp only at h
     cases he:P.underlying e with
     | none=>rw[he] at h;cases h
     | some d3=>
      rw[he] at h
      cases d3<;>(try (cases h;done))
      rename_i k
      cases k<;>(try (cases h;done))
      exact adt S jy he pI hx h
 case fieldAddr s x f=>exact .val rfl (acn S (hs.ev hg ty x) h)
 case field s x f=>exact .val rfl (ac3 S (hs.ev hg ty x) h)
 case indexAddr t x y=>exact .val rfl (ac9 S (hs.ev hg ty x) (hs.ev hg 0 y) h)
 case index t x y=>
  have hx:=hs.ev hg ty x
  have hy:=hs.ev hg 0 y
  refine .val (s:=Instr.index t (a.eval x) (a.eval y)) rfl ?_
  cases hu:P.underlying t with
  | none=>rw[hu] at h;cases h
  | some d=>
   rw[hu] at h
   cases d<;>(try (cases h;done))
   cases gp:bc P A.aL ty sl x<;>rw[gp] at h hx<;>(try (cases h;done))
   cases tK:bc P A.aL 0 sl y<;>rw[tK] at h hy<;>(try (cases h;done))
   obtain ⟨s,e1,l1⟩:=hx.ng
   rw[e1,hy.eD]
   exact ac5 S hu l1 h
 case slice t x lo hi mx=>
  cases mx with
  | some m=>
   simp only at h
   refine .val (s:=Instr.sliceAt t (a.eval x) (lo.map a.eval) (hi.map a.eval) (some (a.eval m))) (by simp[execOp]) (ac8 S (hs.ev hg ty x) (fun hy=> ?_) (fun y hy=> ?_) (fun y hy=> ?_) h)
   ·cases lo with
    | none=>rfl
    | some l=>cases hy
   ·cases hi with
    | none=>cases hy
    | some l=>cases hy;exact ⟨_,rfl,hs.ev hg 0 l⟩
   ·cases hy;exact ⟨_,rfl,hs.ev hg 0 m⟩
  | none=>
   simp only at h
   have plain:(F9 P t (bc P A.aL ty sl x) (lo.map (bc P A.aL 0 sl)) (hi.map (bc P A.aL 0 sl))).run C hp=some (r,rd)→qD P ((execOp a.eval ⟨dst,.slice t x lo hi none,ty,pos,after,guard⟩).run P w) w I β hp B M w0 r:=by
    intro h
    refine .val (s:=Instr.sliceAt t (a.eval x) (lo.map a.eval) (hi.map a.eval) none) (by simp[execOp]) (ac7 S (hs.ev hg ty x) (fun y hy=> ?_) (fun y hy=> ?_) (fun hy=> ?_) (fun hy=> ?_) h)
    ·cases lo with
     | none=>cases hy
     | some l=>cases hy;exact ⟨_,rfl,hs.ev hg 0 l⟩
    ·cases hi with
     | none=>cases hy
     | some l=>cases hy;exact ⟨_,rfl,hs.ev hg 0 l⟩
    ·cases lo with
     | none=>rfl
     | some l=>cases hy
    ·cases hi with
     | none=>rfl
     | some l=>cases hy
   have tr:(Ga P nb t (bc P A.aL ty sl x) (lo.map (bc P A.aL 0 sl)) (hi.map (bc P A.aL 0 sl))).run C hp=some (r,rd)→qD P ((execOp a.eval ⟨dst,.slice t x lo hi none,ty,pos,after,guard⟩).run P w) w I β hp B M w0 r:=by
    intro h
    refine .val (s:=Instr.sliceAt t (a.eval x) (lo.map a.eval) (hi.map a.eval) none) (by simp[execOp]) (adb S (hs.ev hg ty x) (fun y hy=> ?_) (fun hy=> ?_) h)
    ·cases hi with
     | none=>cases hy
     | some l=>cases hy;exact ⟨_,rfl,hs.ev hg 0 l⟩
    ·cases lo with
     | none=>rfl
     | some l=>cases hy
   cases dst with
   | none=>exact plain h
   | some d=>
    simp only at h
    cases TQ:kV A.xn d with
    | true=>rw[TQ] at h;exact tr h
    | false=>rw[TQ] at h;exact plain h
 case extract x i=>
  have hx:=hs.ev hg ty x
  cases gp:bc P A.aL ty sl x<;>rw[gp] at h hx<;>simp only at h<;>first|(cases h;done)|skip
  exact .val (s:=Instr.extract (a.eval x) i) rfl (ac4 S hx h)
 case makeSlice t l c=>
  have hl:=hs.ev hg 0 l
  have hc:=hs.ev hg 0 c
  refine .val (s:=Instr.makeSlice t (a.eval l) (a.eval c)) rfl ?_
  cases hu:P.underlying t with
  | none=>rw[hu] at h;cases h
  | some d=>
   rw[hu] at h
   cases d<;>(try (cases h;done))
   cases LU:bc P A.aL 0 sl l<;>rw[LU] at h hl<;>(try (cases h;done))
   cases vf:bc P A.aL 0 sl c<;>rw[vf] at h hc<;>(try (cases h;done))
   rw[hl.eD,hc.eD]
   cases dst with
   | none=>exact Tf S hu h
   | some d=>
    simp only at h
    cases hg:kV A.xn d with
    | true=>rw[hg] at h;exact acT S hu h
    | false=>rw[hg] at h;exact Tf S hu h
 case call c=>
  obtain ⟨callee,args,argTypes⟩:=c
  cases callee with
  | invoke r m=>cases h
  | value f=>
   cases f with
   | func f=>cases LR
   | tmp f=>cases LR
   | _=>cases h
  | builtin b=>
   have one: ∀{x:Operand},args.toList=[x]→args= #[x]:=fun h=>by rw[←Array.toArray_toList (xs:=args),h]
   have sf: ∀(s:Array TypeId→TypeId→Array Value→Sem Value),builtin b argTypes ty (args.map fun| .const _=>true|_=>false) (args.map a.eval)=(do Pure.pure (Next.value (←s argTypes ty (args.map a.eval))))→
     execOp a.eval ⟨dst,.call ⟨.builtin b,args,argTypes⟩,ty,pos,after,guard⟩=(do Pure.pure (Next.value (←s argTypes ty (args.map a.eval)))):=by
    intro s hb
    simp only[execOp,resolve,pure_bind,invoke]
    exact hb
   cases b<;>(try (cases h;done))
   case append=>
    simp only at h
    cases ha:args.toList with
    | nil=>rw[ha] at h;cases h
    | cons x l=>
     cases l with
     | nil=>rw[ha] at h;cases h
     | cons y l2=>
      cases l2 with
      | cons _ _=>rw[ha] at h;cases h
      | nil=>
       cases dP:argTypes.toList with
       | nil=>rw[ha,dP] at h;cases h
       | cons t l3=>
        cases l3 with
        | nil=>rw[ha,dP] at h;cases h
        | cons u l4=>
         cases l4 with
         | cons _ _=>rw[ha,dP] at h;cases h
         | nil=>
          rw[ha,dP] at h
          simp only at h
          have e1:args= #[x,y]:=by rw[←Array.toArray_toList (xs:=args),ha]
          have e2:argTypes= #[t,u]:=by rw[←Array.toArray_toList (xs:=argTypes),dP]
          cases hu:P.underlying t with
          | none=>rw[hu] at h;cases h
          | some d=>
           rw[hu] at h
           cases d<;>(try (cases h;done))
           cases hc:Nat.beq t u with
           | true=>
            rw[hc] at h
            rw[bj] at hc
            subst hc
            have:=acV (ty:=ty) S hu (hs.ev hg t x) (hs.ev hg t y) h
            refine .val (sf Builtin.append_ rfl) ?_
            rw[e1,e2]
            simpa using this
           | false=>
            rw[hc] at h
            simp only[cond_false] at h
            have hy:=hs.ev hg u y
            cases pH:P.underlying u with
            | none=>rw[pH] at h;cases h
            | some du=>
             rw[pH] at h
             cases du<;>(try (cases h;done))
             cases tK:bc P A.aL u sl y<;>rw[tK] at h hy<;>(try (cases h;done))
             simp only at h
             obtain ⟨hb,h⟩:=aP h
             obtain ⟨s1,q1,q2⟩:=hy.ng
             subst q2
             have:=ads (ty:=ty) S hu pH (adB hb) (hs.ev hg t x) h
             refine .val (sf Builtin.append_ rfl) ?_
             rw[e1,e2]
             simpa[q1] using this
   case len=>
    simp only at h
    cases ha:args.toList with
    | nil=>rw[ha] at h;cases h
    | cons x l=>
     cases l with
     | cons _ _=>rw[ha] at h;cases h
     | nil=>
      cases dP:argTypes.toList with
      | nil=>rw[ha,dP] at h;cases h
      | cons t l3=>
       cases l3 with
       | cons _ _=>rw[ha,dP] at h;cases h
       | nil=>
        rw[ha,dP] at h
        simp only at h
        have e1:args= #[x]:=by rw[←Array.toArray_toList (xs:=args),ha]
        have e2:argTypes= #[t]:=by rw[←Array.toArray_toList (xs:=argTypes),dP]
        have hx:=hs.ev hg ty x
        refine .val (sf Builtin.len_ rfl) ?_
        rw[e1,e2]
        cases hu:P.underlying t with
        | none=>rw[hu] at h;cases h
        | some d=>
         rw[hu] at h
         cases d<;>(try (cases h;done))
         ·cases gp:bc P A.aL ty sl x<;>rw[gp] at h hx<;>(try (cases h;done))
          have:=SC (t:=t) (ty:=ty) S hx (fun l hl=>hu) (fun hn=>absurd rfl (hn _)) h
          simpa using this
         ·have h2:(∀l,bc P A.aL ty sl x≠ .str l)∧(F4 P (bc P A.aL ty sl x)).run C hp=some (r,rd):=by
           cases gp:bc P A.aL ty sl x<;>rw[gp] at h<;>first|(cases h;done)|exact ⟨fun l=>by simp,h⟩
          have:=SC (t:=t) (ty:=ty) S hx (fun l hl=>absurd hl (h2.1 l)) (fun _=>⟨_,hu⟩) h2.2
          simpa using this
         ·have h2:(F8 (bc P A.aL ty sl x)).run C hp=some (r,rd):=by
           cases gp:bc P A.aL ty sl x<;>rw[gp] at h<;>exact h
          have:=adm (t:=t) (ty:=ty) S hu hx h2
          simpa using this
   case unsafeSliceData=>
    simp only at h
    cases ha:args.toList with
    | nil=>rw[ha] at h;cases h
    | cons x l=>
     cases l with
     | cons _ _=>rw[ha] at h;cases h
     | nil=>
      rw[ha] at h
      simp only at h
      have e1:args= #[x]:=by rw[←Array.toArray_toList (xs:=args),ha]
      have hx:=hs.ev hg ty x
      refine .val (sf Builtin.unsafeSliceData_ rfl) ?_
      rw[e1]
      cases gp:bc P A.aL ty sl x<;>rw[gp] at h hx<;>simp only at h<;>first|(cases h;done)|skip
      rename_i e id
      obtain ⟨l2,h1⟩:=run_get h
      cases ai:hp id with
      | none=>rw[ai] at h1;cases h1
      | some blk=>
       rw[ai] at h1
       cases blk<;>simp only at h1<;>first|(cases h1;done)|skip
       rename_i e' es fz
       obtain ⟨h2,h3⟩:=aP h1
       simp only[aU,bj,lB] at h2
       obtain ⟨rfl,h4⟩:=h2
       obtain rfl:=aY h3
       have:=adC (ts:=argTypes) (ty:=ty) S hx ai h4
       simpa using this
   case unsafeString=>
    simp only at h
    cases ha:args.toList with
    | nil=>rw[ha] at h;cases h
    | cons x l=>
     cases l with
     | nil=>rw[ha] at h;cases h
     | cons y l2=>
      cases l2 with
      | cons _ _=>rw[ha] at h;cases h
      | nil=>
       cases dP:argTypes.toList with
       | nil=>rw[ha,dP] at h;cases h
       | cons t l3=>
        cases l3 with
        | nil=>rw[ha,dP] at h;cases h
        | cons u l4=>
         cases l4 with
         | cons _ _=>rw[ha,dP] at h;cases h
         | nil=>
          rw[ha,dP] at h
          simp only at h
          have e1:args= #[x,y]:=by rw[←Array.toArray_toList (xs:=args),ha]
          have e2:argTypes= #[t,u]:=by rw[←Array.toArray_toList (xs:=argTypes),dP]
          have hx:=hs.ev hg ty x
          have hy:=hs.ev hg ty y
          cases hu:P.underlying t with
          | none=>rw[hu] at h;cases h
          | some d=>
           rw[hu] at h
           cases d<;>(try (cases h;done))
           rename_i e
           cases gp:bc P A.aL ty sl x<;>rw[gp] at h hx<;>(try (cases h;done))
           cases tK:bc P A.aL ty sl y<;>rw[tK] at h hy<;>(try (cases h;done))
           rename_i id i c k n
           cases k<;>(try (cases h;done))
           simp only at h
           obtain ⟨l2,h1⟩:=run_get h
           cases ai:hp id with
           | none=>rw[ai] at h1;cases h1
           | some blk=>
            rw[ai] at h1
            cases blk<;>simp only at h1<;>first|(cases h1;done)|skip
            rename_i e' es fz
            cases fz<;>simp only at h1<;>first|(cases h1;done)|skip
            obtain ⟨h2,h3⟩:=aP h1
            simp only[aU,bj,dN,dX] at h2
            obtain ⟨rfl,h4,rfl,rfl,h5,h6,h7,h8⟩:=h2
            obtain rfl:=aY h3
            have:=adD (u:=u) (ty:=ty) S hu h4 hx ai h5 h6 h7 h8
            refine .val (sf Builtin.unsafeString_ rfl) ?_
            rw[e1,e2]
            simpa[hy.eD] using this
   case copy=>
    simp only at h
    cases ha:args.toList with
    | nil=>rw[ha] at h;cases h
    | cons x l=>
     cases l with
     | nil=>rw[ha] at h;cases h
     | cons y l2=>
      cases l2 with
      | cons _ _=>rw[ha] at h;cases h
      | nil=>
       cases dP:argTypes.toList with
       | nil=>rw[ha,dP] at h;cases h
       | cons t l3=>
        cases l3 with
        | nil=>rw[ha,dP] at h;cases h
        | cons u l4=>
         cases l4 with
         | cons _ _=>rw[ha,dP] at h;cases h
         | nil=>
          rw[ha,dP] at h
          simp only at h
          have e1:args= #[x,y]:=by rw[←Array.toArray_toList (xs:=args),ha]
          have e2:argTypes= #[t,u]:=by rw[←Array.toArray_toList (xs:=argTypes),dP]
          cases hu:P.underlying t with
          | none=>rw[hu] at h;cases h
          | some d=>
           rw[hu] at h
           cases d<;>(try (cases h;done))
           have:=ac0 (u:=u) (ty:=ty) S hu (hs.ev hg t x) (hs.ev hg u y) h
           refine .val (sf Builtin.copy_ rfl) ?_
           rw[e1,e2]
           simpa using this
   case clear=>
    simp only at h
    cases ha:args.toList with
    | nil=>rw[ha] at h;cases h
    | cons x l=>
     cases l with
     | cons _ _=>rw[ha] at h;cases h
     | nil=>
      cases dP:argTypes.toList with
      | nil=>rw[ha,dP] at h;cases h
      | cons t l3=>
       cases l3 with
       | cons _ _=>rw[ha,dP] at h;cases h
       | nil=>
        rw[ha,dP] at h
        simp only at h
        have e1:args= #[x]:=by rw[←Array.toArray_toList (xs:=args),ha]
        have e2:argTypes= #[t]:=by rw[←Array.toArray_toList (xs:=argTypes),dP]
        cases hu:P.underlying t with
        | none=>rw[hu] at h;cases h
        | some d=>
         rw[hu] at h
         cases d<;>(try (cases h;done))
         have:=ac1 (ty:=ty) S hu (hs.ev hg t x) h
         refine .val (sf Builtin.clear_ rfl) ?_
         rw[e1,e2]
         simpa using this
   case max=>
    simp only at h
    cases ha:args.toList with
    | nil=>rw[ha] at h;cases h
    | cons x l=>
     rw[ha] at h
     simp only at h
     have:=Lx S true (vs:=l.map a.eval) (xs:=l.map (bc P A.aL ty sl)) (hs.ev hg ty x) (by simp) (fun j u y hu hy=>by
      simp only[hY] at hu hy
      cases hl:l[j]? with
      | none=>rw[hl] at hu;cases hu
      | some z=>rw[hl] at hu hy;cases hu;cases hy;exact hs.ev hg ty z) h
     refine .val (sf Builtin.max_ rfl) ?_
     simpa[Builtin.max_,ha] using this
   case min=>
    simp only at h
    cases ha:args.toList with
    | nil=>rw[ha] at h;cases h
    | cons x l=>
     rw[ha] at h
     simp only at h
     have:=Lx S false (vs:=l.map a.eval) (xs:=l.map (bc P A.aL ty sl)) (hs.ev hg ty x) (by simp) (fun j u y hu hy=>by
      simp only[hY] at hu hy
      cases hl:l[j]? with
      | none=>rw[hl] at hu;cases hu
      | some z=>rw[hl] at hu hy;cases hu;cases hy;exact hs.ev hg ty z) h
     refine .val (sf Builtin.min_ rfl) ?_
     simpa[Builtin.min_,ha] using this
end
section
variable {P:Program} {A:cW} {w w':World} {I I' I2:Nat→Prop} {μ β β':Nat→Option Nat} {hp hp':Nat→Option ao} {C:af} {B:Nat} {M:Nat→Prop} {w0:Start}
theorem yc: ∀{l m:List Nat},fh.pk l m=true→l=m
 | [],[],_=>rfl
 | [],_::_,h=>by cases h
 | _::_,[],h=>by cases h
 | a::l,b::m,h=>by
  simp only[fh.pk,aU,bj] at h
  rw[h.1,yc h.2]
@[simp] theorem TR (n:Nat):lF (eX n)=n:=by simp[lF,eX,V.toInt]
theorem G7: ∀(path:List (Nat × Nat)) (rest:List V),A5 (path.map (·.2)) ((path.map fun p=>eX p.1)++rest)=path
 | [],_=>rfl
 | p::l,rest=>by
  simp only[dZ,List.cons_append,A5,V.nth,TR,fm,eM,G7 l rest]
theorem G8 {l:LS} {x:V} {ds:List V} (h:fh l x=some ds):ds.length=l.size∧(l= .th∨∀rest,jt l (ds++rest)=x):=by
 cases l with
 | th=>simp only[fh,eN] at h;subst h;exact ⟨rfl,.inl rfl⟩
 | int k=>
  cases x<;>simp only[fh] at h<;>first|(cases h;done)|skip
  rename_i k' n
  by_cases hk:k=k'
  ·subst hk
   simp only[og,cond_true,eN] at h
   subst h
   exact ⟨rfl,.inr fun _=>rfl⟩
  ·simp[hk] at h
 | bool=>
  cases x<;>simp only[fh] at h<;>first|(cases h;done)|skip
  cases h
  exact ⟨rfl,.inr fun _=>rfl⟩
 | str=>
  cases x<;>simp only[fh] at h<;>first|(cases h;done)|skip
  cases h
  exact ⟨rfl,.inr fun _=>rfl⟩
 | list e=>
  cases x<;>simp only[fh] at h<;>first|(cases h;done)|skip
  rename_i e' es
  cases hb:Nat.beq e e' with
  | false=>rw[hb] at h;cases h
  | true=>
   rw[hb] at h
   rw[bj] at hb
   subst hb
   cases h
   exact ⟨rfl,.inr fun _=>rfl⟩
 | whole e j=>
  cases x<;>simp only[fh] at h<;>first|(cases h;done)|skip
  rename_i e' id
  cases hb:(Nat.beq e e'&&Nat.beq j id) with
  | false=>rw[hb] at h;cases h
  | true=>
   rw[hb] at h
   simp only[aU,bj] at hb
   obtain ⟨rfl,rfl⟩:=hb
   cases h
   exact ⟨rfl,.inr fun _=>rfl⟩
 | sub e j=>
  cases x<;>simp only[fh] at h<;>first|(cases h;done)|skip
  rename_i e' id o n
  cases hb:(Nat.beq e e'&&Nat.beq j id) with
  | false=>rw[hb] at h;cases h
  | true=>
   rw[hb] at h
   simp only[aU,bj] at hb
   obtain ⟨rfl,rfl⟩:=hb
   cases h
   exact ⟨rfl,.inr fun _=>by simp[jt,V.nth]⟩
 | ptr j=>
  cases x<;>simp only[fh] at h<;>first|(cases h;done)|skip
  rename_i id i c
  cases hb:(Nat.beq j id) with
  | false=>rw[hb] at h;cases h
  | true=>
   rw[hb] at h
   rw[bj] at hb
   subst hb
   cases h
   exact ⟨rfl,.inr fun _=>by simp[jt,V.nth]⟩
 | mi j i c=>
  cases x<;>simp only[fh] at h<;>first|(cases h;done)|skip
  rename_i id i' c'
  cases hb:(Nat.beq j id&&(Nat.beq i i'&&Nat.beq c c')) with
  | false=>rw[hb] at h;cases h
  | true=>
   rw[hb] at h
   simp only[aU,bj] at hb
   obtain ⟨rfl,rfl,rfl⟩:=hb
   cases h
   exact ⟨rfl,.inr fun _=>rfl⟩
 | nilS e=>
  cases x<;>simp only[fh] at h<;>first|(cases h;done)|skip
  rename_i e'
  cases hb:Nat.beq e e' with
  | false=>rw[hb] at h;cases h
  | true=>
   rw[hb] at h
   rw[bj] at hb
   subst hb
   cases h
   exact ⟨rfl,.inr fun _=>rfl⟩
 | eb=>
  cases x<;>simp only[fh] at h<;>first|(cases h;done)|skip
  cases h
  exact ⟨rfl,.inr fun _=>rfl⟩
 | c7 e j=>
  cases x<;>simp only[fh] at h<;>first|(cases h;done)|skip
  rename_i e' id
  cases hb:(Nat.beq e e'&&Nat.beq j id) with
  | false=>rw[hb] at h;cases h
  | true=>
   rw[hb] at h
   simp only[aU,bj] at hb
   obtain ⟨rfl,rfl⟩:=hb
   cases h
   exact ⟨rfl,.inr fun _=>rfl⟩
 | ei e=>
  cases x<;>simp only[fh] at h<;>first|(cases h;done)|skip
  rename_i e'
  cases hb:Nat.beq e e' with
  | false=>rw[hb] at h;cases h
  | true=>
   rw[hb] at h
   rw[bj] at hb
   subst hb
   cases h
   exact ⟨rfl,.inr fun _=>rfl⟩
 | FX k n=>
  cases x<;>simp only[fh] at h<;>first|(cases h;done)|skip
  rename_i k' m
  cases hb:(decide (k=k')&&decide (m=n)) with
  | false=>rw[hb] at h;cases h
  | true=>
   rw[hb] at h
   simp only[aU,dX] at hb
   obtain ⟨rfl,rfl⟩:=hb
   cases h
   exact ⟨rfl,.inr fun _=>rfl⟩
 | FY b=>
  cases x<;>simp only[fh] at h<;>first|(cases h;done)|skip
  rename_i c
  cases hb:decide (b=c) with
  | false=>rw[hb] at h;cases h
  | true=>
   rw[hb] at h
   obtain rfl:=ly hb
   cases h
   exact ⟨rfl,.inr fun _=>rfl⟩
 | row e j cs=>
  cases x<;>simp only[fh] at h<;>first|(cases h;done)|skip
  rename_i e' id ver path
  cases hb:(Nat.beq e e'&&(Nat.beq j id&&(Nat.beq ver 0&&fh.pk cs (path.map (·.2))))) with
  | false=>rw[hb] at h;cases h
  | true=>
   rw[hb] at h
   simp only[aU,bj] at hb
   obtain ⟨rfl,rfl,rfl,pA⟩:=hb
   have:=yc pA
   subst this
   cases h
   exact ⟨by simp[LS.size],.inr fun rest=>by simp only[jt,G7]⟩
 | c6 j cs c=>
  cases x<;>simp only[fh] at h<;>first|(cases h;done)|skip
  rename_i id ver path i c'
  cases hb:(Nat.beq j id&&(Nat.beq ver 0&&(Nat.beq c c'&&fh.pk cs (path.map (·.2))))) with
  | false=>rw[hb] at h;cases h
  | true=>
   rw[hb] at h
   simp only[aU,bj] at hb
   obtain ⟨rfl,rfl,rfl,pA⟩:=hb
   have:=yc pA
   subst this
   cases h
   exact ⟨by simp[LS.size],.inr fun rest=>by simp only[jt,List.cons_append,V.nth,TR,fm,eM,G7]⟩
def LS.below (n:Nat) (x:V):Prop:= ∀id∈fi x,id<n
def TS:V→Prop
 | .agg _=>False
 | .bC _=>False
 | .fn .. =>False
 | .pref .. =>False
 | _=>True
theorem vm {c:Bool} {a d:List V} (h:(bif c then some a else none)=some d):c=true:=by
 cases c with
 | true=>rfl
 | false=>cases h
theorem adG {l:LS} {x:V} {ds:List V} {n:Nat} (h:fh l x=some ds) (hl:l≠ .th) (ax:l.ok n=true):TS x∧LS.below n x:=by
 cases l<;>cases x<;>simp only[fh] at h<;>first|(cases h;done)|(exact absurd rfl hl)|skip
 all_goals refine ⟨trivial,fun id ai=> ?_⟩
 all_goals simp only[fi,cV,List.not_mem_nil] at ai
 all_goals subst ai
 all_goals simp only[LS.ok,lB] at ax
 all_goals
  have hb:=vm h
  simp only[aU,bj] at hb
  omega
theorem au.adH {v:Value} {x:V} (h:au P w I β hp v x) (hx:TS x) (hs: ∀id∈fi x,hp' id=hp id∧β' id=β id):au P w I β' hp' v x:=by
 have one: ∀{id},id∈fi x→hp' id=hp id∧β' id=β id:=fun h=>hs _ h
 cases h with
 | undef=>exact .undef
 | int=>exact .int
 | bool=>exact .bool
 | str h=>exact .str h
 | list h=>exact .list h
 | nilS=>exact .nilS
 | agg=>exact hx.elim
 | bC=>exact hx.elim
 | eb=>exact .eb
 | fn=>exact hx.elim
 | pref=>exact hx.elim
 | eZ h=>exact .eZ ((one (by simp[fi])).1.trans h)
 | ia h=>exact .ia ((one (by simp[fi])).1.trans h)
 | la h=>exact .la ((one (by simp[fi])).1.trans h)
 | ep h hb=>exact .ep ((one (by simp[fi])).1.trans h) ((one (by simp[fi])).2.trans hb)
 | whole h hb a b c=>exact .whole ((one (by simp[fi])).1.trans h) ((one (by simp[fi])).2.trans hb) a b c
 | fj h hb a b c=>exact .fj ((one (by simp[fi])).1.trans h) ((one (by simp[fi])).2.trans hb) a b c
 | gX h hb=>exact .gX ((one (by simp[fi])).1.trans h) ((one (by simp[fi])).2.trans hb)
 | sub h hb a b c=>exact .sub ((one (by simp[fi])).1.trans h) ((one (by simp[fi])).2.trans hb) a b c
 | ptr h hd hb=>exact .ptr ((one (by simp[fi])).1.trans h) hd ((one (by simp[fi])).2.trans hb)
 | kj h sc=>exact .kj ((one (by simp[fi])).1.trans h) sc
 | km h sc=>exact .km ((one (by simp[fi])).1.trans h) sc
 | row h hb a b c d=>exact .row ((one (by simp[fi])).1.trans h) ((one (by simp[fi])).2.trans hb) a b c d
 | c6 h hb a b c d e=>exact .c6 ((one (by simp[fi])).1.trans h) ((one (by simp[fi])).2.trans hb) a b c d e
 | ei=>exact .ei
 | jk h=>exact .jk ((one (by simp[fi])).1.trans h)
 | c7 h hb=>exact .c7 ((one (by simp[fi])).1.trans h) ((one (by simp[fi])).2.trans hb)
theorem oM {a b:List V} {n:Nat} (h:a.length=n):(a++b).drop n=b:=by subst h;simp
def BO (n:Nat) (β:Nat→Option Nat) (hp:Nat→Option ao) (β':Nat→Option Nat) (hp':Nat→Option ao):Prop:= ∀id,id<n→hp' id=hp id∧β' id=β id
theorem TT {l:LS} {x:V} {ds:List V} {n:Nat} {v:Value} (h:fh l x=some ds) (ax:l.ok n=true) (jE:BO n β hp β' hp') (hv:au P w I β hp v x) (rest:List V):
  au P w I β' hp' v (jt l (ds++rest)):=by
 rcases (G8 h).2 with e|e
 ·subst e;exact .undef
 ·rw[e rest]
  by_cases hu:l= .th
  ·subst hu
   have:x= .undef:=(e rest).symm
   subst this
   exact .undef
  ·obtain ⟨h1,h2⟩:=adG h hu ax
   exact hv.adH h1 fun id ai=>jE id (h2 id ai)
theorem BP {n:Nat} (jE:BO n β hp β' hp'): ∀{ls:List LS} {xs:List V} {ds:List V},qx ls xs=some ds→ls.all (LS.ok n)=true→
  ds.length=kY ls∧(∀rest,(jc ls (ds++rest)).length=xs.length)∧
  ∀(rest:List V) (j:Nat) (v:Value) (y:V),(∀x,xs[j]? =some x→au P w I β hp v x)→(jc ls (ds++rest))[j]? =some y→au P w I β' hp' v y
 | [],[],ds,h,_=>by cases h;exact ⟨rfl,fun _=>rfl,fun rest j v y _ hy=>by simp[jc] at hy⟩
 | [],_::_,ds,h,_=>by cases h
 | _::_,[],ds,h,_=>by cases h
 | l::ls,x::xs,ds,h,ax=>by
  simp only[qx] at h
  obtain ⟨a,h1,h⟩:=bind_some h
  obtain ⟨b,h2,h⟩:=bind_some h
  cases h
  simp only[List.all_cons,aU] at ax
  obtain ⟨i1,i2,i3⟩:=BP jE h2 ax.2
  have cK:=(G8 h1).1
  have hd: ∀rest,(a++b++rest).drop l.size=b++rest:=fun rest=>by rw[dj];exact oM cK
  refine ⟨by simp only[bO,kY];omega,fun rest=>by simp only[jc,List.length_cons,hd,i2],fun rest j v y hv hy=> ?_⟩
  simp only[jc,hd] at hy
  cases j with
  | zero=>
   simp at hy
   subst hy
   exact TT h1 ax.1 jE (hv x rfl) _
  | succ j=>exact i3 rest j v y (fun x hx=>hv x (by simpa using hx)) (by simpa using hy)
theorem LV: ∀{ls:List LS} {xs:List V} {ds:List V},qx ls xs=some ds→ls.all LS.plain=true→ds.length=kY ls∧∀rest,jc ls (ds++rest)=xs
 | [],[],ds,h,_=>by cases h;exact ⟨rfl,fun _=>rfl⟩
 | [],_::_,ds,h,_=>by cases h
 | _::_,[],ds,h,_=>by cases h
 | l::ls,x::xs,ds,h,ax=>by
  simp only[qx] at h
  obtain ⟨a,h1,h⟩:=bind_some h
  obtain ⟨b,h2,h⟩:=bind_some h
  cases h
  simp only[List.all_cons,aU] at ax
  obtain ⟨i1,i2⟩:=LV h2 ax.2
  obtain ⟨cK,hm⟩:=G8 h1
  refine ⟨by simp only[bO,kY];omega,fun rest=> ?_⟩
  simp only[jc]
  rw[show (a++b++rest).drop l.size=b++rest by rw[dj];exact oM cK,i2,dj]
  rcases hm with e|e
  ·subst e;cases ax.1
  ·rw[e]
theorem LW {n:Nat} (jE:BO n β hp β' hp') {s:VS} {x:V} {ds:List V} (h:qy s x=some ds) (ax:s.ok n=true):
  ds.length=s.size∧∀(rest:List V) (v:Value),au P w I β hp v x→au P w I β' hp' v (lH s (ds++rest)):=by
 cases s with
 | one l=>exact ⟨(G8 h).1,fun rest v hv=>TT h ax jE hv rest⟩
 | agg ls=>
  cases x<;>simp only[qy] at h<;>first|(cases h;done)|skip
  rename_i xs
  obtain ⟨i1,i2,i3⟩:=BP (P:=P) (w:=w) (I:=I) jE h ax
  refine ⟨i1,fun rest v hv=> ?_⟩
  obtain ⟨cs,rfl,e1,e2⟩:=hv.lL
  exact .agg (by rw[i2];exact e1) fun j v y hj hy=>i3 rest j v y (fun x hx=>e2 j v x hj hx) hy
 | bC ls=>
  cases x<;>simp only[qy] at h<;>first|(cases h;done)|skip
  rename_i xs
  obtain ⟨i1,i2,i3⟩:=BP (P:=P) (w:=w) (I:=I) jE h ax
  refine ⟨i1,fun rest v hv=> ?_⟩
  obtain ⟨cs,rfl,e1,e2⟩:=hv.u6
  exact .bC (by rw[i2];exact e1) fun j v y hj hy=>i3 rest j v y (fun x hx=>e2 j v x hj hx) hy
 | fn f a b=>
  cases x<;>simp only[qy] at h<;>first|(cases h;done)|skip
  rename_i f' xs ys
  cases hb:Nat.beq f f' with
  | false=>rw[hb] at h;cases h
  | true=>
   rw[hb] at h
   rw[bj] at hb
   subst hb
   simp only[cond_true] at h
   obtain ⟨p,h1,h⟩:=bind_some h
   obtain ⟨q,h2,h⟩:=bind_some h
   cases h
   simp only[VS.ok,aU] at ax
   obtain ⟨i1,i2,i3⟩:=BP (P:=P) (w:=w) (I:=I) jE h1 ax.1
   obtain ⟨j1,j2,j3⟩:=BP (P:=P) (w:=w) (I:=I) jE h2 ax.2
   refine ⟨by simp only[bO,VS.size];omega,fun rest v hv=> ?_⟩
   cases hv with
   | fn a1 a2 b1 b2=>
    simp only[lH]
    rw[show (p++q++rest).drop (kY a)=q++rest by rw[dj];exact oM i1,dj]
    exact .fn (by rw[i2];exact a1) (fun j v y hj hy=>i3 _ j v y (fun x hx=>a2 j v x hj hx) hy) (by rw[j2];exact b1) (fun j v y hj hy=>j3 _ j v y (fun x hx=>b2 j v x hj hx) hy)
 | pref ts ls=>
  cases x<;>simp only[qy] at h<;>first|(cases h;done)|skip
  rename_i xw xs
  cases hb:fh.pk ts xw with
  | false=>rw[hb] at h;cases h
  | true=>
   rw[hb] at h
   have:=yc hb
   subst this
   simp only[cond_true] at h
   refine ⟨?_,fun rest v hv=> ?_⟩
   ·exact (LV h ax).1
   ·simp only[lH]
    rw[(LV h ax).2]
    cases hv with
    | pref hl hI hc=>exact .pref hl hI hc
theorem BQ {n:Nat} (jE:BO n β hp β' hp'): ∀{ls:List VS} {xs:List V} {ds:List V},rC ls xs=some ds→ls.all (VS.ok n)=true→
  ds.length=tu ls∧(∀rest,(gA ls (ds++rest)).length=xs.length)∧
  ∀(rest:List V) (j:Nat) (v:Value) (y:V),(∀x,xs[j]? =some x→au P w I β hp v x)→(gA ls (ds++rest))[j]? =some y→au P w I β' hp' v y
 | [],[],ds,h,_=>by cases h;exact ⟨rfl,fun _=>rfl,fun rest j v y _ hy=>by simp[gA] at hy⟩
 | [],_::_,ds,h,_=>by cases h
 | _::_,[],ds,h,_=>by cases h
 | l::ls,x::xs,ds,h,ax=>by
  simp only[rC] at h
  obtain ⟨a,h1,h⟩:=bind_some h
  obtain ⟨b,h2,h⟩:=bind_some h
  cases h
  simp only[List.all_cons,aU] at ax
  obtain ⟨i1,i2,i3⟩:=BQ jE h2 ax.2
  obtain ⟨cK,xY⟩:=LW (P:=P) (w:=w) (I:=I) jE h1 ax.1
  have hd: ∀rest,(a++b++rest).drop l.size=b++rest:=fun rest=>by rw[dj];exact oM cK
  refine ⟨by simp only[bO,tu];omega,fun rest=>by simp only[gA,List.length_cons,hd,i2],fun rest j v y hv hy=> ?_⟩
  simp only[gA,hd] at hy
  cases j with
  | zero=>
   simp at hy
   subst hy
   exact xY _ v (hv x rfl)
  | succ j=>exact i3 rest j v y (fun x hx=>hv x (by simpa using hx)) (by simpa using hy)
end
section
variable {P:Program} {A:cW} {w w':World} {I I' I2:Nat→Prop} {μ β β':Nat→Option Nat} {hp hp' hp0:Nat→Option ao} {C:af} {B:Nat} {M:Nat→Prop} {w0:Start}
theorem iV: ∀{l:List ao} {j:Nat},ki l j=l[j]?
 | [],j=>by simp[ki]
 | b::l,0=>rfl
 | b::l,j+1=>by simp only[ki,iV,List.getElem?_cons_succ]
theorem LX {sl:Nat→V} {k:Nat} {y:V}: ∀{l:List (Nat × VS)} {ds:List V},A3 sl l=some ds→(∀p∈l,∀d,qy p.2 (sl p.1)=some d→d.length=p.2.size)→
  ds.length=pn l∧∀rest,eo (gk l (ds++rest)) k=some y→∃s d il,(k,s)∈l∧qy s (sl k)=some d∧y=lH s (d++il)
 | [],ds,h,_=>by cases h;exact ⟨rfl,fun rest h=>by cases h⟩
 | (q,s)::l,ds,h,hz=>by
  simp only[A3] at h
  obtain ⟨a,h1,h⟩:=bind_some h
  obtain ⟨b,h2,h⟩:=bind_some h
  cases h
  obtain ⟨i1,i2⟩:=LX (k:=k) (y:=y) h2 fun p hp=>hz p (lC _ hp)
  have cK:=hz (q,s) (tc ..) a h1
  refine ⟨by simp only[bO,pn];simp only at cK;omega,fun rest hl=> ?_⟩
  simp only[gk,eo] at hl
  rw[show (a++b++rest).drop s.size=b++rest by rw[dj];exact oM cK] at hl
  cases hb:Nat.beq k q with
  | true=>
   rw[hb] at hl
   rw[bj] at hb
   subst hb
   cases hl
   exact ⟨s,a,b++rest,tc ..,h1,by rw[dj]⟩
  | false=>
   rw[hb] at hl
   obtain ⟨s',d,il,m1,m2,m3⟩:=i2 rest hl
   exact ⟨s',d,il,lC _ m1,m2,m3⟩
theorem LY {α:Type} {c:Bool} {x:Option α} {a:α} (h:(bif c then x else none)=some a):c=true∧x=some a:=by
 cases c with
 | true=>exact ⟨rfl,h⟩
 | false=>cases h
theorem adI {n:Nat} {b:BS} {o:Option ao} {ds:List V} (h:lG b o=some ds) (ax:b.ok n=true):ds.length=b.size:=by
 cases b with
 | dead=>cases o<;>(cases h;rfl)
 | var T0 ls=>
  cases o with
  | none=>cases h
  | some blk=>
   cases blk<;>simp only[lG] at h<;>first|(cases h;done)|skip
   exact (BQ (P:=default) (w:=default) (I:=fun _=>False) (β:=fun _=>none) (hp:=fun _=>none) (fun _ _=>⟨rfl,rfl⟩) (LY h).2 ax).1
 | arr e fz=>
  cases o with
  | none=>cases h
  | some blk=>
   cases blk<;>simp only[lG] at h<;>first|(cases h;done)|skip
   rw[vm h] at h
   cases h
   rfl
 | nest e=>
  cases o with
  | none=>cases h
  | some blk=>
   cases blk<;>simp only[lG] at h<;>first|(cases h;done)|skip
   rw[vm h] at h
   cases h
   rfl
 | map t=>
  cases o with
  | none=>cases h
  | some blk=>
   cases blk<;>simp only[lG] at h<;>first|(cases h;done)|skip
   rw[vm h] at h
   cases h
   rfl
theorem TU {n:Nat}: ∀{l:List BS} {j:Nat} {ds:List V},A4 hp j l=some ds→l.all (BS.ok n)=true→
  (∀rest,(fx l (ds++rest)).length=l.length)∧∀(rest:List V) (i:Nat) (blk:ao),(fx l (ds++rest))[i]? =some blk→∃b d il,l[i]? =some b∧b.ok n=true∧lG b (hp (j+i))=some d∧blk=gS b (d++il)
 | [],j,ds,h,_=>by cases h;exact ⟨fun _=>rfl,fun rest i blk hb=>by simp[fx] at hb⟩
 | b::l,j,ds,h,ax=>by
  simp only[A4] at h
  obtain ⟨a,h1,h⟩:=bind_some h
  obtain ⟨c,h2,h⟩:=bind_some h
  cases h
  simp only[List.all_cons,aU] at ax
  obtain ⟨i1,i2⟩:=TU h2 ax.2
  have cK:=adI h1 ax.1
  have hd: ∀rest,(a++c++rest).drop b.size=c++rest:=fun rest=>by rw[dj];exact oM cK
  refine ⟨fun rest=>by simp only[fx,List.length_cons,hd,i1],fun rest i blk hb=> ?_⟩
  simp only[fx,hd] at hb
  cases i with
  | zero=>
   simp at hb
   exact ⟨b,a,c++rest,rfl,ax.1,h1,by rw[←hb]⟩
  | succ i=>
   obtain ⟨b',d,il,m1,m2,m3,m4⟩:=i2 rest i blk (by simpa using hb)
   exact ⟨b',d,il,by simpa using m1,m2,by rw[show j+(i+1)=j+1+i by omega];exact m3,m4⟩
theorem adJ {n:Nat} {b:BS} {blk:ao} {ds rest:List V} (h:lG b (some blk)=some ds) (ax:b.ok n=true):
  blk.le (gS b (ds++rest))∧(gS b (ds++rest)= .dead∨gS b (ds++rest)=blk∨∃T ls cs,b= .var T ls∧blk= .var T cs∧rC ls cs=some ds∧gS b (ds++rest)= .var T (gA ls (ds++rest))):=by
 cases b with
 | dead=>exact ⟨by cases blk<;>trivial,.inl rfl⟩
 | var T0 ls=>
  cases blk<;>simp only[lG] at h<;>first|(cases h;done)|skip
  obtain ⟨hT,h0⟩:=LY h
  clear h
  rw[bj] at hT
  subst hT
  exact ⟨rfl,.inr (.inr ⟨_,_,_,rfl,rfl,h0,rfl⟩)⟩
 | arr e fz=>
  cases blk<;>simp only[lG] at h<;>first|(cases h;done)|skip
  rename_i e' es ox
  have hb:=vm h
  simp only[aU,bj,beq_iff_eq] at hb
  obtain ⟨rfl,rfl⟩:=hb
  simp only[kf,xe,Bool.and_self,cond_true,eN] at h
  subst h
  exact ⟨⟨rfl,rfl⟩,.inr (.inl rfl)⟩
 | nest e=>
  cases blk<;>simp only[lG] at h<;>first|(cases h;done)|skip
  rename_i e' es av
  have hb:=vm h
  simp only[aU,bj] at hb
  obtain ⟨rfl,hv⟩:=hb
  have:=yc hv
  subst this
  simp only[kf,lE] at h
  cases h
  exact ⟨⟨rfl,rfl,rfl,fun _=>bN _⟩,.inr (.inl rfl)⟩
 | map t=>
  cases blk<;>simp only[lG] at h<;>first|(cases h;done)|skip
  rename_i t' es
  have hb:=vm h
  rw[bj] at hb
  subst hb
  simp only[kf,cond_true,eN] at h
  subst h
  exact ⟨rfl,.inr (.inl rfl)⟩
theorem TV {m:Nat} {S:Shape} {st:St} {ds:List V} (h:ju m S st=some ds):
  S.ok=true∧m≤S.bf.length∧∃a b,A3 st.sl S.bQ=some a∧A4 st.hp 0 S.bf=some b∧ds=a++b:=by
 unfold ju at h
 cases hc:(S.ok&&Nat.ble m S.bf.length) with
 | false=>rw[hc] at h;cases h
 | true=>
  rw[hc] at h
  simp only[cond_true] at h
  simp only[aU,dN] at hc
  obtain ⟨a,h1,h⟩:=bind_some h
  obtain ⟨b,h2,h⟩:=bind_some h
  cases h
  exact ⟨hc.1,hc.2,a,b,h1,h2,rfl⟩
theorem reshape {m:Nat} {S:Shape} {st:St} {ds:List V} (h:ju m S st=some ds) (hS:aO P w I β st.hp B M w0):
  aO P w I β (bA S ds).hp B M w0∧(∀(k:Nat) (v:Value),au P w I β st.hp v (st.sl k)→au P w I β (bA S ds).hp v ((bA S ds).sl k))∧
  (∀(μ:Nat→Option Nat) (hp0:Nat→Option ao),(∀id blk,hp0 id=some blk→id<m)→Le P w0.w w0.I μ hp0 w I β st.hp→Le P w0.w w0.I μ hp0 w I β (bA S ds).hp)∧
  ∀j blk',(bA S ds).hp j=some blk'→blk'≠ .dead→∃blk,st.hp j=some blk∧blk.le blk'∧∀o b,bL P w o blk' b→bL P w o blk b:=by
 obtain ⟨ax,hm,a,b,h1,h2,rfl⟩:=TV h
 unfold Shape.ok at ax
 rw[aU] at ax
 obtain ⟨TW,LA⟩:=ax
 have bh: ∀p∈S.bQ,∀d,qy p.2 (st.sl p.1)=some d→d.length=p.2.size:=fun p hp d hd=>
  (LW (P:=P) (w:=w) (I:=I) (β:=β) (hp:=st.hp) (fun _ _=>⟨rfl,rfl⟩) hd (gz.1 TW p hp)).1
 have cK:a.length=pn S.bQ:=(LX (k:=0) (y:= .undef) h1 bh).1
 have G0:(bA S (a++b)).hp=ki (fx S.bf (b++[])):=by
  simp only[bA,mk,dc]
  rw[oM cK]
 obtain ⟨bl,bg⟩:=TU h2 LA
 have get: ∀j blk',(bA S (a++b)).hp j=some blk'→j<S.bf.length∧∃bs d il,bs.ok S.bf.length=true∧lG bs (st.hp j)=some d∧blk'=gS bs (d++il):=by
  intro j blk' hj
  rw[G0,iV] at hj
  obtain ⟨bs,d,il,m1,m2,m3,m4⟩:=bg [] j blk' hj
  rw[hO] at m3
  exact ⟨(bH.1 m1).1,bs,d,il,m2,m3,m4⟩
 have have': ∀j,j<S.bf.length→∃blk',(bA S (a++b)).hp j=some blk':=by
  intro j hj
  rw[G0,iV]
  exact ⟨_,bZ (by rw[bl];exact hj)⟩
 generalize iS:(bA S (a++b)).hp=vn at*
 let bI:Nat→Option ao:=fun id=>if id<S.bf.length then vn id else st.hp id
 have back: ∀j blk',vn j=some blk'→blk'≠ .dead→∃blk,st.hp j=some blk∧blk.le blk'∧(blk'=blk∨∃T ls cs d il,ls.all (VS.ok S.bf.length)=true∧blk= .var T cs∧rC ls cs=some d∧blk'= .var T (gA ls (d++il))):=by
  intro j blk' hj hd
  obtain ⟨cp,bs,d,il,m1,m2,m3⟩:=get j blk' hj
  cases bB:st.hp j with
  | none=>
   rw[bB] at m2
   cases bs<;>simp only[lG] at m2<;>first|(cases m2;done)|skip
   exact absurd m3 hd
  | some blk=>
   rw[bB] at m2
   obtain ⟨n1,n2⟩:=adJ (rest:=il) m2 m1
   rw[←m3] at n1 n2
   refine ⟨blk,rfl,n1,?_⟩
   rcases n2 with e|e|⟨T,ls,cs,e1,e2,e3,e4⟩
   ·exact absurd e hd
   ·exact .inl e
   ·subst e1
    exact .inr ⟨T,ls,cs,d,il,m1,e2,e3,e4⟩
 have le1: ∀j blk,st.hp j=some blk→j<S.bf.length→∃blk',vn j=some blk'∧blk.le blk':=by
  intro j blk hj cp
  obtain ⟨blk',aE⟩:=have' j cp
  refine ⟨blk',aE,?_⟩
  by_cases hd:blk'= .dead
  ·subst hd;cases blk<;>trivial
  ·obtain ⟨cz,e1,e2,_⟩:=back j blk' aE hd
   rw[hj] at e1;cases e1
   exact e2
 have adK: ∀j e es av e' aW vers',st.hp j=some (.nest e es av)→vn j=some (.nest e' aW vers')→e'=e∧aW=es∧vers'=av:=by
  intro j e es av e' aW vers' hj gY
  obtain ⟨blk,e1,_,e3⟩:=back j _ gY (by simp)
  rw[hj] at e1;cases e1
  rcases e3 with e3|⟨_,_,_,_,_,_,e3,_⟩
  ·cases e3;exact ⟨rfl,rfl,rfl⟩
  ·cases e3
 have hle:Le P w I β st.hp w I β bI:=by
  refine ⟨fun _ h=>h,fun _ _=>rfl,fun id blk ai=> ?_,fun _ _ _ _ _ _ _ _=>rfl,Le.tB (fun _ _ _ _ _ _=>rfl) fun id e es av e' aW vers' ai bS=> ?_⟩
  ·by_cases hl:id<S.bf.length
   ·obtain ⟨blk',e1,e2⟩:=le1 id blk ai hl
    exact ⟨blk',by simp only[bI,ag hl];exact e1,e2,fun _=>rfl⟩
   ·exact ⟨blk,by simp only[bI,ah hl];exact ai,ao.le_refl _,fun _=>rfl⟩
  ·by_cases hl:id<S.bf.length
   ·simp only[bI,ag hl] at bS
    exact adK _ _ _ _ _ _ _ ai bS
   ·simp only[bI,ah hl] at bS
    rw[ai] at bS;cases bS
    exact ⟨rfl,rfl,rfl⟩
 have jE:BO S.bf.length β bI β vn:=fun id ai=>⟨by simp only[bI,ag ai],rfl⟩
 have xR: ∀j blk' blk o b,vn j=some blk'→st.hp j=some blk→bL P w o blk' b→bL P w o blk b:=by
  intro j blk' blk o b gY hj ho
  obtain ⟨cz,e1,_,e3⟩:=back j blk' gY ho.alive
  rw[hj] at e1;cases e1
  rcases e3 with e3|⟨T,ls,cs,d,il,_,e3,_,e5⟩
  ·subst e3;exact ho
  ·subst e3;subst e5
   exact .root (by simp) (ho.flat (by simp))
 refine ⟨⟨⟨fun j blk' hj=> ?_,fun j1 j2 b1 b2 b' e1 e2 o1 o2=> ?_,fun j blk b' hj ho=> ?_,hS.h.ko⟩,hS.cJ,hS.size,hS.new,hS.io⟩,fun k v hv=> ?_,fun μ hp0 aR hE=> ?_,fun j blk' hj hd=> ?_⟩
 ·by_cases hd:blk'= .dead
  ·subst hd;exact .dead
  ·obtain ⟨blk,e1,_,e3⟩:=back j blk' hj hd
   have hr:=hS.h.rel j blk e1
   generalize β j=o at hr
   rcases e3 with e3|⟨T0,ls,cs,d,il,q1,e3,e4,e5⟩
   ·subst e3
    cases hr with
    | @var xs b' Ca T hb hh hs dp hx ic=>
     obtain ⟨cp,bs,d,il,m1,m2,m3⟩:=get j _ hj
     rw[e1] at m2
     cases bs<;>simp only[lG] at m2<;>first|(cases m2;done)|skip
     ·rename_i T0 ls
      simp only[gS] at m3
      obtain ⟨hT,m2⟩:=LY m2
      obtain ⟨i1,i2,i3⟩:=BQ (P:=P) (w:=w) (I:=I) jE m2 m1
      injection m3 with m4 m3
      rw[m3]
      exact .var hb hh (by rw[i2];exact hs) dp (fun i v y hi hy=>i3 il i v y (fun x cU=>(hx i v x hi cU).mono hle) hy) ic
     ·simp only[gS] at m3
      cases m3
    | er hb=>exact .er hb
    | arr a1 a2 a3 a4 a5 a6 a7=>exact .arr a1 a2 a3 a4 a5 a6 a7
    | dead=>exact absurd rfl hd
    | nest a1 a2 a3=>exact .nest a1 a2 a3
    | map a1 a2 a3 a4 a5 a6 a7=>exact .map a1 a2 a3 a4 a5 a6 a7
   ·subst e3
    subst e5
    cases hr with
    | @var xs b' Ca T hb hh hs dp hx ic=>
     obtain ⟨i1,i2,i3⟩:=BQ (P:=P) (w:=w) (I:=I) jE e4 q1
     exact .var hb hh (by rw[i2];exact hs) dp (fun i v y hi hy=>i3 il i v y (fun x cU=>(hx i v x hi cU).mono hle) hy) ic
 ·obtain ⟨c1,x1,_,_⟩:=back j1 b1 e1 o1.alive
  obtain ⟨c2,x2,_,_⟩:=back j2 b2 e2 o2.alive
  exact hS.h.inj j1 j2 c1 c2 b' x1 x2 (xR _ _ _ _ _ e1 x1 o1) (xR _ _ _ _ _ e2 x2 o2)
 ·obtain ⟨c1,x1,_,_⟩:=back j blk hj ho.alive
  exact hS.h.own j c1 b' x1 (xR _ _ _ _ _ hj x1 ho)
 ·change au P w I β vn v (jX (gk S.bQ (a++b)) k)
  unfold jX
  cases LZ:eo (gk S.bQ (a++b)) k with
  | none=>exact .undef
  | some y=>
   obtain ⟨s,d,il,n1,n2,n3⟩:=(LX h1 bh).2 b LZ
   simp only[Option.getD_some,n3]
   exact (LW (P:=P) (w:=w) (I:=I) jE n2 (gz.1 TW _ n1)).2 il v (hv.mono hle)
 ·have h3:=hE.trans hle
  refine ⟨h3.dO,h3.cJ,fun id blk ai=> ?_,fun id blk blk' b' ai bS hd hb=> ?_,fun id e es av e' aW vers' b2 q i c t v e1 l ai bS=> ?_⟩
  ·have hl:=aR id blk ai
   obtain ⟨blk',k1,k2,k3⟩:=h3.blk id blk ai
   simp only[bI,ag (show id<S.bf.length by omega)] at k1
   exact ⟨blk',k1,k2,k3⟩
  ·have hl:=aR id blk ai
   exact h3.size id blk blk' b' ai (by simp only[bI,ag (show id<S.bf.length by omega)];exact bS) hd hb
  ·have hl:=aR id _ ai
   exact h3.row id e es av e' aW vers' b2 q i c t v e1 l ai (by simp only[bI,ag (show id<S.bf.length by omega)];exact bS)
 ·obtain ⟨blk,e1,e2,_⟩:=back j blk' hj hd
  exact ⟨blk,e1,e2,fun o b' ho=>xR _ _ _ _ _ hj e1 ho⟩
end
section
variable {P:Program} {A:cW} {w w':World} {I I' I2:Nat→Prop} {μ β β':Nat→Option Nat} {hp hp' hp0:Nat→Option ao} {C:af} {B:Nat} {M:Nat→Prop} {w0:Start}
inductive eP (P:Program) (w:World) (β:Nat→Option Nat) (hp:Nat→Option ao):Place→Option Nat→ao→Prop
 | var {id:Nat} {T:TypeId} {cs L0:List V}:hp id=some (.var T cs)→eP P w β hp (.blk id) (β id) (.var T L0)
 | arr {id:Nat} {e:TypeId} {es:List V}:hp id=some (.arr e es false)→eP P w β hp (.blk id) (β id) (.arr e es false)
 | nest {id:Nat} {e:TypeId} {es:List V} {av:List Nat}:hp id=some (.nest e es av)→eP P w β hp (.blk id) (β id) (.nest e es [0,0,0])
 | row {id ver b b':Nat} {path:Path} {e0 e':TypeId} {es l:List V} {av:List Nat}:hp id=some (.nest e0 es av)→β id=some b→At P w b e0 es path b' e' l→A1 P e'=true→
   0<path.length→path.length≤av.length→bR av (path.length-1)=ver→0<l.length→eP P w β hp (.row id ver path) (some b') (.arr e' l false)
 | map {id:Nat} {t:TypeId} {es:List V}:hp id=some (.map t es)→eP P w β hp (.blk id) (β id) (.map t es)
def BR (P:Program) (w:World) (β:Nat→Option Nat) (hp:Nat→Option ao) (ρ:List Place) (μ:Nat→Option Nat) (hp0:Nat→Option ao):Prop:=
 ∀j p,eY ρ j=some p→∃blk,hp0 j=some blk∧eP P w β hp p (μ j) blk
theorem pJ: ∀{l m:List Place} {j:Nat} {p:Place},eY l j=some p→eY (l++m) j=some p
 | [],m,j,p,h=>by cases h
 | a::l,m,0,p,h=>h
 | a::l,m,j+1,p,h=>pJ (l:=l) h
theorem mE: ∀{l:List Place} {j:Nat},eY l j=l[j]?
 | [],j=>by simp[eY]
 | a::l,0=>rfl
 | a::l,j+1=>by simp only[eY,mE,List.getElem?_cons_succ]
structure Ext (P:Program) (w:World) (I:Nat→Prop) (β:Nat→Option Nat) (hp:Nat→Option ao) (h h':Hand) (d:List V) (u:List (Nat × ao)):Prop where
 ds:h'.ds=h.ds++d
 upd:h'.upd=h.upd++u
 G9: ∀q∈u,Bl hp q
 pl: ∃m,h'.pl=h.pl++m
 nodup:(h.pl.map Place.id).Nodup→(h'.pl.map Place.id).Nodup
theorem Ext.refl (h:Hand):Ext P w I β hp h h [] []:=⟨by simp,by simp,by simp,⟨[],by simp⟩,id⟩
theorem Ext.trans {h1 h2 h3:Hand} {d1 d2:List V} {u1 u2:List (Nat × ao)} (a:Ext P w I β hp h1 h2 d1 u1) (b:Ext P w I β hp h2 h3 d2 u2):Ext P w I β hp h1 h3 (d1++d2) (u1++u2):=by
 obtain ⟨m1,e1⟩:=a.pl
 obtain ⟨m2,e2⟩:=b.pl
 exact ⟨by rw[b.ds,a.ds,dj],by rw[b.upd,a.upd,dj],fun q hq=>(cZ.1 hq).elim (a.G9 q) (b.G9 q),⟨m1++m2,by rw[e2,e1,dj]⟩,fun h=>b.nodup (a.nodup h)⟩
theorem Ext.look {h h':Hand} {d:List V} {u:List (Nat × ao)} (a:Ext P w I β hp h h' d u) {j:Nat} {p:Place} (hj:eY h.pl j=some p):eY h'.pl j=some p:=by
 obtain ⟨m,e⟩:=a.pl
 rw[e]
 exact pJ hj
theorem Ext.leaf (h:Hand) (x:V):Ext P w I β hp h {h with ds:=h.ds++[x]} [x] []:=⟨rfl,by simp,by simp,⟨[],by simp⟩,id⟩
theorem adL {α:Type} {ρ:List Place} {j:Nat} {p:Place} {k:List Place→Rd α} {r:α} {rd:List Nat} (h:(unify ρ j p k).run C hp=some (r,rd)) (hb: ∃id,p= .blk id∨∃ver path,p= .row id ver path):
  ∃ky,(k ky).run C hp=some (r,rd)∧(∃m,ky=ρ++m)∧eY ky j=some p∧((ρ.map Place.id).Nodup→(ky.map Place.id).Nodup):=by
 unfold unify at h
 cases hc:Nat.blt j ρ.length with
 | true=>
  rw[hc] at h
  obtain ⟨h1,h2⟩:=aP h
  refine ⟨ρ,h2,⟨[],by simp⟩,?_,id⟩
  unfold Sn at h1
  split at h1
  ·rename_i a b he
   rw[bj] at h1
   subst h1
   exact he
  ·cases h1
 | false=>
  rw[hc] at h
  obtain ⟨h1,h2⟩:=aP h
  simp only[aU,bj,pf] at h1
  obtain ⟨rfl,h3⟩:=h1
  refine ⟨ρ++[p],h2,⟨[p],rfl⟩,?_,fun hn=> ?_⟩
  ·rw[mE];simp
  ·rw[iP,uG]
   refine ⟨hn,by simp,fun a ha b hb=> ?_⟩
   simp only[dZ,mU,cV] at hb
   subst hb
   intro e
   subst e
   rw[xN ha] at h3
   cases h3
theorem vo {α:Type} {h:Hand} {j:Nat} {p:Place} {k:List Place→Rd α} {r:α} {rd:List Nat} (hr:(unify h.pl j p k).run C hp=some (r,rd)) (ds:List V):
  ∃ky,(k ky).run C hp=some (r,rd)∧eY ky j=some p∧Ext P w I β hp h {h with pl:=ky,ds:=h.ds++ds} ds []:=by
 obtain ⟨ky,a,b,c,d⟩:=adL hr (by cases p with|blk id=>exact ⟨id,.inl rfl⟩|row id ver path=>exact ⟨id,.inr ⟨ver,path,rfl⟩⟩)
 exact ⟨ky,a,c,⟨rfl,by simp,by simp,b,d⟩⟩
theorem adM {o:Option Nat} {blk:ao} {e:TypeId} {id j:Nat} {v:Value} (hv:au P w I β hp v (.whole e id)) (hl:eP P w β hp (.blk id) o blk) (hj:hp0 j=some blk) (kz:μ j=o):au P w I' μ hp0 v (.whole e j):=by
 cases hl with
 | var h=>
  cases hv with
  | eZ h2=>rw[h] at h2;cases h2
  | ep h2=>rw[h] at h2;cases h2
  | whole h2=>rw[h] at h2;cases h2
  | fj h2=>rw[h] at h2;cases h2
 | arr h=>
  cases hv with
  | eZ h2=>rw[h] at h2;cases h2
  | ep h2 hb=>rw[h] at h2;cases h2;exact .ep hj (kz.trans hb)
  | whole h2 hb a b c=>rw[h] at h2;cases h2;exact .whole hj (kz.trans hb) a b c
  | fj h2=>rw[h] at h2;cases h2
 | nest h=>
  cases hv with
  | eZ h2=>rw[h] at h2;cases h2
  | ep h2=>rw[h] at h2;cases h2
  | whole h2=>rw[h] at h2;cases h2
  | fj h2 hb a b c=>rw[h] at h2;cases h2;exact .fj hj (kz.trans hb) a b c
 | map h=>
  cases hv with
  | eZ h2=>rw[h] at h2;cases h2
  | ep h2=>rw[h] at h2;cases h2
  | whole h2=>rw[h] at h2;cases h2
  | fj h2=>rw[h] at h2;cases h2
theorem adN {o:Option Nat} {blk:ao} {t:TypeId} {id j:Nat} {v:Value} (hv:au P w I β hp v (.c7 t id)) (hl:eP P w β hp (.blk id) o blk) (hj:hp0 j=some blk) (kz:μ j=o):au P w I' μ hp0 v (.c7 t j):=by
 cases hv with
 | jk h2=>cases hl<;>(rename_i h;rw[h] at h2;cases h2)
 | c7 h2 hb=>
  cases hl<;>(rename_i h;rw[h] at h2;cases h2)
  exact .c7 hj (kz.trans hb)
theorem adO {o:Option Nat} {blk:ao} {e:TypeId} {id off n j:Nat} {v:Value} (hv:au P w I β hp v (.sub e id off n)) (hl:eP P w β hp (.blk id) o blk) (hj:hp0 j=some blk) (kz:μ j=o):au P w I' μ hp0 v (.sub e j off n):=by
 cases hl with
 | var h=>
  cases hv with
  | ia h2=>rw[h] at h2;cases h2
  | gX h2=>rw[h] at h2;cases h2
  | sub h2=>rw[h] at h2;cases h2
 | arr h=>
  cases hv with
  | ia h2=>rw[h] at h2;cases h2
  | gX h2 hb=>rw[h] at h2;cases h2;exact .gX hj (kz.trans hb)
  | sub h2 hb a b c=>rw[h] at h2;cases h2;exact .sub hj (kz.trans hb) a b c
 | nest h=>
  cases hv with
  | ia h2=>rw[h] at h2;cases h2
  | gX h2=>rw[h] at h2;cases h2
  | sub h2=>rw[h] at h2;cases h2
 | map h=>
  cases hv with
  | ia h2=>rw[h] at h2;cases h2
  | gX h2=>rw[h] at h2;cases h2
  | sub h2=>rw[h] at h2;cases h2
theorem TX {o:Option Nat} {blk:ao} {id i c j:Nat} {v:Value} (hv:au P w I β hp v (.ptr id i c)) (hl:eP P w β hp (.blk id) o blk) (hj:hp0 j=some blk) (kz:μ j=o):au P w I' μ hp0 v (.ptr j i c):=by
 cases hl with
 | @var _ T0 cs L0 h=>
  obtain ⟨b,hb,rfl⟩:=hv.iU h (by simp)
  exact au.ptr (blk:= .var T0 L0) hj (by simp) (kz.trans hb)
 | @arr _ e es h=>
  obtain ⟨b,hb,rfl⟩:=hv.iU h (by simp)
  exact au.ptr (blk:= .arr e es false) hj (by simp) (kz.trans hb)
 | @nest _ e es av h=>
  obtain ⟨b,hb,rfl⟩:=hv.iU h (by simp)
  exact au.ptr (blk:= .nest e es [0,0,0]) hj (by simp) (kz.trans hb)
 | @map _ t es h=>
  obtain ⟨b,hb,rfl⟩:=hv.iU h (by simp)
  exact au.ptr (blk:= .map t es) hj (by simp) (kz.trans hb)
theorem adP (c8: ∀id blk,hp id=some blk→eO P w I β hp (β id) blk) {id b i c:Nat} {e0 t:TypeId} {es l:List V} {av:List Nat} {q:Path} {e:TypeId} {v:Value} (ai:hp id=some (.nest e0 es av)) (hb:β id=some b)
  (ht:P.underlying t=some (.slice e)) (hc:m9 P w b e0 es q i c t v (.list e l)) (hl:0<l.length): ∃b1 cap,v= .slice (some ⟨b1,0,none⟩) l.length cap∧cap*P.cellsOf e=bsize w b1∧l.length≤cap∧cap≤maxLen∧At P w b e0 es (q++[(i,c)]) b1 e l:=by
 obtain ⟨b2,e1,m,Ca,T,f,x,n1,n2,n3,n4,n5,n6⟩:=hc
 have hr:=c8 _ _ ai
 cases hr with
 | nest aE hr hn=>
  rw[hb] at aE;cases aE
  have hR:=hr _ _ _ _ n1
  obtain ⟨Bo,c1,c2,c3⟩:=hR.cells
  rw[n2] at c1
  cases c1
  have u5:c<P.cellsOf e1:=by rw[←gD hR.ok];exact (bH.1 n4).1
  obtain ⟨v',d1,d2⟩:=c3 i c x t n3 n4 u5
  rw[n6] at d1
  cases d1
  rw[n5] at d2
  generalize hy:V.list e l=y at d2
  cases d2 with
  | gW a p=>unfold gR at a;rw[ht] at a;cases a
  | emp hu ha=>cases hy;simp at hl
  | row hu nc bh cF py=>
   cases hy
   exact ⟨_,_,rfl,bh,cF,py,n1.snoc n2 n3 n4 ht n5 nc n6⟩
theorem adQ (S:aO P w I β hp B M w0) {o:Option Nat} {blk:ao} {e:TypeId} {id ver j:Nat} {path:Path} {v:Value} (hv:au P w I β hp v (.row e id ver path)) (hl:eP P w β hp (.row id ver path) o blk) (hj:hp0 j=some blk) (kz:μ j=o):au P w I' μ hp0 v (.whole e j):=by
 cases hl with
 | row h hb ha hf h1 h2 h3 h4=>
  obtain ⟨b2,q,i,c,t,l2,rfl,jA,ht,hc⟩:=hv.Sw h h1 h2 h3
  rw[hb] at jA;cases jA
  obtain ⟨p1,p2⟩:=KW ha
  have jw:=hc
  obtain ⟨b3,e3,m3,Ca,T,f,x,n1,n2,n3,n4,n5,n6⟩:=jw
  obtain ⟨q1,q2⟩:=Gs n1 n3 n4 ht n5
  rw[p1] at q1
  rw[p2] at q2
  cases q1
  cases q2
  obtain ⟨b1,cap,rfl,m1,m2,m4,m5⟩:=adP S.h.rel h hb ht hc h4
  have:=adR ha m5
  subst this
  exact .whole hj kz m1 m2 m4
where
 adR {b b1 b2:Nat} {e e1 e2:TypeId} {es l l2:List V} {q:Path} (h:At P w b e es q b1 e1 l) (h2:At P w b e es q b2 e2 l2):b2=b1:=(h.fun h2).1
theorem TY (S:aO P w I β hp B M w0) {α:Type} {l:LS} {x:V} {h:Hand} {k:Hand→Rd α} {r:α} {rd:List Nat} {v:Value} (hr:(Gc P l x h k).run C hp=some (r,rd)) (hv:au P w I β hp v x):
  ∃h' fK d u,(k h').run C hp=some (r,fK)∧Ext P w I β hp h h' d u∧d.length=l.size∧
   ∀(I':Nat→Prop) (μ:Nat→Option Nat) (hp0:Nat→Option ao),(∀b,I b→I' b)→(∀q∈u,∀b,tC P w β hp q.1 b→I' b)→∀ρ m,ρ=h'.pl++m→BR P w β hp ρ μ hp0→∀rest,au P w I' μ hp0 v (jt l (d++rest)):=by
 have plain: ∀{x':V} {j5:List Nat},(k {h with ds:=h.ds++[x']}).run C hp=some (r,j5)→l.size=1→(∀I' μ hp0 rest,au P w I' μ hp0 v (jt l ([x']++rest)))→∃h' fK d u,(k h').run C hp=some (r,fK)∧Ext P w I β hp h h' d u∧d.length=l.size∧
   ∀(I':Nat→Prop) (μ:Nat→Option Nat) (hp0:Nat→Option ao),(∀b,I b→I' b)→(∀q∈u,∀b,tC P w β hp q.1 b→I' b)→∀ρ m,ρ=h'.pl++m→BR P w β hp ρ μ hp0→∀rest,au P w I' μ hp0 v (jt l (d++rest)):=
  fun hk hs hx=>⟨_,_,_,_,hk,Ext.leaf h _,hs.symm,fun I' μ hp0 _ _ _ _ _ _ rest=>hx I' μ hp0 rest⟩
 have oI: ∀{j5:List Nat},(k h).run C hp=some (r,j5)→l.size=0→(∀I' μ hp0 rest,au P w I' μ hp0 v (jt l rest))→∃h' fK d u,(k h').run C hp=some (r,fK)∧Ext P w I β hp h h' d u∧d.length=l.size∧
   ∀(I':Nat→Prop) (μ:Nat→Option Nat) (hp0:Nat→Option ao),(∀b,I b→I' b)→(∀q∈u,∀b,tC P w β hp q.1 b→I' b)→∀ρ m,ρ=h'.pl++m→BR P w β hp ρ μ hp0→∀rest,au P w I' μ hp0 v (jt l (d++rest)):=
  fun hk hs hx=>⟨_,_,_,_,hk,Ext.refl h,by simp[hs],fun I' μ hp0 _ _ _ _ _ _ rest=>hx I' μ hp0 rest⟩
 unfold Gc at hr
 cases l with
 | th=>exact oI hr rfl fun _ _ _ _=> .undef
 | int kd=>
  cases x<;>simp only at hr<;>first|(cases hr;done)|skip
  obtain ⟨h1,h2⟩:=aP hr
  simp only[dX] at h1
  subst h1
  obtain rfl:=hv.eD
  exact plain h2 rfl fun _ _ _ _=> .int
 | bool=>
  cases x<;>simp only at hr<;>first|(cases hr;done)|skip
  obtain rfl:=hv.lf
  exact plain hr rfl fun _ _ _ _=> .bool
 | str=>
  cases x<;>simp only at hr<;>first|(cases hr;done)|skip
  obtain ⟨s,rfl,hl⟩:=hv.ng
  exact plain hr rfl fun _ _ _ _=> .str hl
 | nilS e=>
  cases x<;>simp only at hr<;>first|(cases hr;done)|skip
  obtain ⟨h1,h2⟩:=aP hr
  cases hv with
  | nilS=>exact oI h2 rfl fun _ _ _ _=> .nilS
 | eb=>
  cases x<;>simp only at hr<;>first|(cases hr;done)|skip
  cases hv with
  | eb=>exact oI hr rfl fun _ _ _ _=> .eb
 | row e j cs=>
  cases x<;>simp only at hr<;>first|(cases hr;done)|skip
  rename_i e' id ver path
  obtain ⟨e0,es,av,l0,ai,p1,p2,p3,hr⟩:=pw hr
  obtain ⟨h1,h2⟩:=aP hr
  simp only[aU,bj,dN] at h1
  obtain ⟨rfl,pA,hp3⟩:=h1
  have:=yc pA
  subst this
  obtain ⟨ky,a,b,c⟩:=vo (P:=P) (w:=w) (I:=I) (β:=β) h2 (path.map fun p=>eX p.1)
  refine ⟨_,_,path.map fun p=>eX p.1,[],a,c,by simp[LS.size],fun I' μ hp0 i1 i2 ρ m ec dD rest=> ?_⟩
  obtain ⟨blk,k1,k2⟩:=dD j _ (by rw[ec];exact pJ b)
  obtain ⟨bb,q,i,cc,t,l,rfl,hb,ht,hc⟩:=hv.Sw ai p1 p2 p3
  have rV:blk= .nest e0 es [0,0,0]∧μ j=β id:=by
   generalize μ j=o at k2
   cases k2 with
   | var h=>rw[ai] at h;cases h
   | arr h=>rw[ai] at h;cases h
   | map h=>rw[ai] at h;cases h
   | nest h=>rw[ai] at h;cases h;exact ⟨rfl,rfl⟩
  obtain ⟨rfl,kz⟩:=rV
  simp only[jt,G7]
  have hq:q.length<3:=by rw[bO,List.length_singleton] at hp3;omega
  refine .row k1 (kz.trans hb) (by simpa using hq) ?_ ht hc
  match q.length,hq with
  | 0,_=>rfl
  | 1,_=>rfl
  | 2,_=>rfl
 | c6 j cs c=>cases hr
 | FX k n=>cases hr
 | FY b=>cases hr
 | ei t=>
  cases x<;>simp only at hr<;>first|(cases hr;done)|skip
  obtain ⟨h1,h2⟩:=aP hr
  cases hv with
  | ei=>exact oI h2 rfl fun _ _ _ _=> .ei
 | c7 t j=>
  cases x<;>simp only at hr<;>first|(cases hr;done)|skip
  rename_i t' id
  obtain ⟨h1,h2⟩:=aP hr
  rw[bj] at h1
  subst h1
  obtain ⟨ky,a,b,c⟩:=vo (P:=P) (w:=w) (I:=I) (β:=β) h2 []
  refine ⟨_,_,[],[],a,by simpa using c,rfl,fun I' μ hp0 i1 i2 ρ m ec dD rest=> ?_⟩
  obtain ⟨blk,k1,k2⟩:=dD j _ (by rw[ec];exact pJ b)
  exact adN hv k2 k1 rfl
 | list e=>
  obtain ⟨⟨y,u⟩,l1,l2,h1,h2⟩:=lK hr
  cases y<;>simp only at h2<;>first|(cases h2;done)|skip
  rename_i e' es
  obtain ⟨h3,h4⟩:=aP h2
  rw[bj] at h3
  subst h3
  obtain ⟨p1,p2⟩:=Gt S.h.rel h1 hv
  exact ⟨_,_,[.list e es],u,h4,⟨rfl,rfl,p1,⟨[],by simp⟩,id⟩,rfl,fun I' μ hp0 i1 i2 _ _ _ _ rest=> .list (p2 I' i1 i2)⟩
 | whole e j=>
  cases x<;>simp only at hr<;>first|(cases hr;done)|skip
  ·rename_i e' id
   obtain ⟨h1,h2⟩:=aP hr
   rw[bj] at h1
   subst h1
   obtain ⟨ky,a,b,c⟩:=vo (P:=P) (w:=w) (I:=I) (β:=β) h2 []
   refine ⟨_,_,[],[],a,by simpa using c,rfl,fun I' μ hp0 i1 i2 ρ m ec dD rest=> ?_⟩
   obtain ⟨blk,k1,k2⟩:=dD j _ (by rw[ec];exact pJ b)
   exact adM hv k2 k1 rfl
  ·rename_i e' id ver path
   obtain ⟨h1,h2⟩:=aP hr
   rw[bj] at h1
   subst h1
   obtain ⟨ky,a,b,c⟩:=vo (P:=P) (w:=w) (I:=I) (β:=β) h2 []
   refine ⟨_,_,[],[],a,by simpa using c,rfl,fun I' μ hp0 i1 i2 ρ m ec dD rest=> ?_⟩
   obtain ⟨blk,k1,k2⟩:=dD j _ (by rw[ec];exact pJ b)
   exact adQ S hv k2 k1 rfl
 | sub e j=>
  cases x<;>simp only at hr<;>first|(cases hr;done)|skip
  rename_i e' id o n
  obtain ⟨h1,h2⟩:=aP hr
  rw[bj] at h1
  subst h1
  obtain ⟨ky,a,b,c⟩:=vo (P:=P) (w:=w) (I:=I) (β:=β) h2 [eX o,eX n]
  refine ⟨_,_,[eX o,eX n],[],a,c,rfl,fun I' μ hp0 i1 i2 ρ m ec dD rest=> ?_⟩
  obtain ⟨blk,k1,k2⟩:=dD j _ (by rw[ec];exact pJ b)
  simpa[jt,V.nth] using adO (I':=I') hv k2 k1 rfl
 | ptr j=>
  cases x<;>simp only at hr<;>first|(cases hr;done)|skip
  rename_i id i c
  obtain ⟨ky,a,b,c'⟩:=vo (P:=P) (w:=w) (I:=I) (β:=β) hr [eX i,eX c]
  refine ⟨_,_,[eX i,eX c],[],a,c',rfl,fun I' μ hp0 i1 i2 ρ m ec dD rest=> ?_⟩
  obtain ⟨blk,k1,k2⟩:=dD j _ (by rw[ec];exact pJ b)
  simpa[jt,V.nth] using TX (I':=I') hv k2 k1 rfl
 | mi j i c=>
  cases x<;>simp only at hr<;>first|(cases hr;done)|skip
  rename_i id i' c'
  obtain ⟨h1,h2⟩:=aP hr
  simp only[aU,bj] at h1
  obtain ⟨rfl,rfl⟩:=h1
  obtain ⟨ky,a,b,c'⟩:=vo (P:=P) (w:=w) (I:=I) (β:=β) h2 []
  refine ⟨_,_,[],[],a,by simpa using c',rfl,fun I' μ hp0 i1 i2 ρ m ec dD rest=> ?_⟩
  obtain ⟨blk,k1,k2⟩:=dD j _ (by rw[ec];exact pJ b)
  exact TX hv k2 k1 rfl
end
section
variable {P:Program} {A:cW} {w w':World} {I I' I2:Nat→Prop} {μ β β':Nat→Option Nat} {hp hp' hp0:Nat→Option ao} {C:af} {B:Nat} {M:Nat→Prop} {w0:Start}
def nt (P:Program) (w:World) (I:Nat→Prop) (β:Nat→Option Nat) (hp:Nat→Option ao) (h':Hand) (u:List (Nat × ao)) (K:(Nat→Prop)→(Nat→Option Nat)→(Nat→Option ao)→Prop):Prop:=
 ∀(I':Nat→Prop) (μ:Nat→Option Nat) (hp0:Nat→Option ao),(∀b,I b→I' b)→(∀q∈u,∀b,tC P w β hp q.1 b→I' b)→∀ρ m,ρ=h'.pl++m→BR P w β hp ρ μ hp0→K I' μ hp0
theorem nt.later {h h':Hand} {d:List V} {u u':List (Nat × ao)} {K:(Nat→Prop)→(Nat→Option Nat)→(Nat→Option ao)→Prop} (t:nt P w I β hp h u K) (e:Ext P w I β hp h h' d u'):nt P w I β hp h' (u++u') K:=by
 obtain ⟨m1,e1⟩:=e.pl
 exact fun I' μ hp0 i1 i2 ρ m ec dD=>t I' μ hp0 i1 (fun q hq=>i2 q (cZ.2 (.inl hq))) ρ (m1++m) (by rw[ec,e1,dj]) dD
theorem nt.more {h:Hand} {u u':List (Nat × ao)} {K:(Nat→Prop)→(Nat→Option Nat)→(Nat→Option ao)→Prop} (t:nt P w I β hp h u K):nt P w I β hp h (u'++u) K:=
 fun I' μ hp0 i1 i2 ρ m ec dD=>t I' μ hp0 i1 (fun q hq=>i2 q (cZ.2 (.inr hq))) ρ m ec dD
theorem Ha (S:aO P w I β hp B M w0) {α:Type}: ∀{ls:List LS} {xs:List V} {h:Hand} {k:Hand→Rd α} {r:α} {rd:List Nat} {vs:List Value},(xx P ls xs h k).run C hp=some (r,rd)→vs.length=xs.length→
  (∀(j:Nat) v x,vs[j]? =some v→xs[j]? =some x→au P w I β hp v x)→
  ∃h' fK d u,(k h').run C hp=some (r,fK)∧Ext P w I β hp h h' d u∧d.length=kY ls∧ls.length=xs.length∧
   nt P w I β hp h' u fun I' μ hp0=> ∀rest,(jc ls (d++rest)).length=xs.length∧∀(j:Nat) v y,vs[j]? =some v→(jc ls (d++rest))[j]? =some y→au P w I' μ hp0 v y
 | [],[],h,k,r,rd,vs,hr,hl,hv=>⟨h,rd,[],[],hr,Ext.refl h,rfl,rfl,fun I' μ hp0 _ _ _ _ _ _ rest=>⟨rfl,fun j v y _ hy=>by simp[jc] at hy⟩⟩
 | [],_::_,h,k,r,rd,vs,hr,hl,hv=>by cases hr
 | _::_,[],h,k,r,rd,vs,hr,hl,hv=>by cases hr
 | l::ls,x::xs,h,k,r,rd,vs,hr,hl,hv=>by
  cases vs with
  | nil=>simp at hl
  | cons v vs=>
   simp only[xx] at hr
   obtain ⟨h1,j5,d1,u1,a1,a2,a3,a4⟩:=TY S hr (hv 0 v x rfl rfl)
   obtain ⟨h2,tL,d2,u2,b1,b2,b3,b5,b4⟩:=Ha S a1 (by simpa using hl) (vs:=vs) (fun j v x hj hx=>hv (j+1) v x (by simpa using hj) (by simpa using hx))
   have a4':nt P w I β hp h1 u1 fun I' μ hp0=> ∀rest,au P w I' μ hp0 v (jt l (d1++rest)):=a4
   refine ⟨h2,tL,d1++d2,u1++u2,b1,a2.trans b2,by simp only[bO,kY];omega,by simp[b5],fun I' μ hp0 i1 i2 ρ m ec dD rest=> ?_⟩
   have k1:=(a4'.later b2) I' μ hp0 i1 i2 ρ m ec dD (d2++rest)
   obtain ⟨k2,k3⟩:=b4.more I' μ hp0 i1 i2 ρ m ec dD rest
   simp only[jc]
   rw[show (d1++d2++rest).drop l.size=d2++rest by rw[dj];exact oM a3,dj]
   refine ⟨by simp[k2],fun j v' y hj hy=> ?_⟩
   cases j with
   | zero=>simp at hj hy;subst hj;subst hy;exact k1
   | succ j=>exact k3 j v' y (by simpa using hj) (by simpa using hy)
theorem adT (S:aO P w I β hp B M w0) {α:Type} {s:VS} {x:V} {h:Hand} {k:Hand→Rd α} {r:α} {rd:List Nat} {v:Value} (hr:(A6 P s x h k).run C hp=some (r,rd)) (hv:au P w I β hp v x):
  ∃h' fK d u,(k h').run C hp=some (r,fK)∧Ext P w I β hp h h' d u∧d.length=s.size∧
   nt P w I β hp h' u fun I' μ hp0=> ∀rest,au P w I' μ hp0 v (lH s (d++rest)):=by
 cases s with
 | one l=>
  simp only[A6] at hr
  obtain ⟨h1,j5,d1,u1,a1,a2,a3,a4⟩:=TY S hr hv
  exact ⟨h1,j5,d1,u1,a1,a2,a3,a4⟩
 | agg ls=>
  cases x<;>simp only[A6] at hr<;>first|(cases hr;done)|skip
  rename_i xs
  obtain ⟨cs,rfl,e1,e2⟩:=hv.lL
  obtain ⟨h1,j5,d1,u1,a1,a2,a3,a5,a4⟩:=Ha S hr (vs:=cs.toList) (by simpa using e1) (fun j v x hj hx=>e2 j v x (by simpa using hj) hx)
  refine ⟨h1,j5,d1,u1,a1,a2,a3,fun I' μ hp0 i1 i2 ρ m ec dD rest=> ?_⟩
  obtain ⟨k1,k2⟩:=a4 I' μ hp0 i1 i2 ρ m ec dD rest
  exact .agg (by rw[k1];exact e1) fun j v y hj hy=>k2 j v y (by simpa using hj) hy
 | bC ls=>cases x<;>cases hr
 | pref ts ls=>cases x<;>cases hr
 | fn f a b=>
  cases x<;>simp only[A6] at hr<;>first|(cases hr;done)|skip
  rename_i f' xs ys
  obtain ⟨hc,vp⟩:=aP hr
  clear hr
  rw[bj] at hc
  subst hc
  cases hv with
  | @fn _ fs cs _ _ q1 q2 q3 q4=>
   obtain ⟨h1,j5,d1,u1,a1,a2,a3,a5,a4⟩:=Ha S vp (vs:=fs.toList) (by simpa using q1) (fun j v x hj hx=>q2 j v x (by simpa using hj) hx)
   obtain ⟨h2,tL,d2,u2,b1,b2,b3,b5,b4⟩:=Ha S a1 (vs:=cs.toList) (by simpa using q3) (fun j v x hj hx=>q4 j v x (by simpa using hj) hx)
   refine ⟨h2,tL,d1++d2,u1++u2,b1,a2.trans b2,by simp only[bO,VS.size];omega,fun I' μ hp0 i1 i2 ρ m ec dD rest=> ?_⟩
   obtain ⟨k1,k2⟩:=(a4.later b2) I' μ hp0 i1 i2 ρ m ec dD (d2++rest)
   obtain ⟨k3,k4⟩:=b4.more I' μ hp0 i1 i2 ρ m ec dD rest
   simp only[lH]
   rw[show (d1++d2++rest).drop (kY a)=d2++rest by rw[dj];exact oM a3,dj]
   exact .fn (by rw[k1];exact q1) (fun j v y hj hy=>k2 j v y (by simpa using hj) hy) (by rw[k3];exact q3) (fun j v y hj hy=>k4 j v y (by simpa using hj) hy)
theorem L3 (S:aO P w I β hp B M w0) {α:Type}: ∀{ls:List VS} {xs:List V} {h:Hand} {k:Hand→Rd α} {r:α} {rd:List Nat} {vs:List Value},(A7 P ls xs h k).run C hp=some (r,rd)→vs.length=xs.length→
  (∀(j:Nat) v x,vs[j]? =some v→xs[j]? =some x→au P w I β hp v x)→
  ∃h' fK d u,(k h').run C hp=some (r,fK)∧Ext P w I β hp h h' d u∧d.length=tu ls∧ls.length=xs.length∧
   nt P w I β hp h' u fun I' μ hp0=> ∀rest,(gA ls (d++rest)).length=xs.length∧∀(j:Nat) v y,vs[j]? =some v→(gA ls (d++rest))[j]? =some y→au P w I' μ hp0 v y
 | [],[],h,k,r,rd,vs,hr,hl,hv=>⟨h,rd,[],[],hr,Ext.refl h,rfl,rfl,fun I' μ hp0 _ _ _ _ _ _ rest=>⟨rfl,fun j v y _ hy=>by simp[gA] at hy⟩⟩
 | [],_::_,h,k,r,rd,vs,hr,hl,hv=>by cases hr
 | _::_,[],h,k,r,rd,vs,hr,hl,hv=>by cases hr
 | l::ls,x::xs,h,k,r,rd,vs,hr,hl,hv=>by
  cases vs with
  | nil=>simp at hl
  | cons v vs=>
   simp only[A7] at hr
   obtain ⟨h1,j5,d1,u1,a1,a2,a3,a4⟩:=adT S hr (hv 0 v x rfl rfl)
   obtain ⟨h2,tL,d2,u2,b1,b2,b3,b5,b4⟩:=L3 S a1 (by simpa using hl) (vs:=vs) (fun j v x hj hx=>hv (j+1) v x (by simpa using hj) (by simpa using hx))
   refine ⟨h2,tL,d1++d2,u1++u2,b1,a2.trans b2,by simp only[bO,tu];omega,by simp[b5],fun I' μ hp0 i1 i2 ρ m ec dD rest=> ?_⟩
   have k1:=(a4.later b2) I' μ hp0 i1 i2 ρ m ec dD (d2++rest)
   obtain ⟨k2,k3⟩:=b4.more I' μ hp0 i1 i2 ρ m ec dD rest
   simp only[gA]
   rw[show (d1++d2++rest).drop l.size=d2++rest by rw[dj];exact oM a3,dj]
   refine ⟨by simp[k2],fun j v' y hj hy=> ?_⟩
   cases j with
   | zero=>simp at hj hy;subst hj;subst hy;exact k1
   | succ j=>exact k3 j v' y (by simpa using hj) (by simpa using hy)
def Hb:List BS→Nat
 | []=>0
 | b::l=>b.size+Hb l
theorem TZ: ∀{b:Nat} {e e':TypeId} {es:List V} {v:V},(∀q b' e' m,At P w b e es q b' e' m→jY P w I b' e' m)→∀(path:Path),kW P e path=some e'→mZ P e es path=some v→0<v.toList.length→
  ∃b1,At P w b e es path b1 e' v.toList
 | b,e,e',es,v,c9,[],ht,hv,hl=>by
  simp only[kW,eN] at ht
  simp only[mZ,eN] at hv
  subst ht;subst hv
  exact ⟨b,.here⟩
 | b,e,e',es,v,c9,(i,c)::q,ht,hv,hl=>by
  simp only[kW] at ht
  simp only[mZ] at hv
  obtain ⟨x,hx,hv⟩:=bind_some hv
  cases L4:(kW.AU P e)[c]? with
  | none=>rw[L4] at ht;cases ht
  | some t=>
   rw[L4] at ht
   simp only at ht
   have Hc:(bp P e)[c]? =some t:=L4
   cases hu:P.underlying t with
   | none=>rw[hu] at ht;cases ht
   | some d=>
    rw[hu] at ht
    cases d<;>simp only at ht<;>first|(cases ht;done)|skip
    rename_i e1
    rw[oC Hc] at hv
    have hR:=c9 _ _ _ _ .here
    obtain ⟨Ca,c1,c2,c3⟩:=hR.cells
    have u5:c<P.cellsOf e:=by rw[←gD hR.ok];exact (bH.1 Hc).1
    obtain ⟨u,d1,d2⟩:=c3 i c x t hx Hc u5
    rw[d2.tE] at hv
    generalize hy:cb P e x c=y at d2 hv
    cases d2 with
    | gW a p=>unfold gR at a;rw[hu] at a;cases a
    | @emp e2 a cap nq ha=>
     rw[hu] at nq;cases nq
     simp only at hv
     cases q with
     | nil=>simp only[mZ,eN] at hv;subst hv;simp[V.toList] at hl
     | cons a q=>simp[mZ] at hv
    | @row e2 cE b2 cap nq nc bh cF py=>
     rw[hu] at nq;cases nq
     simp only at hv
     have jx: ∀{q b' e' aW},At P w b2 e1 cE q b' e' aW→At P w b e es ((i,c)::q) b' e' aW:=fun h=> .step c1 hx Hc hu hy nc d1 h
     obtain ⟨b1,mB⟩:=TZ (fun q b' e' m h=>c9 _ _ _ _ (jx h)) q ht hv hl
     exact ⟨b1,jx mB⟩
theorem T4 (S:aO P w I β hp B M w0) {α:Type}: ∀{bs:List BS} {j:Nat} {h:Hand} {k:Hand→Rd α} {r:α} {rd:List Nat},(rK P bs j h k).run C hp=some (r,rd)→
  ∃h' fK d u,(k h').run C hp=some (r,fK)∧Ext P w I β hp h h' d u∧d.length=Hb bs∧
   ∀rest,(fx bs (d++rest)).length=bs.length∧∃o:Nat→Option Nat,
    (∀(i:Nat) blk,(fx bs (d++rest))[i]? =some blk→∃p,eY h'.pl (j+i)=some p∧eP P w β hp p (o i) blk)∧
    nt P w I β hp h' u fun I' μ hp0=> ∀(i:Nat) blk,(fx bs (d++rest))[i]? =some blk→(∀b,bL P w (o i) blk b→¬I' b)→eO P w I' μ hp0 (o i) blk
 | [],j,h,k,r,rd,hr=>⟨h,rd,[],[],hr,Ext.refl h,rfl,fun rest=>⟨rfl,fun _=>none,fun i blk hb=>by simp[fx] at hb,fun I' μ hp0 _ _ _ _ _ _ i blk hb=>by simp[fx] at hb⟩⟩
 | b::bs,j,h,k,r,rd,hr=>by
  simp only[rK] at hr
  have fin: ∀{h1:Hand} {j5:List Nat} {d1:List V} {u1:List (Nat × ao)} {o1:Option Nat} {p:Place},(rK P bs (j+1) h1 k).run C hp=some (r,j5)→Ext P w I β hp h h1 d1 u1→d1.length=b.size→eY h.pl j=some p→
    (∀rest,eP P w β hp p o1 (gS b (d1++rest)))→(∀rest,nt P w I β hp h1 u1 fun I' μ hp0=>(∀bb,bL P w o1 (gS b (d1++rest)) bb→¬I' bb)→eO P w I' μ hp0 o1 (gS b (d1++rest)))→
    ∃h' fK d u,(k h').run C hp=some (r,fK)∧Ext P w I β hp h h' d u∧d.length=Hb (b::bs)∧
     ∀rest,(fx (b::bs) (d++rest)).length=(b::bs).length∧∃o:Nat→Option Nat,
      (∀(i:Nat) blk,(fx (b::bs) (d++rest))[i]? =some blk→∃p,eY h'.pl (j+i)=some p∧eP P w β hp p (o i) blk)∧
      nt P w I β hp h' u fun I' μ hp0=> ∀(i:Nat) blk,(fx (b::bs) (d++rest))[i]? =some blk→(∀b,bL P w (o i) blk b→¬I' b)→eO P w I' μ hp0 (o i) blk:=by
   intro h1 j5 d1 u1 o1 p hk he hd bI hl ht
   obtain ⟨h2,tL,d2,u2,b1,b2,b3,b4⟩:=T4 S hk
   refine ⟨h2,tL,d1++d2,u1++u2,b1,he.trans b2,by simp only[bO,Hb];omega,fun rest=> ?_⟩
   obtain ⟨c1,o,c2,c3⟩:=b4 rest
   simp only[fx]
   rw[show (d1++d2++rest).drop b.size=d2++rest by rw[dj];exact oM hd,dj]
   refine ⟨by simp[c1],fun i=>match i with|0=>o1|i+1=>o i,fun i blk hb=> ?_,fun I' μ hp0 i1 i2 ρ m ec dD i blk hb dp=> ?_⟩
   ·cases i with
    | zero=>
     simp at hb
     subst hb
     exact ⟨p,b2.look (he.look bI),hl _⟩
    | succ i=>
     obtain ⟨q,e1,e2⟩:=c2 i blk (by simpa using hb)
     exact ⟨q,by rw[show j+(i+1)=j+1+i by omega];exact e1,e2⟩
   ·cases i with
    | zero=>
     simp at hb
     subst hb
     exact ((ht _).later b2) I' μ hp0 i1 i2 ρ m ec dD dp
    | succ i=>exact c3.more I' μ hp0 i1 i2 ρ m ec dD i blk (by simpa using hb) dp
  cases bI:eY h.pl j with
  | none=>rw[bI] at hr;cases hr
  | some p=>
   rw[bI] at hr
   cases p with
   | blk id=>
    obtain ⟨l1,hr⟩:=run_get hr
    cases ai:hp id with
    | none=>rw[ai] at hr;cases hr
    | some blk=>
     rw[ai] at hr
     cases blk with
     | dead=>cases hr
     | var T0 cs=>
      cases b<;>simp only at hr<;>first|(cases hr;done)|skip
      rename_i T1 ss
      obtain ⟨hT,hr1⟩:=aP hr
      clear hr
      rw[bj] at hT
      subst hT
      have c8:=S.h.rel id _ ai
      generalize ho:β id=o at c8
      cases c8 with
      | @var _ bb Ca T hb hh hs hI hx ic=>
       obtain ⟨h1,j5,d1,u1,a1,a2,a3,a5,a4⟩:=L3 S hr1 (vs:=Ca.toList) (by simpa using hs) (fun j v x hj cU=>hx j v x (by simpa using hj) cU)
       refine fin (o1:=β id) a1 a2 a3 bI (fun rest=> .var ai) fun rest I' μ hp0 i1 i2 ρ m ec dD dp=> ?_
       obtain ⟨k1,k2⟩:=a4 I' μ hp0 i1 i2 ρ m ec dD rest
       exact .var (ho.trans hb) hh (by rw[k1];exact hs) (dp _ (.root (by simp[gS]) (ho.trans hb))) (fun i v y hi hy=>k2 i v y (by simpa using hi) hy) ic
     | arr e' es fz=>
      cases fz with
      | true=>cases hr
      | false=>
       cases b with
       | arr e fz=>
        cases fz with
        | true=>cases hr
        | false=>
         obtain ⟨hc,vp⟩:=aP hr
         clear hr
         rw[bj] at hc
         subst hc
         refine fin (d1:=[.list e es]) (o1:=β id) vp (Ext.leaf h _) rfl bI (fun rest=>eP.arr ai) fun rest I' μ hp0 i1 i2 ρ m ec dD dp=> ?_
         change eO P w I' μ hp0 (β id) (.arr e es false)
         have c8:=S.h.rel id _ ai
         generalize ho:β id=o at c8 dp⊢
         cases c8 with
         | er hb=>exact .er hb
         | arr a1 a2 a3 a4 a5 a6 a7=>
          refine .arr a1 a2 a3 a4 (fun h=>by cases h) (fun _=>dp _ (.root (by simp[gS]) a2)) fun i j x t' y1 y2 y3=> ?_
          obtain ⟨v,z1,z2⟩:=a7 i j x t' y1 y2 y3
          exact ⟨v,z1,z2.mono i1 fun _ _=>rfl⟩
       | _=>cases hr
     | nest e' es av=>
      cases b with
      | nest e=>
       obtain ⟨hc,vp⟩:=aP hr
       clear hr
       rw[bj] at hc
       subst hc
       refine fin (d1:=[.list e es]) (o1:=β id) vp (Ext.leaf h _) rfl bI (fun rest=>eP.nest ai) fun rest I' μ hp0 i1 i2 ρ m ec dD dp=> ?_
       have T6: ∀bb,bL P w (β id) (.nest e es [0,0,0]) bb→¬I' bb:=dp
       change eO P w I' μ hp0 (β id) (.nest e es [0,0,0])
       have c8:=S.h.rel id _ ai
       generalize ho:β id=o at c8 T6⊢
       cases c8 with
       | nest hb c9 pC=>
        refine .nest hb (fun q b' e1 m1 hq=> ?_) pC
        obtain ⟨ok,⟨Ca,c1,c2,c3⟩,nI⟩:=c9 q b' e1 m1 hq
        refine ⟨ok,⟨Ca,c1,c2,fun i j x t' y1 y2 y3=> ?_⟩,T6 _ (.row hb hq)⟩
        obtain ⟨v,z1,z2⟩:=c3 i j x t' y1 y2 y3
        exact ⟨v,z1,z2.mono i1 (fun _ _=>rfl) fun _ _ _ _ _=>rfl⟩
      | _=>cases hr
     | map t' es=>
      cases b with
      | map t=>
       obtain ⟨hc,vp⟩:=aP hr
       clear hr
       rw[bj] at hc
       subst hc
       refine fin (d1:=[.list t es]) (o1:=β id) vp (Ext.leaf h _) rfl bI (fun rest=>eP.map ai) fun rest I' μ hp0 i1 i2 ρ m ec dD dp=> ?_
       change eO P w I' μ hp0 (β id) (.map t es)
       have c8:=S.h.rel id _ ai
       generalize ho:β id=o at c8 dp⊢
       cases c8 with
       | map a1 a2 a3 a4 a5 a6 a7=>exact .map a1 a2 a3 a4 (dp _ (.root (by simp[gS]) a2)) a6 a7
      | _=>cases hr
   | row id ver path=>
    obtain ⟨e0,es,av,l1,k1,k2,k3,k4,k5⟩:=pw hr
    obtain ⟨e',vv,m1,m2,m3⟩:=xF k5
    cases b with
    | arr e fz=>
     cases fz with
     | true=>cases m3
     | false=>
      obtain ⟨hc,m4⟩:=aP m3
      clear m3
      simp only[aU,bj,lB] at hc
      obtain ⟨rfl,BT,nc⟩:=hc
      have c8:=S.h.rel id _ k1
      cases hb:β id with
      | none=>
       rw[hb] at c8
       cases c8 with
       | nest aE _ _=>cases aE
      | some b0=>
       rw[hb] at c8
       cases c8 with
       | nest aE c9 pC=>
        cases aE
        obtain ⟨b1,dP⟩:=TZ c9 path m1 m2 nc
        refine fin (d1:=[.list e vv.toList]) (o1:=some b1) m4 (Ext.leaf h _) rfl bI (fun rest=>eP.row k1 hb dP BT k2 k3 k4 nc) fun rest I' μ hp0 i1 i2 ρ m ec dD dp=> ?_
        change eO P w I' μ hp0 (some b1) (.arr e vv.toList false)
        obtain ⟨ok,⟨Ca,c1,c2,c3⟩,nI⟩:=c9 _ _ _ _ dP
        refine .arr ok rfl c1 c2 (fun h=>by cases h) (fun _=>dp _ (.root (by simp[gS]) rfl)) fun i j x t' y1 y2 y3=> ?_
        obtain ⟨v,z1,z2⟩:=c3 i j x t' y1 y2 y3
        refine ⟨v,z1,?_⟩
        generalize cb P e x j=y at z2⊢
        cases z2 with
        | gW _ p=>exact p.mono i1 fun _ _=>rfl
        | emp hu _=>exact absurd hu (T7 BT y2 _)
        | row hu _ _ _ _=>exact absurd hu (T7 BT y2 _)
    | _=>cases m3
where
 T7 {e t:TypeId} {j:Nat} (h:A1 P e=true) (ht:(bp P e)[j]? =some t) (e':TypeId):P.underlying t≠some (.slice e'):=by
  intro hu
  have h2:=gz.1 h t (kg ht)
  rw[hu] at h2
  cases h2
end
end Go.AM
