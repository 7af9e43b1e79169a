/-
  Functions of the program, lifted to plain data.
-/
import Derived.Great.BuildSlice
import Derived.Maps.Keyed
import Derived.WideKeyArr
import Derived.MapKept
import Derived.ChangeMaps4
import Derived.Carry
import Derived.Lib.AppendStr
import Derived.Laws.BytesString
import Derived.Lib.Builder
import Derived.Lib.UnsafeStr
import Derived.Test.YtmcdbnalaobmpaaDoorP1
set_option linter.unusedVariables false
set_option linter.unusedSimpArgs false
namespace Go.AM
section
variable {P:Program} {w w':World} {I I':Nat→Prop} {β au:Nat→Option Nat} {hp hp':Nat→Option ak} {C:ae} {B:Nat} {M:Nat→Prop} {w0:Start}
theorem aaW (S:aP P w I β hp B M w0) {t:TypeId} {a v:Value} {xa x:V} {r:R} {rd:List Nat} (ha:an P w I β hp a xa) (hv:an P w I β hp v x)
  (h:(JF P t xa x).run C hp=some (r,rd)):p5 P ((Instr.storeAt t a v).run P w) w I β hp B M w0 r:=by
 unfold JF at h
 obtain ⟨h0,h⟩:=aQ h
 simp only[aS,aX] at h0
 obtain ⟨ht,hn⟩:=h0
 cases xa with
 | ptr id i c=>
  obtain ⟨l,h⟩:=run_get h
  cases aa:hp id with
  | none=>rw[aa] at h;cases h
  | some blk=>
   rw[aa] at h
   cases blk with
   | dead=>cases h
   | var T0 cs=>
    obtain ⟨QT,h⟩:=aQ h
    have mN:pQ P T0=true→0<c:=fun b6=>by
     rw[b6] at QT
     simpa using QT
    obtain ⟨b,hb,rfl⟩:=ha.ic aa (by simp)
    simp only[ak.sz,Nat.mul_zero,dV]
    cases pZ:(Ac P t cs&&eN P t x) with
    | true=>
     dsimp only at h
     rw[pZ] at h
     simp only[cond_true] at h
     obtain ⟨hc,h⟩:=aQ h
     obtain rfl:=aU h
     simp only[aS,ku] at hc pZ
     obtain ⟨o1,o2⟩:=QM hv pZ.2
     have lT:=aaH pZ.2
     refine QK S aa hb ht hn (by rw[o2,lT];rfl) mN (fun j u y hu hy=> ?_) (by rw[o2];simp[o1]) (by rw[lT];simp;omega) (QJ _ _ _ _) (fun j y hy hj u hu=> ?_) (fun j y hy hj u hu=> ?_)
     ·rw[o2] at hu
      rw[lT] at hy
      cases j with
      | zero=>simp at hu hy;subst hu;subst hy;exact hv
      | succ j=>simp at hy
     ·rw[Kf] at hy
      cases xC:cs[j]? with
      | none=>rw[xC] at hy;cases hy
      | some y0=>
       rw[xC] at hy
       simp only[Option.map_some,dO] at hy
       rw[lT] at hj
       simp only[List.length_singleton] at hj
       have bY:Nat.beq c (0+j)=false:=by
        cases hq:Nat.beq c (0+j) with
        | false=>rfl
        | true=>rw[aX] at hq;omega
       rw[bY] at hy
       have:=Qy (c:=false) hv (hu y0 xC)
       rw[←hy]
       simpa using this
     ·rw[lT] at hj hu
      have hj0:j=0:=by simpa using hj
      subst hj0
      rw[Kf] at hy
      cases xC:cs[c+0]? with
      | none=>rw[xC] at hy;cases hy
      | some y0=>
       rw[xC] at hy
       simp only[Option.map_some,dO] at hy
       have heq:Nat.beq c (0+(c+0))=true:=by rw[aX];omega
       rw[heq] at hy
       have h2:an P w I β hp u x:=hu x rfl
       have:ti true x y0=x:=aaI x y0
       rw[←hy,this]
       exact h2
    | false=>
     dsimp only at h
     rw[pZ] at h
     simp only[cond_false] at h
     obtain ⟨hc,h⟩:=aQ h
     simp only[aS,eL] at hc
     obtain ⟨e1,e2⟩:=Kd hv h
     obtain ⟨h1,l2,h⟩:=FK h (vs:=v.cells.toList) (by simpa using e1) (fun j u y a b=>e2 j u y (by simpa using a) b)
     obtain rfl:=aU h
     refine QK S aa hb ht hn e1 mN e2 h1 hc.2 (AP _ _ _ hc.2) (fun j y hy hj u hu=> ?_) (fun j y hy hj u hu=> ?_)
     ·unfold gi at hy
      rw[nU _ _ _ _ hc.2] at hy
      rcases hj with hj|hj
      ·rw[af hj] at hy;exact hu y hy
      ·rw[ah (by omega),ah (by omega)] at hy;exact hu y hy
     ·unfold gi at hy
      rw[nU _ _ _ _ hc.2,ah (by omega),af (by omega)] at hy
      rw[show c+j-c=j by omega] at hy
      exact hu y hy
   | arr e es fz=>
    cases fz with
    | true=>cases h
    | false=>
    obtain ⟨b,hb,rfl⟩:=ha.ic aa (by simp)
    obtain ⟨aE,h⟩:=aQ h
    obtain ⟨⟨ys,fr⟩,l1,l2,bB,h⟩:=lh h
    obtain ⟨hc,h⟩:=aQ h
    obtain ⟨x0,rC,h⟩:=lR h
    obtain rfl:=aU h
    simp only[aS,nB,eL] at hc
    obtain ⟨eb,hc3,ja⟩:=hc
    have p6:v.cells.size=x.cells.length∧∀(j:Nat) u y,v.cells.toList[j]? =some u→x.cells[j]? =some y→an P w I β hp u y:=by
     cases x with
     | agg xs=>
      obtain ⟨cs,rfl,h1,h2⟩:=hv.lj
      exact ⟨h1,fun j u y a b=>h2 j u y (by simpa[Value.cells] using a) b⟩
     | _=>
      simp only[V.cells] at bB ja⊢
      simp only[th] at bB
      obtain ⟨⟨y1,u1⟩,l3,l4,hq,bB⟩:=lh bB
      obtain ⟨q1,q2⟩:=Fz S.h.rel hq hv
      obtain ⟨⟨y2,u2⟩,l5,l6,ll,bB⟩:=lh bB
      cases ll
      have:=aU bB
      cases this
      obtain ⟨tl,tg⟩:=vb ja
      have fW:=tg 0 _ y1 (bI (by rw[tl];exact Nat.one_pos)) rfl
      have fV:=q2 (jb P w I β hp u1) (fun _ h=> .inl h) (fun p hp b h=> .inr ⟨p,hp,h⟩)
      have ho:=fV.pure fW
      have Kt:v.cells= #[v]:=by cases ho<;>rfl
      rw[Kt]
      refine ⟨rfl,fun j u y hu hy=> ?_⟩
      cases j with
      | zero=>simp at hu hy;subst hu;subst hy;exact hv
      | succ j=>simp at hy
    obtain ⟨k1,k2,k3⟩:=J7 S.h.rel bB (vs:=v.cells.toList) (by simpa using p6.1) p6.2
    obtain ⟨rA,S1⟩:=AH S k2
    have AW:bX hp fr id=some (.arr e es false):=by
     rcases u3 (hp:=hp) (l:=fr) (id:=id) with h|⟨b',hm,_⟩
     ·exact h.trans aa
     ·exfalso
      have p7:kB (fr.map (·.1)) id=true:=xu (fg.2 ⟨_,hm,rfl⟩)
      rw[p7] at eb;cases eb
    have QU:=k3 (jb P w I β hp fr) (fun _ h=> .inl h) (fun p hp b h=> .inr ⟨p,hp,h⟩)
    obtain ⟨tl,tg⟩:=vb ja
    have xn:=(kK aE).1
    have ve:ys.length=v.cells.size:=by rw[k1,p6.1]
    have hcn:c+v.cells.size≤P.cellsOf e:=by rw[p6.1];exact hc3
    have hr:=S1.h.rel id _ AW
    cases hr with
    | dZ aH=>simp at rC
    | @arr _ _ _ b' Ca Kc aH hh hs hf eB hx=>
     rw[hb] at aH
     cases aH
     have lU:i<es.length:=(bA.1 rC).1
     have hbound:i*P.cellsOf e+P.cellsOf e≤Ca.size:=by
      have:(i+1)*P.cellsOf e≤es.length*P.cellsOf e:=dJ _ lU
      rw[ee] at this
      omega
     simp only[ak.sz]
     have tD:i*P.cellsOf e+c+v.cells.size≤Ca.size:=by omega
     have cO: ¬jb P w I β hp fr b:=eB rfl
     have h1: ∀u∈v.cells.toList,u.oneCell'=true:=by
      intro u hu
      obtain ⟨j,hj⟩:=sZ hu
      have c6:j<ys.length:=by rw[ve];simpa using (bA.1 hj).1
      have oZ:j<(((flat P e).drop c).take x.cells.length).length:=by rw[tl];exact c6
      exact (QU j u ys[j] hj (bI c6)).one (tg j _ ys[j] (bI oZ) (bI c6))
     have c7:=Ke (t:=t) (o:=i*P.cellsOf e+c) (v:=v) ht (by rw[p6.1];exact hn.symm) hh tD h1
     have hlen:(Ca.toList.take (i*P.cellsOf e+c)++(v.cells.toList++Ca.toList.drop (i*P.cellsOf e+c+v.cells.toList.length))).length=Ca.size:=by
      rw[AP _ _ _ (by simpa using tD)];simp
     have fV:(parts P e x0).length=P.cellsOf e:=by rw[xq];exact fU aE
     have AQ:=FL S1 (blk':= .arr e (es.set i (cC P e (gi (parts P e x0) c ys))) false)
      (Cb:=(Ca.toList.take (i*P.cellsOf e+c)++(v.cells.toList++Ca.toList.drop (i*P.cellsOf e+c+v.cells.toList.length))).toArray) AW (by simp) ⟨rfl,by simp⟩ hb cO (by simp) hh (by simpa using hlen)
      (fun hle fj=> .arr aE rfl fj (by simp only[qR,qS];omega) (fun h=>by cases h) (fun _=>cO) fun i' j z t' hz oZ hj=>by
       simp only[nC]
       rw[nU _ _ _ _ (by simpa using tD)]
       simp only[Array.length_toList]
       rw[uy] at hz
       by_cases jd:i=i'
       ·subst jd
        rw[af rfl,af lU] at hz
        cases hz
        have FU:j<(parts P e x0).length:=by omega
        have vf:(gi (parts P e x0) c ys)[j]? =if j<c then (parts P e x0)[j]? else if j<c+ys.length then ys[j-c]? else (parts P e x0)[j]? :=by
         unfold gi;exact nU _ _ _ _ (by omega)
        by_cases ru:j<c
        ·rw[af (by omega)]
         rw[af ru] at vf
         obtain ⟨u,t2,a1,a2,a3⟩:=FH hx aE rC (bI FU)
         rw[oZ] at a1;cases a1
         refine ⟨u,by simpa using a2,?_⟩
         rw[rv (vf.trans (bI FU)) oZ]
         exact a3.mono hle.dw hle.cu
        ·rw[ah ru] at vf
         by_cases cv:j<c+ys.length
         ·rw[af cv] at vf
          rw[ah (by omega),af (by omega)]
          have p8:j-c<ys.length:=by omega
          have QV:j-c<v.cells.toList.length:=by simp;omega
          have ap3:j-c<v.cells.size:=by omega
          refine ⟨v.cells.toList[j-c],?_,?_⟩
          ·rw[show i*P.cellsOf e+j-(i*P.cellsOf e+c)=j-c by omega]
           exact bI QV
          ·rw[rv (vf.trans (bI p8)) oZ]
           have hft:(((flat P e).drop c).take x.cells.length)[j-c]? =some t':=by
            rw[fv (by omega),iq,show c+(j-c)=j by omega,←tA]
            exact oZ
           exact ((QU (j-c) _ ys[j-c] (bI QV) (bI p8)).pure (tg (j-c) t' ys[j-c] hft (bI p8))).mono hle.dw hle.cu
         ·rw[ah cv] at vf
          rw[ah (by omega),ah (by omega)]
          obtain ⟨u,t2,a1,a2,a3⟩:=FH hx aE rC (bI FU)
          rw[oZ] at a1;cases a1
          refine ⟨u,by simpa using a2,?_⟩
          rw[rv (vf.trans (bI FU)) oZ]
          exact a3.mono hle.dw hle.cu
       ·rw[ah jd] at hz
        obtain ⟨u,a2,a3⟩:=hx i' j z t' hz oZ hj
        have bY:i'*P.cellsOf e+j<i*P.cellsOf e+c∨i*P.cellsOf e+c+v.cells.size≤i'*P.cellsOf e+j:=by
         rcases eg i' i with aY|p9
         ·left
          have:(i'+1)*P.cellsOf e≤i*P.cellsOf e:=dJ _ aY
          rw[ee] at this
          omega
         ·right
          have:(i+1)*P.cellsOf e≤i'*P.cellsOf e:=dJ _ (by omega)
          rw[ee] at this
          omega
        refine ⟨u,?_,a3.mono hle.dw hle.cu⟩
        rcases bY with bY|bY
        ·rw[af bY];simpa using a2
        ·rw[ah (by omega),ah (by omega)];simpa using a2)
     exact ⟨_,_,_,c7,rA.trans AQ.1,AQ.2,rfl⟩
   | map _ _=>cases h
   | nest e es aq=>
    obtain ⟨b,hb,rfl⟩:=ha.ic aa (by simp)
    exact QS S ht hn hv aa hb .here h
 | cI id ver path i c=>
  obtain ⟨e0,es,aq,l,aa,h1,h2,h3,h⟩:=oU h
  obtain ⟨b,b1,e1,l1,hb,dx,rfl⟩:=ha.Qv aa h1 h2 h3
  exact QS S ht hn hv aa hb dx h
 | _=>cases h
end
section
variable {P:Program} {w w':World} {I I':Nat→Prop} {β au:Nat→Option Nat} {hp hp':Nat→Option ak} {C:ae} {B:Nat} {M:Nat→Prop} {w0:Start}
theorem Ku: ∀{ts:List TypeId} {vs:List Value} {j:Nat} {y:V},(jy P ts vs)[j]? =some y→∃t v,ts[j]? =some t∧vs[j]? =some v∧y=pP P t v
 | [],vs,j,y,h=>by simp[jy] at h
 | _::_,[],j,y,h=>by simp[jy] at h
 | t::ts,v::vs,0,y,h=>by simp[jy] at h;exact ⟨t,v,rfl,rfl,h.symm⟩
 | t::ts,v::vs,j+1,y,h=>by
  simp only[jy,List.getElem?_cons_succ] at h
  obtain ⟨t',v',a,b,c⟩:=Ku h
  exact ⟨t',v',by simpa using a,by simpa using b,c⟩
theorem QW: ∀{ts:List TypeId} {vs:List Value},ts.length=vs.length→(jy P ts vs).length=vs.length
 | [],[],_=>rfl
 | [],_::_,h=>by simp at h
 | _::_,[],h=>by simp at h
 | t::ts,v::vs,h=>by simp[jy,QW (ts:=ts) (vs:=vs) (by simpa using h)]
theorem kM {e:TypeId} (h:cP P e=true): ∃i z,P.info? e=some i∧i.zero=some z∧i.size=P.cellsOf e∧z.cells.size=P.cellsOf e∧zeroCells P e=jy P (flat P e) z.cells.toList:=by
 unfold cP at h
 simp only[aS,aX,ku] at h
 obtain ⟨h1,h2,_,h3⟩:=h
 cases hi:P.info? e with
 | none=>rw[hi] at h3;cases h3
 | some i=>
  rw[hi] at h3
  simp only[Option.bind_some] at h3
  cases hz:i.zero with
  | none=>rw[hz] at h3;cases h3
  | some z=>
   rw[hz] at h3
   simp only[aX] at h3
   exact ⟨i,z,rfl,hz,by simp[Program.cellsOf,hi],h3,by simp[zeroCells,hi,hz]⟩
theorem QX {e:TypeId} (h:cP P e=true): ∃i z,P.info? e=some i∧i.zero=some z∧z.cells.size=(zeroCells P e).length∧z.cells.size=P.cellsOf e∧
  ∀(j:Nat) v x,z.cells[j]? =some v→(zeroCells P e)[j]? =some x→an P w I β hp v x:=by
 obtain ⟨i,z,h1,h2,h3,h4,h5⟩:=kM h
 have hl:(flat P e).length=z.cells.toList.length:=by rw[(kK h).1];simpa using h4.symm
 refine ⟨i,z,h1,h2,?_,h4,fun j v x hv hx=> ?_⟩
 ·rw[h5,QW hl];simp
 ·rw[h5] at hx
  obtain ⟨t,v',_,xr,rfl⟩:=Ku hx
  have:v'=v:=by
   have e1:z.cells[j]? =some v':=by simpa using xr
   rw[hv] at e1;exact (cX e1).symm
  subst this
  exact an.const t v'
theorem nY {nb:Nat} {b:ak} {v:V} {upd:List (Nat × ak)} {r:R} {rd:List Nat} (h:(jB nb b v upd).run C hp=some (r,rd)):hp nb=none∧r=⟨v,(nb,b)::upd⟩:=by
 obtain ⟨l,h⟩:=run_get h
 cases hn:hp nb with
 | none=>rw[hn] at h;exact ⟨rfl,(aU h).symm⟩
 | some x=>rw[hn] at h;cases h
theorem QY (S:aP P w I β hp B M w0) {nb:Nat} {xs:List V} {C0:Array Value} {T:TypeId} (hn:hp nb=none) (hs:C0.size=xs.length)
  (hx: ∀(j:Nat) v x,C0[j]? =some v→xs[j]? =some x→an P w I β hp v x) (gJ:Qq P w.heap.size T C0):
  Le P w I β hp (w.alloc (.cells C0 T)) I (aR β nb (some w.heap.size)) (aR hp nb (some (.var T xs)))∧aP P (w.alloc (.cells C0 T)) I (aR β nb (some w.heap.size)) (aR hp nb (some (.var T xs))) B M w0∧
  an P (w.alloc (.cells C0 T)) I (aR β nb (some w.heap.size)) (aR hp nb (some (.var T xs))) (.pointer (some ⟨w.heap.size,0,none⟩)) (.ptr nb 0 0):=by
 obtain ⟨h1,h2⟩:=J8 S (blk:= .var T xs) (c:=C0) (T:=T) hn (fun b' h=>(cX (h.flat (by simp))).symm) (fun hle fj cO=> .var rfl fj hs cO (fun j v x a b=>(hx j v x a b).mono hle) gJ)
 refine ⟨h1,h2,?_⟩
 have:=an.ptr (P:=P) (w:=w.alloc (.cells C0 T)) (I:=I) (β:=aR β nb (some w.heap.size)) (hp:=aR hp nb (some (.var T xs))) (i:=0) (c:=0) (blk:= .var T xs) (cZ _ _ _) (by simp) (cZ _ _ _)
 simpa using this
theorem aaX (S:aP P w I β hp B M w0) {e:TypeId} {nb:Nat} {r:R} {rd:List Nat}
  (h:(Rd.aK (cP P e&&(!(pQ P e)||Qm (zeroCells P e))) (jB nb (.var e (zeroCells P e)) (.ptr nb 0 0) [])).run C hp=some (r,rd)):c9 P ((Instr.alloc e true (.tuple #[])).run P w) w I β hp B M w0 r:=by
 obtain ⟨aE,h⟩:=aQ h
 rw[aS] at aE
 obtain ⟨aE,mN⟩:=aE
 obtain ⟨hn,rfl⟩:=nY h
 obtain ⟨i,z,h1,h2,h3,h4,h5⟩:=QX (w:=w) (I:=I) (β:=β) (hp:=hp) aE
 obtain ⟨a,b,c⟩:=QY S (T:=e) hn h3 h5 fun b6=>by
  rw[b6,zP,Bool.false_or] at mN
  cases hz:zeroCells P e with
  | nil=>rw[hz] at mN;cases mN
  | cons y l=>
   rw[hz] at mN h3 h5
   cases y<;>first|(cases mN;done)|skip
   have aY:0<z.cells.size:=by rw[h3];simp
   have:=h5 0 z.cells[0] .dF (kY aY) rfl
   left
   rw[kY aY]
   generalize z.cells[0]=u at this
   cases this;rfl
 exact ⟨_,_,_,_,by simp[Instr.alloc,zeroValue,typeInfo,h1,h2,newVar,newRow],a,b,c⟩
theorem aaY (S:aP P w I β hp B M w0) {e:TypeId} {nb:Nat} {x:V} {v:Value} {r:R} {rd:List Nat} (hv:an P w I β hp v x)
  (h:(Rd.aK (!(pQ P e)) <| lO x.cells (jB nb (.var e x.cells) (.ptr nb 0 0) [])).run C hp=some (r,rd)):c9 P ((Instr.box e v).run P w) w I β hp B M w0 r:=by
 obtain ⟨mN,h⟩:=aQ h
 obtain ⟨e1,e2⟩:=Kd hv h
 obtain ⟨_,l,h⟩:=FK h (vs:=v.cells.toList) (by simpa using e1) (fun j u y a b=>e2 j u y (by simpa using a) b)
 obtain ⟨hn,rfl⟩:=nY h
 obtain ⟨a,b,c⟩:=QY S (T:=e) hn e1 e2 fun b6=>by rw[b6] at mN;cases mN
 exact ⟨_,_,_,_,by simp[Instr.box,newVar,newRow],a,b,c⟩
theorem foldl_set (off:Nat): ∀(vs:List Value) (k:Nat) (cs:Array Value) (i:Nat),off+k+vs.length≤cs.size→
  ((vs.zipIdx k).foldl (fun cs p=>cs.setIfInBounds (off+p.2) p.1) cs)[i]? =if i<off+k then cs[i]? else if i<off+k+vs.length then vs[i-(off+k)]? else cs[i]?
 | [],k,cs,i,h=>by simp;intro h1 h2;omega
 | v::vs,k,cs,i,h=>by
  simp only[List.zipIdx_cons,List.foldl_cons]
  simp only[List.length_cons] at h⊢
  rw[foldl_set off vs (k+1) _ i (by simp;omega)]
  by_cases h1:i<off+k
  ·rw[af (by omega),af h1]
   rw[EV (by omega)]
  ·rw[ah h1]
   by_cases h2:i=off+k
   ·subst h2
    rw[af (by omega),af (by omega)]
    rw[JC (by omega)]
    simp
   ·rw[ah (by omega)]
    by_cases h3:i<off+k+(vs.length+1)
    ·rw[af (by omega),af h3,show i-(off+k)=(i-(off+(k+1)))+1 by omega]
     simp
    ·rw[ah (by omega),ah h3,EV (by omega)]
theorem QZ (off:Nat): ∀(vs:List Value) (k:Nat) (cs:Array Value),((vs.zipIdx k).foldl (fun cs p=>cs.setIfInBounds (off+p.2) p.1) cs).size=cs.size
 | [],k,cs=>rfl
 | v::vs,k,cs=>by
  simp only[List.zipIdx_cons,List.foldl_cons]
  rw[QZ off vs (k+1)]
  simp
theorem Q0 {cells:Array Value} {off:Nat} {v:Value} (h:off+v.cells.size≤cells.size) (i:Nat):
  (v.cells.zipIdx.foldl (fun cs (p:Value × Nat)=>cs.setIfInBounds (off+p.2) p.1) cells)[i]? =if i<off then cells[i]? else if i<off+v.cells.size then v.cells[i-off]? else cells[i]? :=by
 have:=foldl_set off v.cells.toList 0 cells i (by simpa using h)
 rw[←EW]
 simpa[Array.toList_zipIdx] using this
theorem Q1 {cells:Array Value} {off:Nat} {v:Value}:(v.cells.zipIdx.foldl (fun cs (p:Value × Nat)=>cs.setIfInBounds (off+p.2) p.1) cells).size=cells.size:=by
 have:=QZ off v.cells.toList 0 cells
 rw[←EW]
 simpa[Array.toList_zipIdx] using this
inductive xD (P:Program) (w:World) (I:Nat→Prop) (β:Nat→Option Nat) (hp:Nat→Option ak):List (Nat × Value)→List (Nat × V)→Prop
 | nil:xD P w I β hp [] []
 | cons {i:Nat} {v:Value} {x:V} {vs:List (Nat × Value)} {xs:List (Nat × V)}:v.cells.size=x.cells.length→(∀(j:Nat) u y,v.cells[j]? =some u→x.cells[j]? =some y→an P w I β hp u y)→
   xD P w I β hp vs xs→xD P w I β hp ((i,v)::vs) ((i,x)::xs)
theorem Q2 (place:Nat→Option (Nat × Nat)): ∀{vs:List (Nat × Value)} {px:List (Nat × V)} {cells:Array Value} {xs ys:List V},xD P w I β hp vs px→cells.size=xs.length→
  (∀(j:Nat) v x,cells[j]? =some v→xs[j]? =some x→an P w I β hp v x)→uK place xs px=some ys→
  ∃qa:Array Value,Instr.fill place cells vs=some qa∧qa.size=ys.length∧∀(j:Nat) v x,qa[j]? =some v→ys[j]? =some x→an P w I β hp v x
 | _,_,cells,xs,ys,.nil,hs,hx,h=>by
  simp only[uK,dO] at h
  subst h
  exact ⟨cells,by simp[Instr.fill],hs,hx⟩
 | _,_,cells,xs,ys,@xD.cons _ _ _ _ _ i v x vs px h1 h2 h3,hs,hx,h=>by
  simp only[uK] at h
  cases fV:place i with
  | none=>rw[fV] at h;cases h
  | some os=>
   obtain ⟨off,size⟩:=os
   rw[fV] at h
   simp only at h
   cases hc:(Nat.beq x.cells.length size&&Nat.ble (off+size) xs.length) with
   | false=>rw[hc] at h;cases h
   | true=>
    rw[hc] at h
    simp only[cond_true] at h
    simp only[aS,aX,eL] at hc
    have hv:off+v.cells.size≤cells.size:=by omega
    have hb:off+x.cells.length≤xs.length:=by omega
    have hl:(gi xs off x.cells).length=xs.length:=AP _ _ _ hb
    obtain ⟨qa,f1,f2,f3⟩:=Q2 place (cells:=v.cells.zipIdx.foldl (fun cs (p:Value × Nat)=>cs.setIfInBounds (off+p.2) p.1) cells) (xs:=gi xs off x.cells) h3 (by rw[Q1,hl,hs])
     (fun j u y hu hy=>by
      rw[Q0 hv] at hu
      unfold gi at hy
      rw[nU _ _ _ _ hb] at hy
      by_cases j1:j<off
      ·rw[af j1] at hu hy;exact hx j u y hu hy
      ·rw[ah j1] at hu hy
       by_cases j2:j<off+x.cells.length
       ·rw[af (by omega)] at hu
        rw[af j2] at hy
        exact h2 (j-off) u y hu hy
       ·rw[ah (by omega)] at hu
        rw[ah j2] at hy
        exact hx j u y hu hy) h
    refine ⟨qa,?_,f2,f3⟩
    simp only[Instr.fill,fV]
    rw[ah (by simp;omega)]
    exact f1
theorem aaZ {t:TypeId} {parts:Array (Nat × Value)} {cells:Array Value} {z:Value} {i:TypeInfo} (hi:P.info? t=some i) (hz:i.zero=some z) (h:Instr.fill (placeOf P t) z.cells parts.toList=some cells) (ha:bP P t=true)
  (fV: ∀fs,P.underlying t=some (.struct fs)→(fs.toList.mapM fun f=>(P.info? f.type).map fun i=>(f.offset,i.size)).isSome=true) (rD: ∀n e,P.underlying t=some (.array n e)→(P.info? e).isSome=true):
  (Instr.build t parts).run P w= .ok (.agg cells) w:=by
 refine run_build w t parts cells ?_
 unfold Program.built
 unfold bP at ha
 rw[hi]
 split at ha
 ·rename_i fs hu
  have:=fV fs hu
  cases hm:fs.toList.mapM fun f=>(P.info? f.type).map fun i=>(f.offset,i.size) with
  | none=>rw[hm] at this;cases this
  | some places=>
   simp only[hu,hz,hm]
   have hq:placeOf P t=fun i=>places[i]? :=by simp[placeOf,hu,hm]
   rw[hq] at h
   simpa using h
 ·rename_i n e hu
  have:=rD n e hu
  cases j4:P.info? e with
  | none=>rw[j4] at this;cases this
  | some ie=>
   simp only[hu,hz,j4]
   have hq:placeOf P t=fun i=>some (i*ie.size,ie.size):=by simp[placeOf,hu,j4]
   rw[hq] at h
   exact h
 ·cases ha
theorem Q3 {α:Type}: ∀(xs ys:List V) (k:Rd α),lO (xs++ys) k=lO xs (lO ys k)
 | [],_,_=>rfl
 | x::xs,ys,k=>by simp only[List.cons_append,lO,Q3 xs ys k]
theorem Q4 {a:Act} {sl:Nat→V} (hs:lg P w I β hp a sl) {G:Nat→V} (hg:hY P G w I) (t:TypeId) {α:Type}: ∀{l:List (Nat × Operand)} {k:Rd α} {r:α} {rd:List Nat},
  (lO ((l.map fun p=>(aV P G t sl p.2).cells).flatten) k).run C hp=some (r,rd)→
  xD P w I β hp (l.map fun p=>(p.1,a.eval p.2)) (l.map fun p=>(p.1,aV P G t sl p.2))∧∃fk,k.run C hp=some (r,fk)
 | [],k,r,rd,h=>⟨.nil,rd,h⟩
 | (i,x)::l,k,r,rd,h=>by
  simp only[jw,List.flatten_cons,Q3] at h
  obtain ⟨e1,e2⟩:=Kd (hs.ev hg t x) h
  obtain ⟨_,l1,h⟩:=FK h (vs:=(a.eval x).cells.toList) (by simpa using e1) (fun j u y a b=>e2 j u y (by simpa using a) b)
  obtain ⟨h1,h2⟩:=Q4 hs hg t h
  exact ⟨.cons e1 e2 h1,h2⟩
theorem aa0 (S:aP P w I β hp B M w0) {a:Act} {sl:Nat→V} (hs:lg P w I β hp a sl) {G:Nat→V} (hg:hY P G w I) {t ty:TypeId} {ps:Array (Nat × Operand)} {r:R} {rd:List Nat}
  (h:(Rd.aK (cP P t&&(bP P t&&Fj P t)) (lO ((ps.toList.map fun p=>(aV P G ty sl p.2).cells).flatten)
   (w9 (uK (placeOf P t) (zeroCells P t) (ps.toList.map fun p=>(p.1,aV P G ty sl p.2))) fun cs=> .ret ⟨.agg cs,[]⟩))).run C hp=some (r,rd)):
  c9 P ((Instr.build t (ps.map fun (i,x)=>(i,a.eval x))).run P w) w I β hp B M w0 r:=by
 obtain ⟨aE,h⟩:=aQ h
 simp only[aS] at aE
 obtain ⟨h1,l,h⟩:=Q4 hs hg ty h
 cases hf:uK (placeOf P t) (zeroCells P t) (ps.toList.map fun p=>(p.1,aV P G ty sl p.2)) with
 | none=>rw[hf] at h;cases h
 | some cs=>
  rw[hf] at h
  obtain rfl:=aU h
  obtain ⟨i,z,hi,hz,h3,h4,h5⟩:=QX (w:=w) (I:=I) (β:=β) (hp:=hp) aE.1
  obtain ⟨cells,f1,f2,f3⟩:=Q2 (placeOf P t) h1 h3 h5 hf
  have Q5:=aE.2.2
  refine .same S (v:= .agg cells) (aaZ hi hz (by simpa using f1) aE.2.1 (fun fs hu=> ?_) (fun n e hu=> ?_)) (.agg f2 f3)
  ·simpa[Fj,hu] using Q5
  ·simpa[Fj,hu] using Q5
theorem aa1 (cK: ∀id blk,hp id=some blk→ej P w I β hp (β id) blk) {x:V} {v:Value} {ys:List V} {fr:List (Nat × ak)} {rd:List Nat} {ts:List TypeId} (hv:an P w I β hp v x)
  (h:(th P x.cells).run C hp=some ((ys,fr),rd)) (ht:qW P ts ys=true):
  v.cells.size=x.cells.length∧∀(j:Nat) u y,v.cells.toList[j]? =some u→x.cells[j]? =some y→an P w I β hp u y:=by
 cases x with
 | agg xs=>
  obtain ⟨cs,rfl,h1,h2⟩:=hv.lj
  exact ⟨h1,fun j u y a b=>h2 j u y (by simpa[Value.cells] using a) b⟩
 | _=>
  simp only[V.cells] at h⊢
  simp only[th] at h
  obtain ⟨⟨y1,u1⟩,l3,l4,hq,h⟩:=lh h
  obtain ⟨q1,q2⟩:=Fz cK hq hv
  obtain ⟨⟨y2,u2⟩,l5,l6,ll,h⟩:=lh h
  cases ll
  have:=aU h
  cases this
  obtain ⟨tl,tg⟩:=vb ht
  have fW:=tg 0 _ y1 (bI (by rw[tl];exact Nat.one_pos)) rfl
  have fV:=q2 (jb P w I β hp u1) (fun _ h=> .inl h) (fun p hp b h=> .inr ⟨p,hp,h⟩)
  have ho:=fV.pure fW
  have Kt:v.cells= #[v]:=by cases ho<;>rfl
  rw[Kt]
  refine ⟨rfl,fun j u y hu hy=> ?_⟩
  cases j with
  | zero=>simp at hu hy;subst hu;subst hy;exact hv
  | succ j=>simp at hy
def xE (P:Program) (w:World) (I:Nat→Prop) (e:TypeId) (cells:Array Value) (es:List V):Prop:=
 cells.size=es.length*P.cellsOf e∧∀(i j:Nat) (x:V) (t':TypeId),es[i]? =some x→(a9 P e)[j]? =some t'→j<P.cellsOf e→∃v,cells[i*P.cellsOf e+j]? =some v∧Pure P w I t' v (bS P e x j)
theorem xE.set {e:TypeId} {cells:Array Value} {es ys:List V} {i:Nat} {v:Value} (h:xE P w I e cells es) (hi:i<es.length) (hv:v.cells.size=P.cellsOf e) (hy:ys.length=P.cellsOf e)
  (hr: ∀(j:Nat) (t':TypeId) (u:Value) (y:V),(a9 P e)[j]? =some t'→v.cells[j]? =some u→ys[j]? =some y→Pure P w I t' u y):
  xE P w I e (v.cells.zipIdx.foldl (fun cs (p:Value × Nat)=>cs.setIfInBounds (i*P.cellsOf e+p.2) p.1) cells) (es.set i (cC P e ys)):=by
 obtain ⟨h1,h2⟩:=h
 have hb:i*P.cellsOf e+v.cells.size≤cells.size:=by
  have:(i+1)*P.cellsOf e≤es.length*P.cellsOf e:=dJ _ hi
  rw[ee] at this
  omega
 refine ⟨by rw[Q1,qS,h1],fun i' j x t' hx ht hj=> ?_⟩
 rw[Q0 hb]
 rw[uy] at hx
 by_cases jd:i=i'
 ·subst jd
  rw[af rfl,af hi] at hx
  cases hx
  rw[ah (by omega),af (by omega),show i*P.cellsOf e+j-i*P.cellsOf e=j by omega]
  have h3:j<v.cells.size:=by omega
  have h4:j<ys.length:=by omega
  refine ⟨v.cells[j],kY h3,?_⟩
  rw[rv (bI h4) ht]
  exact hr j t' _ _ ht (kY h3) (bI h4)
 ·rw[ah jd] at hx
  have bY:i'*P.cellsOf e+j<i*P.cellsOf e∨i*P.cellsOf e+v.cells.size≤i'*P.cellsOf e+j:=by
   rcases eg i' i with aY|p9
   ·left
    have:(i'+1)*P.cellsOf e≤i*P.cellsOf e:=dJ _ aY
    rw[ee] at this
    omega
   ·right
    have:(i+1)*P.cellsOf e≤i'*P.cellsOf e:=dJ _ (by omega)
    rw[ee] at this
    omega
  rcases bY with bY|bY
  ·rw[af bY];exact h2 i' j x t' hx ht hj
  ·rw[ah (by omega),ah (by omega)];exact h2 i' j x t' hx ht hj
theorem aa2 {t':TypeId} {v:Value} (fW:eN P t' (wZ (pP P t' v))=true):Pure P w I t' v (wZ (pP P t' v)):=by
 have hc:=an.const (P:=P) (w:=w) (I:=I) (β:=fun _=>none) (hp:=fun _=>none) t' v
 cases vg:pP P t' v<;>rw[vg] at fW hc<;>simp only[wZ] at fW⊢
 case int k n=>rw[hc.eI];exact Plain.pure (v:= .int k n) (y:= .int k n) rfl fW
 case bool b=>rw[hc.jX];exact Plain.pure (v:= .bool b) (y:= .bool b) rfl fW
 case str l=>obtain ⟨s,e1,e2⟩:=hc.mM;rw[e1];exact Plain.pure (v:= .string s) (y:= .str l) ⟨s,rfl,e2⟩ fW
 case nilS e'=>
  cases hc
  exact Plain.pure (y:= .list e' []) (iY.any fun _=>rfl) fW
 case list e' es=>
  cases hc with
  | list hp=>exact Plain.pure (y:= .list e' es) hp fW
 all_goals (unfold eN at fW;split at fW<;>simp_all)
theorem AX {e:TypeId} (h:mF P e=true): ∃i z,P.info? e=some i∧i.zero=some z∧i.size=P.cellsOf e∧z.cells.size=P.cellsOf e∧
  ∀(j:Nat) (t':TypeId),(a9 P e)[j]? =some t'→j<P.cellsOf e→∃v,z.cells[j]? =some v∧Pure P w I t' v (bS P e (cC P e (eW P e)) j):=by
 unfold mF at h
 simp only[aS] at h
 obtain ⟨i,z,h1,h2,h3,h4,h5⟩:=kM h.1
 refine ⟨i,z,h1,h2,h3,h4,fun j t' ht hj=> ?_⟩
 obtain ⟨tl,tg⟩:=vb h.2
 have c6:j<(eW P e).length:=by rw[←tl,(kK h.1).1];exact hj
 have hz:=bI c6
 have fW:=tg j t' _ (by rw[←tA];exact ht) hz
 refine ⟨z.cells[j],kY (by omega),?_⟩
 rw[rv hz ht]
 have vh:(eW P e)[j]=wZ (pP P t' z.cells[j]):=by
  have:(eW P e)[j]? =((zeroCells P e)[j]?).map wZ:=by simp[eW]
  rw[hz] at this
  cases hc:(zeroCells P e)[j]? with
  | none=>rw[hc] at this;cases this
  | some y=>
   rw[hc] at this
   simp only[Option.map_some,dO] at this
   rw[h5] at hc
   obtain ⟨t2,v2,a1,a2,rfl⟩:=Ku hc
   have Kv:t2=t':=by
    rw[←tA,ht] at a1;exact (cX a1).symm
   have ri:v2=z.cells[j]:=by
    have hjz:j<z.cells.size:=by omega
    have:z.cells.toList[j]? =some z.cells[j]:=by simp[hjz]
    rw[this] at a2;exact (cX a2).symm
   rw[this,Kv,ri]
 rw[vh] at fW⊢
 exact aa2 fW
end
section
variable {P:Program} {w w':World} {I I':Nat→Prop} {β au:Nat→Option Nat} {hp hp':Nat→Option ak} {C:ae} {B:Nat} {M:Nat→Prop} {w0:Start}
theorem xF (S:aP P w I β hp B M w0) {nb cap:Nat} {e:TypeId} {es:List V} {C0:Array Value} (aE:cP P e=true) (hn:hp nb=none) (hs:C0.size=cap*P.cellsOf e) (hl:es.length≤cap) (hm:cap≤maxLen)
  (hx: ∀(i j:Nat) (x:V) (t':TypeId),es[i]? =some x→(a9 P e)[j]? =some t'→j<P.cellsOf e→∃v,C0[i*P.cellsOf e+j]? =some v∧Pure P w I t' v (bS P e x j)):
  Le P w I β hp (w.alloc (.cells C0 e)) I (aR β nb (some w.heap.size)) (aR hp nb (some (.arr e es false)))∧aP P (w.alloc (.cells C0 e)) I (aR β nb (some w.heap.size)) (aR hp nb (some (.arr e es false))) B M w0∧
  an P (w.alloc (.cells C0 e)) I (aR β nb (some w.heap.size)) (aR hp nb (some (.arr e es false))) (.slice (some ⟨w.heap.size,0,none⟩) es.length cap) (.whole e nb):=by
 obtain ⟨h1,h2⟩:=J8 S (blk:= .arr e es false) (c:=C0) (T:=e) hn (fun b' h=>(cX (h.flat (by simp))).symm) (fun hle fj cO=> .arr aE rfl fj (by rw[hs];exact dJ _ hl) (fun h=>by cases h) (fun _=>cO) fun i j x t' a b c=>by
  obtain ⟨v,hv,hp⟩:=hx i j x t' a b c
  exact ⟨v,hv,hp.mono hle.dw hle.cu⟩)
 refine ⟨h1,h2,.whole (cZ _ _ _) (cZ _ _ _) ?_ hl hm⟩
 rw[nO (heap_alloc_new w (.cells C0 e)),hs]
theorem At.only {b b':Nat} {e e':TypeId} {es aT:List V} {q:Path} (hz: ∀(i j:Nat) x t' e1 l,es[i]? =some x→(a9 P e)[j]? =some t'→bS P e x j= .list e1 l→l=[])
  (h:At P w b e es q b' e' aT):q=[]∧b'=b∧e'=e∧aT=es:=by
 cases h with
 | here=>exact ⟨rfl,rfl,rfl,rfl⟩
 | step h1 h2 h3 h4 h5 h6=>have:=hz _ _ _ _ _ _ h2 h3 h5;subst this;simp at h6
theorem mI.rh {t:TypeId} {v:Value} {x:V} (h:Pure P w I t v x) (hz: ∀e1 l,x= .list e1 l→l=[]):mI P w I t v x:=by
 cases h with
 | int h=>exact .gn (by unfold gj;rw[h]) (.int h)
 | bool h=>exact .gn (by unfold gj;rw[h]) (.bool h)
 | str h hl=>exact .gn (by unfold gj;rw[h]) (.str h hl)
 | nil h=>exact .emp h fun _=>rfl
 | emp h=>exact .emp h fun h=>by cases h
 | list g hu hl _ _ _ _=>
  have:=hz _ _ rfl
  subst this
  simp at hl
  subst hl
  exact .emp hu fun h=>by cases h
theorem aa3 (S:aP P w I β hp B M w0) {nb cap:Nat} {e:TypeId} {es:List V} {C0:Array Value} (aE:cP P e=true) (hn:hp nb=none) (hs:C0.size=cap*P.cellsOf e) (hl:es.length≤cap) (hm:cap≤maxLen)
  (hx: ∀(i j:Nat) (x:V) (t':TypeId),es[i]? =some x→(a9 P e)[j]? =some t'→j<P.cellsOf e→∃v,C0[i*P.cellsOf e+j]? =some v∧Pure P w I t' v (bS P e x j))
  (hz: ∀(i j:Nat) x t' e1 l,es[i]? =some x→(a9 P e)[j]? =some t'→bS P e x j= .list e1 l→l=[]):
  Le P w I β hp (w.alloc (.cells C0 e)) I (aR β nb (some w.heap.size)) (aR hp nb (some (.nest e es [0,0,0])))∧aP P (w.alloc (.cells C0 e)) I (aR β nb (some w.heap.size)) (aR hp nb (some (.nest e es [0,0,0]))) B M w0∧
  an P (w.alloc (.cells C0 e)) I (aR β nb (some w.heap.size)) (aR hp nb (some (.nest e es [0,0,0]))) (.slice (some ⟨w.heap.size,0,none⟩) es.length cap) (.whole e nb):=by
 obtain ⟨h1,h2⟩:=J8 S (blk:= .nest e es [0,0,0]) (c:=C0) (T:=e) hn (fun b' h=>by
   cases h with
   | root _ h=>exact (cX h).symm
   | row h ha=>cases h;exact (At.only hz ha).2.1)
  (fun hle fj cO=> .nest rfl (fun q b' e' aT ha=>by
   obtain ⟨rfl,rfl,rfl,rfl⟩:=At.only hz ha
   refine ⟨aE,⟨C0,fj,by rw[hs];exact dJ _ hl,fun i j x t' a b c=> ?_⟩,cO⟩
   obtain ⟨v,hv,hp⟩:=hx i j x t' a b c
   exact ⟨v,hv,.rh (hp.mono hle.dw hle.cu) fun e1 l h=>hz i j x t' e1 l a b h⟩)
   fun q1 q2 b' e1 cy e2 cm a1 a2=>(At.only hz a1).1.trans (At.only hz a2).1.symm)
 refine ⟨h1,h2,.eH (cZ _ _ _) (cZ _ _ _) ?_ hl hm⟩
 rw[nO (heap_alloc_new w (.cells C0 e)),hs]
theorem Q6 (cK: ∀id blk,hp id=some blk→ej P w I β hp (β id) blk) {a:Act} {sl:Nat→V} (hs:lg P w I β hp a sl) {G:Nat→V} (hg:hY P G w I) {e:TypeId} {len:Nat}: ∀{l:List (Nat × Operand)} {ps:List (Nat × V)} {upd:List (Nat × ak)} {rd:List Nat},
  (Af P e len (l.map fun p=>(p.1,aV P G e sl p.2))).run C hp=some ((ps,upd),rd)→cP P e=true→(∀p∈upd,AB hp p)∧∀I':Nat→Prop,(∀b,I b→I' b)→(∀p∈upd,∀b,tz P w β hp p.1 b→I' b)→
   ∀(cells:Array Value) (es:List V),es.length=len→xE P w I' e cells es→∃qa,Instr.fill (fun i=>some (i*P.cellsOf e,P.cellsOf e)) cells (l.map fun p=>(p.1,a.eval p.2))=some qa∧xE P w I' e qa (Ae es ps)∧(Ae es ps).length=len
 | [],ps,upd,rd,h,_=>by
  cases h
  exact ⟨by simp,fun I' _ _ cells es hl he=>⟨cells,by simp[Instr.fill],he,hl⟩⟩
 | (i,x)::l,ps,upd,rd,h,aE=>by
  simp only[jw,Af] at h
  obtain ⟨⟨ys,u1⟩,l1,l2,h1,h⟩:=lh h
  obtain ⟨hc,h⟩:=aQ h
  obtain ⟨⟨ps',u2⟩,l3,l4,h2,h⟩:=lh h
  have:=aU h
  cases this
  simp only[aS,ku] at hc
  obtain ⟨hi,fW⟩:=hc
  obtain ⟨tl,tg⟩:=vb fW
  have xt:=hs.ev hg e x
  obtain ⟨v1,v2⟩:=aa1 cK xt h1 fW
  obtain ⟨k1,k2,k3⟩:=J7 cK h1 (vs:=(a.eval x).cells.toList) (by simpa using v1) v2
  obtain ⟨m1,m2⟩:=Q6 cK hs hg h2 aE
  refine ⟨fun p hp=> ?_,fun I' i1 i2 cells es hl he=> ?_⟩
  ·rcases er.1 hp with h|h
   ·exact k2 p h
   ·exact m1 p h
  ·have fV:=k3 I' i1 (fun p hp=>i2 p (er.2 (.inl hp)))
   have ba:=(kK aE).1
   have ve:ys.length=P.cellsOf e:=by rw[←tl,ba]
   have QL:(a.eval x).cells.size=P.cellsOf e:=by rw[v1,←k1,ve]
   have vi:=he.set (i:=i) (ys:=ys) (by omega) QL ve (fun j t' u y ht hu hy=>by
    exact (fV j u y (by simpa using hu) hy).pure (tg j t' y (by rw[←tA];exact ht) hy))
   obtain ⟨qa,f1,f2,f3⟩:=m2 I' i1 (fun p hp=>i2 p (er.2 (.inr hp))) _ (es.set i (cC P e ys)) (by simpa using hl) vi
   refine ⟨qa,?_,f2,f3⟩
   have hb:i*P.cellsOf e+P.cellsOf e≤cells.size:=by
    rw[he.1,hl]
    have:(i+1)*P.cellsOf e≤len*P.cellsOf e:=dJ _ hi
    rw[ee] at this
    omega
   simp only[jw,Instr.fill]
   rw[ah (by simp;omega)]
   exact f1
theorem Q7 {z:Array Value} {n k:Nat} (hk:k<n) (hz:0<z.size):((Array.range n).map (z[· %z.size]!))[k]? =z[k %z.size]? :=by
 have hm:k %z.size<z.size:=uz _ hz
 simp[hk,hm]
theorem FV {e:TypeId} (h:mF P e=true) {i:TypeInfo} {z:Value} (hi:P.info? e=some i) (hz:i.zero=some z) (n m:Nat) (oN:n≤m):
  ∀(k j:Nat) (x:V) (t':TypeId),(List.replicate n (cC P e (eW P e)))[k]? =some x→(a9 P e)[j]? =some t'→j<P.cellsOf e→
   ∃v,((Array.range (m*P.cellsOf e)).map (z.cells[· %z.cells.size]!))[k*P.cellsOf e+j]? =some v∧Pure P w I t' v (bS P e x j):=by
 intro k j x t' hx ht hj
 obtain ⟨i2,z2,h1,h2,h3,h4,h5⟩:=AX (w:=w) (I:=I) h
 rw[hi] at h1;cases h1
 rw[hz] at h2;cases h2
 rw[zQ] at hx
 split at hx
 ·rename_i hk
  cases hx
  obtain ⟨v,hv,hp⟩:=h5 j t' ht hj
  refine ⟨v,?_,hp⟩
  have hb:k*P.cellsOf e+j<m*P.cellsOf e:=by
   have:(k+1)*P.cellsOf e≤m*P.cellsOf e:=dJ _ (by omega)
   rw[ee] at this
   omega
  rw[Q7 hb (by omega),h4,show (k*P.cellsOf e+j) %P.cellsOf e=j by rw[iv,Nat.mul_add_mod];exact zR hj]
  exact hv
 ·cases hx
theorem aa4 {P:Program} (w:World) (t e:TypeId) (len:Nat) (parts:Array (Nat × Value)) (cells:Array Value) (ie:TypeInfo) (z:Value)
  (hu:P.underlying t=some (.slice e)) (j4:P.info? e=some ie) (hz:ie.zero=some z) (aa5: ¬len*ie.size>2^24)
  (h:Instr.fill (fun i=>some (i*ie.size,ie.size)) ((Array.range (len*ie.size)).map (z.cells[· %z.cells.size]!)) parts.toList=some cells):
  (Instr.buildSlice t len parts).run P w= .ok (.slice (some ⟨w.heap.size,0,none⟩) len len) (w.alloc (.cells cells e)):=by
 by_cases oN:len*ie.size=0
 ·have h0: ∀g:Nat→Value,(Array.range (len*ie.size)).map g= #[]:=by intro g;exact Array.eq_empty_of_size_eq_zero (by simp[oN])
  have hp: ∀(u:Array Value),(Pure.pure u:Sem (Array Value)).run P w= .ok u w:=fun _=>rfl
  rw[h0] at h
  simp only[Instr.buildSlice,Sem.run_bind,run_underlying hu,Result.andThen_ok,sizeOf,typeInfo,j4]
  have h1:(Array.range (len*ie.size)).map (fun _:Nat=>(default:Value))= #[]:=h0 _
  have hs: ¬16777216<len*ie.size:=by omega
  simp[j4,hs,oN]
  simp only[oN] at h1
  simp[h1,h,newRow]
 ·exact run_buildSlice w t e len parts cells ie z hu j4 hz aa5 oN h
theorem aa6 (S:aP P w I β hp B M w0) {a:Act} {sl:Nat→V} (hs:lg P w I β hp a sl) {G:Nat→V} (hg:hY P G w I) {t e:TypeId} {len nb:Nat} {ps:Array (Nat × Operand)} {r:R} {rd:List Nat} (hu:P.underlying t=some (.slice e))
  (h:(Rd.aK (mF P e&&Nat.ble (len*P.cellsOf e) (2^24)) ((Af P e len (ps.toList.map fun p=>(p.1,aV P G e sl p.2))).bind fun r=>
    jB nb (.arr e (Ae (List.replicate len (cC P e (eW P e))) r.1) false) (.whole e nb) r.2)).run C hp=some (r,rd)):
  c9 P ((Instr.buildSlice t len (ps.map fun (i,x)=>(i,a.eval x))).run P w) w I β hp B M w0 r:=by
 obtain ⟨hc,h⟩:=aQ h
 simp only[aS,eL] at hc
 obtain ⟨cR,xi⟩:=hc
 have aE:cP P e=true:=by
  unfold mF at cR;simp only[aS] at cR;exact cR.1
 obtain ⟨⟨pv,upd⟩,l1,l2,h1,h⟩:=lh h
 obtain ⟨hn,rfl⟩:=nY h
 obtain ⟨m1,m2⟩:=Q6 S.h.rel hs hg h1 aE
 obtain ⟨rA,S1⟩:=AH S m1
 obtain ⟨i,z,hi,hz,h3,h4,_⟩:=AX (w:=w) (I:=I) cR
 have iZ:=(kK aE).2
 have h0:xE P w (jb P w I β hp upd) e ((Array.range (len*P.cellsOf e)).map (z.cells[· %z.cells.size]!)) (List.replicate len (cC P e (eW P e))):=
  ⟨by simp,FV cR hi hz len len (aI _)⟩
 obtain ⟨cells,f1,f2,f3⟩:=m2 (jb P w I β hp upd) (fun _ h=> .inl h) (fun p hp b h=> .inr ⟨p,hp,h⟩) _ _ (by simp) h0
 have kN:bX hp upd nb=none:=by
  rcases u3 (hp:=hp) (l:=upd) (id:=nb) with h|⟨b',hm,_⟩
  ·exact h.trans hn
  ·obtain ⟨e1,cy,_,h5⟩:=m1 _ hm
   simp only[hn] at h5
   rcases h5 with ⟨_,h5⟩|⟨_,h5⟩<;>cases h5
 have oV:len≤maxLen:=by
  have:len*1≤len*P.cellsOf e:=uA _ iZ
  simp only[maxLen]
  omega
 obtain ⟨n1,n2,n3⟩:=xF S1 (cap:=len) aE kN (by rw[f2.1,f3]) (by rw[f3];exact aI _) oV f2.2
 have c7:=aa4 w t e len (ps.map fun (i,x)=>(i,a.eval x)) cells i z hu hi hz (by rw[h3];omega) (by rw[h3];simpa using f1)
 refine ⟨_,_,_,_,c7,rA.trans n1,n2,?_⟩
 rw[f3] at n3
 exact n3
theorem Q8 (S:aP P w I β hp B M w0) {t e:TypeId} {nb:Nat} {kl kc:IntKind} {n m:Int} {r:R} {rd:List Nat} (hu:P.underlying t=some (.slice e))
  (h:(Rd.aK (mF P e&&(decide (0≤n)&&(decide (n≤m)&&Nat.ble (m.toNat*P.bytesOf e) ct)))
    (jB nb (.arr e (List.replicate n.toNat (cC P e (eW P e))) false) (.whole e nb) [])).run C hp=some (r,rd)):
  c9 P ((Instr.makeSlice t (.int kl n) (.int kc m)).run P w) w I β hp B M w0 r:=by
 obtain ⟨hc,h⟩:=aQ h
 simp only[aS,eL,dv] at hc
 obtain ⟨cR,h0,oN,eP⟩:=hc
 have aE:cP P e=true:=by
  unfold mF at cR;simp only[aS] at cR;exact cR.1
 obtain ⟨hn,rfl⟩:=nY h
 obtain ⟨i,z,hi,hz,h3,h4,_⟩:=AX (w:=w) (I:=I) cR
 have mQ:P.bytesOf e=i.bytes:=by simp[Program.bytesOf,hi]
 have Kw:m≤9223372036854775807:=by
  have h1:m.toNat*1≤m.toNat*P.bytesOf e:=uA _ (xk aE)
  simp only[ct] at eP
  omega
 have c7:=run_make (P:=P) w t e i z hu hi hz kl kc n m h0 oN (by
  rw[mQ] at eP
  simp only[ct] at eP
  have:(i.bytes:Int)*m=((m.toNat*i.bytes:Nat):Int):=by
   rw[Int.natCast_mul,Int.toNat_of_nonneg (by omega),Int.mul_comm]
  rw[this]
  omega) Kw
 have hlen:(List.replicate n.toNat (cC P e (eW P e))).length=n.toNat:=by simp
 obtain ⟨n1,n2,n3⟩:=xF S (cap:=m.toNat) (es:=List.replicate n.toNat (cC P e (eW P e))) (C0:=madeCells z.cells (m.toNat*i.size)) aE hn (by rw[size_madeCells,h3]) (by rw[hlen];omega) (by simp only[maxLen];omega)
  (by rw[h3];exact FV cR hi hz n.toNat m.toNat (by omega))
 refine ⟨_,_,_,_,c7,n1,n2,?_⟩
 rw[hlen] at n3
 exact n3
theorem Kx: ∀{l:List V} {j:Nat} {e1:TypeId} {k:List V},Ao l=true→V.nth l j= .list e1 k→k=[]
 | [],j,e1,k,_,h=>by cases j<;>cases h
 | x::l,0,e1,k,hn,h=>by
  simp only[V.nth] at h
  subst h
  cases k with
  | nil=>rfl
  | cons _ _=>cases hn
 | x::l,j+1,e1,k,hn,h=>by
  refine Kx (l:=l) (j:=j) ?_ h
  cases x with
  | list e2 k2=>
   cases k2 with
   | nil=>exact hn
   | cons _ _=>cases hn
  | _=>exact hn
theorem aa7 {e:TypeId} {n:Nat} (aE:cP P e=true) (h:Ao (eW P e)=true):
  ∀(i j:Nat) x t' e1 l,(List.replicate n (cC P e (eW P e)))[i]? =some x→(a9 P e)[j]? =some t'→bS P e x j= .list e1 l→l=[]:=by
 intro i j x t' e1 l hx ht hl
 have:=List.eq_of_mem_replicate (jv hx)
 subst this
 unfold bS cC at hl
 cases ha:bP P e with
 | true=>rw[ha] at hl;exact Kx h hl
 | false=>rw[ha] at hl;exact Kx h hl
theorem aa8 (S:aP P w I β hp B M w0) {t e:TypeId} {nb:Nat} {kl kc:IntKind} {n m:Int} {r:R} {rd:List Nat} (hu:P.underlying t=some (.slice e))
  (h:(Rd.aK (mF P e&&(decide (0≤n)&&(decide (n≤m)&&Nat.ble (m.toNat*P.bytesOf e) ct)))
    (Rd.aK (Ao (eW P e)) (jB nb (.nest e (List.replicate n.toNat (cC P e (eW P e))) [0,0,0]) (.whole e nb) []))).run C hp=some (r,rd)):
  c9 P ((Instr.makeSlice t (.int kl n) (.int kc m)).run P w) w I β hp B M w0 r:=by
 obtain ⟨hc,h⟩:=aQ h
 simp only[aS,eL,dv] at hc
 obtain ⟨cR,h0,oN,eP⟩:=hc
 have aE:cP P e=true:=by
  unfold mF at cR;simp only[aS] at cR;exact cR.1
 obtain ⟨hnr,h⟩:=aQ h
 obtain ⟨hn,rfl⟩:=nY h
 obtain ⟨i,z,hi,hz,h3,h4,_⟩:=AX (w:=w) (I:=I) cR
 have mQ:P.bytesOf e=i.bytes:=by simp[Program.bytesOf,hi]
 have Kw:m≤9223372036854775807:=by
  have h1:m.toNat*1≤m.toNat*P.bytesOf e:=uA _ (xk aE)
  simp only[ct] at eP
  omega
 have c7:=run_make (P:=P) w t e i z hu hi hz kl kc n m h0 oN (by
  rw[mQ] at eP
  simp only[ct] at eP
  have:(i.bytes:Int)*m=((m.toNat*i.bytes:Nat):Int):=by
   rw[Int.natCast_mul,Int.toNat_of_nonneg (by omega),Int.mul_comm]
  rw[this]
  omega) Kw
 have hlen:(List.replicate n.toNat (cC P e (eW P e))).length=n.toNat:=by simp
 obtain ⟨n1,n2,n3⟩:=aa3 S (cap:=m.toNat) (es:=List.replicate n.toNat (cC P e (eW P e))) (C0:=madeCells z.cells (m.toNat*i.size)) aE hn (by rw[size_madeCells,h3]) (by rw[hlen];omega) (by simp only[maxLen];omega)
  (by rw[h3];exact FV cR hi hz n.toNat m.toNat (by omega))
  (aa7 aE hnr)
 refine ⟨_,_,_,_,c7,n1,n2,?_⟩
 rw[hlen] at n3
 exact n3
theorem Pure.one {t:TypeId} {v:Value} {x:V} (h:Pure P w I t v x):v.oneCell'=true:=by cases h<;>rfl
structure Row (P:Program) (w:World) (I:Nat→Prop) (e:TypeId) (v:Value) (xs:List V) (a:Addr) (c:Nat) (news:List Value):Prop where
 val:v= .slice (some a) xs.length c
 len:news.length=xs.length*P.cellsOf e
 cell: ∀(j:Nat) u,news[j]? =some u→w.cell? (a.add j)=some u
 el: ∀(i j:Nat) (x:V) (t':TypeId),xs[i]? =some x→(a9 P e)[j]? =some t'→j<P.cellsOf e→∃u,news[i*P.cellsOf e+j]? =some u∧Pure P w I t' u (bS P e x j)
theorem Row.one {e:TypeId} {v:Value} {xs:List V} {a:Addr} {c:Nat} {news:List Value} (h:Row P w I e v xs a c news) (aE:cP P e=true): ∀u∈news,u.oneCell'=true:=by
 intro u hu
 obtain ⟨k,hk⟩:=sZ hu
 have lV:=(bA.1 hk).1
 have iZ:=(kK aE).2
 rw[h.len] at lV
 have hi:k/P.cellsOf e<xs.length:=Nat.div_lt_of_lt_mul (by rw[iv];exact lV)
 have hj:k %P.cellsOf e<P.cellsOf e:=uz _ iZ
 have gR:k %P.cellsOf e<(a9 P e).length:=by rw[fU aE];exact hj
 obtain ⟨u',gr,hp⟩:=h.el (k/P.cellsOf e) (k %P.cellsOf e) _ _ (bI hi) (bI gR) hj
 rw[Nat.div_add_mod'] at gr
 rw[hk] at gr
 cases gr
 exact hp.one
theorem Q9 {e:TypeId} {es:List V} {b:Nat} {Ca:Array Value} {off len cap o:Nat} (hh:w.heap[b]? =some (.cells Ca e (0,0))) (hs:es.length*P.cellsOf e≤Ca.size)
  (hx: ∀(i j:Nat) (x:V) (t':TypeId),es[i]? =some x→(a9 P e)[j]? =some t'→j<P.cellsOf e→∃v,Ca[i*P.cellsOf e+j]? =some v∧Pure P w I t' v (bS P e x j))
  (jF:off+len≤es.length) (ho:0<len→o=off*P.cellsOf e):
  Row P w I e (.slice (some ⟨b,o,none⟩) len cap) ((es.drop off).take len) ⟨b,o,none⟩ cap ((Ca.toList.drop (off*P.cellsOf e)).take (len*P.cellsOf e)):=by
 have hlen:((es.drop off).take len).length=len:=by simp;omega
 have hb:(off+len)*P.cellsOf e≤Ca.size:=kp (dJ _ jF) hs
 rw[ee] at hb
 refine ⟨by rw[hlen],by rw[hlen];simp;omega,fun j u hj=> ?_,fun i j x t' gP ht hj=> ?_⟩
 ·have c6:=(bA.1 hj).1
  have Ky:j<len*P.cellsOf e:=by
   rw[iT] at c6;omega
  have mJ:0<len:=by
   rcases Nat.eq_zero_or_pos len with h|h
   ·rw[h] at Ky;simp at Ky
   ·exact h
  rw[fv Ky,iq] at hj
  rw[nT,cell?_cells hh,ho mJ]
  simpa using hj
 ·have hi:i<len:=by rw[←hlen];exact (bA.1 gP).1
  rw[fv hi,iq] at gP
  obtain ⟨u,hu,hp⟩:=hx (off+i) j x t' gP ht hj
  refine ⟨u,?_,hp⟩
  have:i*P.cellsOf e+j<len*P.cellsOf e:=by
   have:(i+1)*P.cellsOf e≤len*P.cellsOf e:=dJ _ hi
   rw[ee] at this
   omega
  rw[fv this,iq]
  rw[ee] at hu
  rw[←oJ]
  simpa using hu
theorem FW (cK: ∀id blk,hp id=some blk→ej P w I β hp (β id) blk) {e:TypeId} {v:Value} {x:V} {k:List V→Rd R} {r:R} {rd:List Nat} (aE:cP P e=true) (hv:an P w I β hp v x)
  (h:(tm e x k).run C hp=some (r,rd)): ∃xs,(((∃a,v= .slice a 0 0)∧xs=[])∨∃a c news,Row P w I e v xs a c news)∧∃l,(k xs).run C hp=some (r,l):=by
 cases hv with
 | list hp'=>
  obtain ⟨hc,h2⟩:=aQ h
  clear h
  rw[aX] at hc
  subst hc
  cases hp' with
  | nil=>exact ⟨[],.inl ⟨⟨_,rfl⟩,rfl⟩,rd,h2⟩
  | @emp a cap=>exact ⟨[],.inr ⟨a,cap,[],⟨rfl,by simp,fun j u hj=>by simp at hj,fun i j x t' hx _ _=>by simp at hx⟩⟩,rd,h2⟩
  | @list b o len cap es g hl cp hI gI hx=>
   refine ⟨_,.inr ⟨⟨b,o,none⟩,cap,(List.range (len*P.cellsOf e)).map fun k=>g (k/P.cellsOf e) (k %P.cellsOf e),⟨by rw[hl],by rw[hl];simp,fun j u hj=> ?_,fun i j x t' gP ht hj=> ?_⟩⟩,rd,h2⟩
   ·obtain ⟨c6,iG⟩:=bA.1 hj
    simp at c6 iG
    have iZ:=(kK aE).2
    have hi:j/P.cellsOf e<len:=Nat.div_lt_of_lt_mul (by rw[iv];exact c6)
    have cv:j %P.cellsOf e<P.cellsOf e:=uz _ iZ
    rw[nT,←iG]
    have:=gI (j/P.cellsOf e) (j %P.cellsOf e) hi cv
    rwa [Nat.div_add_mod'] at this
   ·have hi:i<len:=by rw[←hl];exact (bA.1 gP).1
    have hb:i*P.cellsOf e+j<len*P.cellsOf e:=by
     have:(i+1)*P.cellsOf e≤len*P.cellsOf e:=dJ _ hi
     rw[ee] at this
     omega
    refine ⟨g i j,?_,hx i j x t' gP ht⟩
    have e1:(i*P.cellsOf e+j)/P.cellsOf e=i:=by
     rw[iv,zS (kK aE).2,zT hj,Nat.add_zero]
    have e2:(i*P.cellsOf e+j) %P.cellsOf e=j:=by
     rw[iv,Nat.mul_add_mod];exact zR hj
    simp[hb,e1,e2]
 | nilS=>
  obtain ⟨hc,h⟩:=aQ h
  exact ⟨[],.inl ⟨⟨_,rfl⟩,rfl⟩,rd,h⟩
 | dY aa hb=>
  obtain ⟨l,h⟩:=run_get h
  simp only[aa] at h
  obtain ⟨hc,h⟩:=aQ h
  exact ⟨[],.inl ⟨⟨_,rfl⟩,rfl⟩,l,h⟩
 | @whole e' id es fz b cap aa hb ba cp hm=>
  obtain ⟨l,h⟩:=run_get h
  simp only[aa] at h
  obtain ⟨hc,h2⟩:=aQ h
  clear h
  simp only[aS,aX] at hc
  obtain ⟨rfl,_⟩:=hc
  have hr:=cK _ _ aa
  cases hr with
  | dZ aH=>rw[aH] at hb;cases hb
  | arr Kc aH hh hs hf eB hx=>
   rw[hb] at aH;cases aH
   have:=Q9 (cap:=cap) (off:=0) (len:=es.length) (o:=0) hh hs hx (by omega) (fun _=>by simp)
   exact ⟨es,.inr ⟨_,_,_,by simpa using this⟩,l,h2⟩
 | gp aa hb=>
  obtain ⟨l,h⟩:=run_get h
  simp only[aa] at h
  obtain ⟨hc,h⟩:=aQ h
  exact ⟨[],.inl ⟨⟨_,rfl⟩,rfl⟩,l,by simpa using h⟩
 | @sub e' id off len es fz b o cap aa hb jF cp ho=>
  obtain ⟨l,h⟩:=run_get h
  simp only[aa] at h
  obtain ⟨hc,h2⟩:=aQ h
  clear h
  simp only[aS,aX] at hc
  obtain ⟨rfl,_⟩:=hc
  have hr:=cK _ _ aa
  cases hr with
  | dZ aH=>rw[aH] at hb;cases hb
  | arr Kc aH hh hs hf eB hx=>
   rw[hb] at aH;cases aH
   exact ⟨_,.inr ⟨_,_,_,Q9 (cap:=cap) hh hs hx jF ho⟩,l,h2⟩
 | ez aa=>
  obtain ⟨l,h⟩:=run_get h
  simp only[aa] at h
  cases h
 | gH aa=>
  obtain ⟨l,h⟩:=run_get h
  simp only[aa] at h
  cases h
 | undef=>cases h
 | int=>cases h
 | bool=>cases h
 | str=>cases h
 | agg=>cases h
 | bm=>cases h
 | dF=>cases h
 | fn=>cases h
 | pref=>cases h
 | kI=>cases h
 | ptr=>cases h
 | jT=>cases h
 | jU=>cases h
 | row=>cases h
 | cI=>cases h
 | dG=>cases h
 | iE=>cases h
 | cd=>cases h
 | eH aa=>
  obtain ⟨l,h⟩:=run_get h
  simp only[aa] at h
  cases h
theorem Ra {t ty e:TypeId} {i:TypeInfo} (ht:P.underlying t=some (.slice e)) (hi:P.info? e=some i) (a:Option Addr) (n cap:Nat) (x:Value) (hx: ∃a c,x= .slice a 0 c) (hn:n≤cap):
  (Builtin.append_ #[t,t] ty #[.slice a n cap,x]).run P w= .ok (.slice a n cap) w:=by
 obtain ⟨a',c,rfl⟩:=hx
 cases a' with
 | none=>cases a<;>simp[Builtin.append_,run_underlying ht,sizeOf,typeInfo,hi,Builtin.lenOf,Builtin.firstCells,hn,storeCells]
 | some a'=>cases a<;>simp[Builtin.append_,run_underlying ht,sizeOf,typeInfo,hi,Builtin.lenOf,Builtin.firstCells,hn,storeCells,loadCells,loadCellsFrom]
theorem FX {e:TypeId} {es xs:List V} {n:Nat} {c:List Value} {news:List Value} (hn:es.length=n)
  (h1: ∀(i j:Nat) (x:V) (t':TypeId),es[i]? =some x→(a9 P e)[j]? =some t'→j<P.cellsOf e→∃v,c[i*P.cellsOf e+j]? =some v∧Pure P w I t' v (bS P e x j))
  (h2: ∀(i j:Nat) (x:V) (t':TypeId),xs[i]? =some x→(a9 P e)[j]? =some t'→j<P.cellsOf e→∃v,news[i*P.cellsOf e+j]? =some v∧Pure P w I t' v (bS P e x j))
  (hb:n*P.cellsOf e≤c.length) (rest:List Value):
  ∀(i j:Nat) (x:V) (t':TypeId),(es++xs)[i]? =some x→(a9 P e)[j]? =some t'→j<P.cellsOf e→∃v,(c.take (n*P.cellsOf e)++news++rest)[i*P.cellsOf e+j]? =some v∧Pure P w I t' v (bS P e x j):=by
 intro i j x t' hx ht hj
 have hl:(c.take (n*P.cellsOf e)).length=n*P.cellsOf e:=by simp;omega
 by_cases hi:i<n
 ·rw[kz (by omega)] at hx
  obtain ⟨v,hv,hp⟩:=h1 i j x t' hx ht hj
  have:i*P.cellsOf e+j<n*P.cellsOf e:=by
   have:(i+1)*P.cellsOf e≤n*P.cellsOf e:=dJ _ hi
   rw[ee] at this
   omega
  exact ⟨v,by rw[cY,kz (by omega),fv this];exact hv,hp⟩
 ·rw[jR (by omega),hn] at hx
  obtain ⟨v,hv,hp⟩:=h2 (i-n) j x t' hx ht hj
  have nZ:i-n<xs.length:=(bA.1 hx).1
  have e1:i*P.cellsOf e+j-n*P.cellsOf e=(i-n)*P.cellsOf e+j:=by
   rw[Nat.sub_mul]
   have:n*P.cellsOf e≤i*P.cellsOf e:=dJ _ (by omega)
   omega
  have h3:(i-n)*P.cellsOf e+j<news.length:=(bA.1 hv).1
  refine ⟨v,?_,hp⟩
  have h4:n*P.cellsOf e≤i*P.cellsOf e+j:=by
   have:n*P.cellsOf e≤i*P.cellsOf e:=dJ _ (by omega)
   omega
  rw[cY,jR (by omega),hl,e1,kz h3]
  exact hv
theorem Pure.drew {t:TypeId} {v:Value} {x:V} (h:Pure P w I t v x):Pure P w.drew I t v x:=Pure.mono (w:=w) (w':=w.drew) (fun _ h=>h) (fun _ _=>rfl) h
theorem aa9 (w:World) (t ty e:TypeId) (i:TypeInfo) (z:Value) (ht:P.underlying t=some (.slice e)) (hi:P.info? e=some i) (hz:i.zero=some z)
  (a0:Option Addr) (a:Addr) (n c:Nat) (news:List Value) (hl:news.length=n*i.size) (FY: ∀j v,news[j]? =some v→w.cell? (a.add j)=some v)
  (h0:0<n) (FZ:(n:Int)≤9223372036854775807) (F0:n*i.bytes≤281474976710656):
  (Builtin.append_ #[t,t] ty #[.slice a0 0 0,.slice (some a) n c]).run P w=
   .ok (.slice (some ⟨w.heap.size,0,none⟩) n (grownCap w n 0 e)) (w.drew.alloc (.cells (news.toArray++Builtin.zeroCells z.cells (grownCap w n 0 e-n)) e)):=by
 cases a0 with
 | none=>exact run_append_nil w t ty e i z ht hi hz a n c news hl FY h0 FZ F0
 | some b=>
  have:=run_append_grow (P:=P) w t ty e i z ht hi hz b 0 0 [] (by simp) (by simp) a n c news hl FY (by omega) (by omega) (by rw[dV,nextslicecap_zero h0];omega)
  simpa using this
theorem Kz (S:aP P w I β hp B M w0) {t ty e:TypeId} {nb:Nat} {x:Value} {xs:List V} (hu:P.underlying t=some (.slice e)) (aE:cP P e=true) (hn:hp nb=none)
  (eP:xs.length*P.bytesOf e≤ct) {a0:Option Addr} (hx:((∃a,x= .slice a 0 0)∧xs=[])∨∃a c news,Row P w I e x xs a c news):
  ∃v w' au,(Builtin.append_ #[t,t] ty #[.slice a0 0 0,x]).run P w= .ok v w'∧Le P w I β hp w' I au (aR hp nb (some (.arr e xs false)))∧aP P w' I au (aR hp nb (some (.arr e xs false))) B M w0∧
   an P w' I au (aR hp nb (some (.arr e xs false))) v (.whole e nb):=by
 obtain ⟨i,z,hi,hz,h3,h4,_⟩:=kM aE
 have vj:=xk aE
 have mQ:P.bytesOf e=i.bytes:=by simp[Program.bytesOf,hi]
 have hlen:xs.length≤2^45:=by
  have:xs.length*1≤xs.length*P.bytesOf e:=uA _ vj
  simp only[ct] at eP
  omega
 have empty:xs=[]→(∃a c,x= .slice a 0 c)→∃v w' au,(Builtin.append_ #[t,t] ty #[.slice a0 0 0,x]).run P w= .ok v w'∧Le P w I β hp w' I au (aR hp nb (some (.arr e xs false)))∧aP P w' I au (aR hp nb (some (.arr e xs false))) B M w0∧
   an P w' I au (aR hp nb (some (.arr e xs false))) v (.whole e nb):=by
  intro gS KA
  subst gS
  obtain ⟨a1,a2⟩:=FA S e hn
  exact ⟨_,_,_,Ra hu hi a0 0 0 x KA (aI _),a1,a2,.dY (cZ _ _ _) (cZ _ _ _)⟩
 rcases hx with ⟨⟨_,rfl⟩,rfl⟩|⟨a,c,news,hr⟩
 ·exact empty rfl ⟨_,_,rfl⟩
 ·by_cases h0:xs.length=0
  ·have gS:xs=[]:=nA h0
   refine empty gS ⟨some a,c,?_⟩
   rw[hr.val,h0]
  ·have c7:=aa9 (P:=P) w t ty e i z hu hi hz a0 a xs.length c news (by rw[hr.len,h3]) hr.cell (by omega) (by omega) (by rw[←mQ];simp only[ct] at eP;omega)
   have p9:=grownCap_ge w xs.length 0 e
   have vk:grownCap w xs.length 0 e≤maxLen:=grownCap_le_maxLen w xs.length 0 e (by simp only[maxLen];omega)
   obtain ⟨n1,n2,n3⟩:=xF S.drew (nb:=nb) (cap:=grownCap w xs.length 0 e) (es:=xs) (C0:=news.toArray++Builtin.zeroCells z.cells (grownCap w xs.length 0 e-xs.length)) aE hn
    (by simp only[EX,qR,size_zeroCells,h4,hr.len,←ee];congr 1;omega) p9 vk
    (fun i' j y t' hy ht hj=>by
     obtain ⟨u,gr,hp⟩:=hr.el i' j y t' hy ht hj
     have aY:=(bA.1 gr).1
     refine ⟨u,?_,Pure.drew hp⟩
     rw[Array.getElem?_append_left (by simpa using aY)]
     simpa using gr)
   rw[hr.val]
   exact ⟨_,_,_,c7,(Le.drew w I β hp).trans n1,n2,n3⟩
theorem aba (S:aP P w I β hp B M w0) {t ty e:TypeId} {nb:Nat} {s x:Value} {sv xv:V} {r:R} {rd:List Nat} (hu:P.underlying t=some (.slice e)) (hs:an P w I β hp s sv) (hx:an P w I β hp x xv)
  (h:(w8 P nb e sv xv).run C hp=some (r,rd)):c9 P ((Builtin.append_ #[t,t] ty #[s,x]).run P w) w I β hp B M w0 r:=by
 unfold w8 at h
 obtain ⟨aE,h⟩:=aQ h
 obtain ⟨xs,lW,l0,h⟩:=FW S.h.rel aE hx h
 cases sv with
 | nilS e'=>
  obtain ⟨hc,h⟩:=aQ h
  simp only[aS,aX,eL] at hc
  obtain ⟨hn,rfl⟩:=nY h
  obtain ⟨a0,rfl⟩: ∃a0,s= .slice a0 0 0:=by cases hs;exact ⟨_,rfl⟩
  obtain ⟨v,w',au,a1,a2,a3,a4⟩:=Kz (ty:=ty) S hu aE hn hc.2 lW
  exact ⟨v,w',I,au,a1,a2,a3,a4⟩
 | whole e' id=>
  obtain ⟨l,h⟩:=run_get h
  cases aa:hp id with
  | none=>rw[aa] at h;cases h
  | some blk=>
   rw[aa] at h
   cases blk with
   | dead=>cases h
   | var _=>cases h
   | nest _ _ _=>cases h
   | map _ _=>cases h
   | arr dW es fz=>
    cases fz with
    | true=>cases h
    | false=>
     obtain ⟨hc,h⟩:=aQ h
     obtain ⟨hn,rfl⟩:=nY h
     simp only[aS,aX,eL] at hc
     obtain ⟨KB,KC,eP⟩:=hc
     subst KB
     subst KC
     have bY:nb≠id:=fun e=>by rw[e,aa] at hn;cases hn
     obtain ⟨k1,k2⟩:=FB S aa
     have kN:aR hp id (some ak.dead) nb=none:=by rw[eC _ _ bY];exact hn
     cases hs with
     | ez hd=>rw[aa] at hd;cases hd
     | eH hd=>rw[aa] at hd;cases hd
     | dY hd hb=>
      rw[aa] at hd
      cases hd
      simp only[List.length_nil,dV] at eP
      have abb:((∃a,x= .slice a 0 0)∧xs=[])∨∃a c news,Row P w I e x xs a c news:=lW
      obtain ⟨v,w',au,a1,a2,a3,a4⟩:=Kz (ty:=ty) k2 hu aE kN eP abb
      exact ⟨v,w',I,au,a1,k1.trans a2,a3,a4⟩
     | @whole _ _ aT nK b cap hd hb ba cp hm=>
      rw[aa] at hd
      cases hd
      have hr:=S.h.rel id _ aa
      cases hr with
      | dZ aH=>rw[aH] at hb;cases hb
      | @arr _ _ _ b' Ca _ aH hh qb hf eB mR=>
       rw[hb] at aH
       cases aH
       obtain ⟨i,z,hi,hz,h3,h4,_⟩:=kM aE
       have vj:=xk aE
       have mQ:P.bytesOf e=i.bytes:=by simp[Program.bytesOf,hi]
       have hlen:es.length+xs.length≤2^45:=by
        have:(es.length+xs.length)*1≤(es.length+xs.length)*P.bytesOf e:=uA _ vj
        simp only[ct] at eP
        omega
       rw[nO hh] at ba
       have rp: ∀aL blk',aR hp id (some ak.dead) aL=some blk'→¬bG P w (β aL) blk' b:=by
        intro aL blk' h1 h2
        by_cases jd:aL=id
        ·subst jd;rw[cZ] at h1;cases h1;exact h2.alive rfl
        ·rw[eC _ _ jd] at h1
         exact jd (S.h.inj aL id blk' _ b h1 aa h2 (.root (by simp) hb))
       have KD:=S.h.tw id _ b aa (by simp) hb
       have room: ∀(C':Array Value) (w':World) (ys:List V),w'.heap[b]? =some (.cells C' e (0,0))→C'.size=Ca.size→(∀b',b'≠b→w'.heap[b']? =w.heap[b']?)→w.heap.size≤w'.heap.size→(w'.os=w.os∧w'.output=w.output)→ys.length≤cap→
         (∀(i j:Nat) (y:V) (t':TypeId),ys[i]? =some y→(a9 P e)[j]? =some t'→j<P.cellsOf e→∃v,C'[i*P.cellsOf e+j]? =some v∧Pure P w I t' v (bS P e y j))→
         Le P w I β hp w' I (aR β nb (some b)) (aR (aR hp id (some .dead)) nb (some (.arr e ys false)))∧aP P w' I (aR β nb (some b)) (aR (aR hp id (some .dead)) nb (some (.arr e ys false))) B M w0∧
         an P w' I (aR β nb (some b)) (aR (aR hp id (some .dead)) nb (some (.arr e ys false))) (.slice (some ⟨b,0,none⟩) ys.length cap) (.whole e nb):=by
        intro C' w' ys hC o0 AY hwz abc ve hy
        obtain ⟨a1,a2⟩:=AI k2 (blk:= .arr e ys false) (w':=w') kN rp (eB rfl) (fun b' h _=>AY b' h) hwz abc KD
         (fun b' h=>(cX (h.flat (by simp))).symm) (fun hle=> .arr aE rfl hC (by rw[o0,←ba];exact dJ _ ve) (fun h=>by cases h) (fun _=>eB rfl) fun i j y t' a b c=>by
          obtain ⟨v,hv,hp⟩:=hy i j y t' a b c
          exact ⟨v,hv,hp.mono hle.dw hle.cu⟩)
        refine ⟨k1.trans a1,a2,.whole (cZ _ _ _) (cZ _ _ _) ?_ ve hm⟩
        rw[nO hC,o0,ba]
       have same:xs=[]→(∃a c,x= .slice a 0 c)→c9 P ((Builtin.append_ #[t,t] ty #[.slice (some ⟨b,0,none⟩) es.length cap,x]).run P w) w I β hp B M w0 ⟨.whole e nb,[(nb,.arr e (es++xs) false),(id,.dead)]⟩:=by
        intro gS KA
        subst gS
        rw[iS]
        obtain ⟨a1,a2,a3⟩:=room Ca w es hh rfl (fun _ _=>rfl) (aI _) ⟨rfl,rfl⟩ cp mR
        exact ⟨_,_,_,_,Ra hu hi _ _ _ x KA cp,a1,a2,a3⟩
       rcases lW with ⟨⟨_,rfl⟩,rfl⟩|⟨a,c,news,cA⟩
       ·exact same rfl ⟨_,_,rfl⟩
       ·have h1:=cA.one aE
        have jZ:es.length*P.cellsOf e≤Ca.toList.length:=by simpa using qb
        by_cases tG:es.length+xs.length≤cap
        ·have AZ:es.length*P.cellsOf e+news.length≤Ca.size:=by rw[cA.len,←ee,←ba];exact dJ _ tG
         have c7:=run_append_room (P:=P) w t ty e i hu hi b es.length cap Ca hh a xs.length c news (by rw[cA.len,h3]) cA.cell h1 tG (by rw[h3];exact AZ)
         rw[h3] at c7
         have cR:=FX (P:=P) (w:=w) (I:=I) (n:=es.length) (c:=Ca.toList) rfl (fun i j y t' a b c=>by
          obtain ⟨v,hv,hp⟩:=mR i j y t' a b c
          exact ⟨v,by simpa using hv,hp⟩) cA.el jZ (Ca.toList.drop (es.length*P.cellsOf e+news.length))
         obtain ⟨a1,a2,a3⟩:=room (Ca.toList.take (es.length*P.cellsOf e)++news++Ca.toList.drop (es.length*P.cellsOf e+news.length)).toArray (w.setRow b _) (es++xs)
          (setRow_heap w b Ca _ e _ hh) (by simp;omega) (fun b' aH=>setRow_other w b b' _ aH) (by simp) ⟨rfl,rfl⟩ (by simpa using tG)
          (fun i j y t' a b c=>by
           obtain ⟨v,hv,hp⟩:=cR i j y t' a b c
           exact ⟨v,by simpa using hv,hp⟩)
         rw[cA.val]
         rw[dD] at a3
         exact ⟨_,_,_,_,c7,a1,a2,a3⟩
        ·have hold: ∀(j:Nat) v,(Ca.toList.take (es.length*P.cellsOf e))[j]? =some v→w.cell? ((⟨b,0,none⟩:Addr).add j)=some v:=by
          intro j v hj
          have c6:=(bA.1 hj).1
          have cv:j<es.length*P.cellsOf e:=by rw[iT] at c6;omega
          rw[fv cv] at hj
          rw[nT,cell?_cells hh,dV]
          simpa using hj
         have c7:=run_append_grow (P:=P) w t ty e i z hu hi hz ⟨b,0,none⟩ es.length cap (Ca.toList.take (es.length*P.cellsOf e)) (by rw[h3];simp;omega) hold a xs.length c news (by rw[cA.len,h3]) cA.cell (by omega) (by omega)
          (growslice_fits (by omega) (by rw[←mQ];simp only[ct] at eP;omega))
         have p9:=grownCap_ge w (es.length+xs.length) cap e
         have vk:grownCap w (es.length+xs.length) cap e≤maxLen:=grownCap_le_maxLen w _ cap e (by simp only[maxLen];omega)
         have cR:=FX (P:=P) (w:=w) (I:=I) (n:=es.length) (c:=Ca.toList) rfl (fun i j y t' a b c=>by
          obtain ⟨v,hv,hp⟩:=mR i j y t' a b c
          exact ⟨v,by simpa using hv,hp⟩) cA.el jZ (Builtin.zeroCells z.cells (grownCap w (es.length+xs.length) cap e-(es.length+xs.length))).toList
         obtain ⟨n1,n2,n3⟩:=xF k2.drew (nb:=nb) (cap:=grownCap w (es.length+xs.length) cap e) (es:=es++xs)
          (C0:=(Ca.toList.take (es.length*P.cellsOf e)).toArray++news.toArray++Builtin.zeroCells z.cells (grownCap w (es.length+xs.length) cap e-(es.length+xs.length))) aE kN
          (by
           have e1:(Ca.toList.take (es.length*P.cellsOf e)).length=es.length*P.cellsOf e:=by simp;omega
           simp only[EX,qR,size_zeroCells,h4,cA.len,e1,←ee];congr 1;omega) (by simpa using p9) vk
          (fun i j y t' a b c=>by
           obtain ⟨v,hv,hp⟩:=cR i j y t' a b c
           refine ⟨v,?_,Pure.drew hp⟩
           rw[←s6]
           simpa using hv)
         rw[cA.val]
         rw[dD] at n3
         exact ⟨_,_,_,_,c7,(k1.trans (Le.drew w I β _)).trans n1,n2,n3⟩
 | _=>cases h
end
section
variable {P:Program} {w w':World} {I I':Nat→Prop} {β au:Nat→Option Nat} {hp hp':Nat→Option ak} {C:ae} {B:Nat} {M:Nat→Prop} {w0:Start}
theorem run_copy_none (w:World) {dT sT ty elem:TypeId} {i:TypeInfo} (a0:Option Addr) (Rb abd:Nat) (a1:Option Addr) (Rc abe:Nat) (hu:P.underlying dT=some (.slice elem)) (hi:P.info? elem=some i) (h0:Nat.min Rc Rb=0):
  (Builtin.copy_ #[dT,sT] ty #[.slice a0 Rb abd,.slice a1 Rc abe]).run P w= .ok (goInt 0) w:=by
 cases a0<;>cases a1<;>simp[Builtin.copy_,run_underlying hu,Builtin.lenOf,Builtin.firstCells,sizeOf,typeInfo,hi,h0,storeCells,loadCells,loadCellsFrom]
theorem abf (S:aP P w I β hp B M w0) {t u ty e:TypeId} {s x:Value} {sv xv:V} {r:R} {rd:List Nat} (hu:P.underlying t=some (.slice e)) (hs:an P w I β hp s sv) (hx:an P w I β hp x xv)
  (h:(JL P e sv xv).run C hp=some (r,rd)):c9 P ((Builtin.copy_ #[t,u] ty #[s,x]).run P w) w I β hp B M w0 r:=by
 unfold JL at h
 obtain ⟨aE,h'⟩:=aQ h
 clear h
 simp only[aS,aX] at aE
 obtain ⟨aE,h1⟩:=aE
 obtain ⟨xs,lW,l0,h⟩:=FW S.h.rel aE hx h'
 obtain ⟨i,z,hi,hz,ba,_⟩:=kM aE
 cases sv<;>simp only at h<;>first|(cases h;done)|skip
 rename_i e' id
 obtain ⟨l,h2⟩:=run_get h
 clear h
 cases aa:hp id with
 | none=>rw[aa] at h2;cases h2
 | some blk=>
  rw[aa] at h2
  cases blk<;>simp only at h2<;>first|(cases h2;done)|skip
  rename_i e2 es fz
  cases fz with
  | true=>cases h2
  | false=>
  obtain ⟨hc,h3⟩:=aQ h2
  simp only[aS,aX] at hc
  obtain ⟨rfl,rfl⟩:=hc
  obtain rfl:=aU h3
  have qc:min xs.length es.length=0→(Builtin.copy_ #[t,u] ty #[s,x]).run P w= .ok (goInt 0) w→c9 P ((Builtin.copy_ #[t,u] ty #[s,x]).run P w) w I β hp B M w0 ⟨.int .i64 (min xs.length es.length:Nat),[(id,.arr e (xs.take es.length++es.drop xs.length) false)]⟩:=by
   intro h0 hr
   have he:xs.take es.length++es.drop xs.length=es:=by
    rcases Nat.le_total xs.length es.length with hl|hl
    ·have:xs=[]:=nA (by omega)
     simp[this]
    ·have:es=[]:=nA (by omega)
     simp[this]
   have gJ:bX hp [(id,.arr e (xs.take es.length++es.drop xs.length) false)]=hp:=by
    rw[he];exact JV hp id _ aa
   refine ⟨goInt 0,w,I,β,hr,?_⟩
   simp only[gJ,h0]
   exact ⟨Le.refl w I β hp,S,.int⟩
  cases hs with
  | ez hd=>rw[aa] at hd;cases hd
  | eH hd=>rw[aa] at hd;cases hd
  | @dY _ _ fz a hd hb=>
   rw[aa] at hd
   cases hd
   refine qc (by simp) ?_
   rcases lW with ⟨⟨a',rfl⟩,rfl⟩|⟨a',c,news,cA⟩
   ·exact run_copy_none w _ _ _ _ _ _ hu hi (by simp)
   ·rw[cA.val];exact run_copy_none w _ _ _ _ _ _ hu hi (by simp)
  | @whole _ _ aT nK b cap hd hb A6 cp hm=>
   have eZ:=hd
   rw[aa] at hd
   cases hd
   rcases lW with ⟨⟨a',rfl⟩,rfl⟩|⟨a',c,news,cA⟩
   ·exact qc (by simp) (run_copy_none w _ _ _ _ _ _ hu hi (by simp))
   have hr:=S.h.rel id _ aa
   cases hr with
   | dZ aH=>rw[aH] at hb;cases hb
   | @arr _ _ _ b' Ca _ aH hh qb hf eB mR=>
    rw[hb] at aH
    cases aH
    have mO:news.length=xs.length:=by rw[cA.len,h1,nD]
    rw[h1,nD] at qb
    have fa:(news.take es.length).length=Nat.min xs.length es.length:=by
     rw[iT,mO,Nat.min_comm]
    have F3:Nat.min xs.length es.length=min xs.length es.length:=rfl
    have c7:=run_copy_row (P:=P) w t u ty e b 0 es.length cap a' xs.length c Ca e (news.take es.length) hu (by rw[hi];simp[ba,h1]) hh fa
     (fun j v hj=>cA.cell j v (by
      have:=(bA.1 hj).1
      rw[iT] at this
      rwa [fv (by omega)] at hj)) (by rw[fa,F3];omega) (fun v hv=>cA.one aE v (EY hv))
    rw[cA.val]
    have hq:(goInt (news.take es.length).length)= .int .i64 ((min xs.length es.length:Nat):Int):=by rw[fa];rfl
    have jG:(xs.take es.length++es.drop xs.length).length=es.length:=by simp;omega
    have o0:(Ca.toList.take 0++news.take es.length++Ca.toList.drop (0+(news.take es.length).length)).toArray.size=Ca.size:=by
     simp only[qR,dD,List.length_drop,iT,fa,F3]
     simp
     omega
    obtain ⟨a1,a2⟩:=FL S (blk':= .arr e (xs.take es.length++es.drop xs.length) false) (Cb:=(Ca.toList.take 0++news.take es.length++Ca.toList.drop (0+(news.take es.length).length)).toArray) aa (by simp) ⟨rfl,jG.symm⟩ hb (eB rfl) (by simp) hh o0
     (fun hle fj=> .arr aE rfl fj (by rw[o0,jG,h1,nD];exact qb) (fun h=>by cases h) (fun _=>eB rfl) fun i j y t' hy ht hj=>by
      rw[h1] at hj⊢
      obtain rfl:j=0:=by omega
      rw[nD,Nat.add_zero]
      have rE:=(bA.1 hy).1
      rw[jG] at rE
      by_cases A7:i<xs.length
      ·rw[kz (by rw[iT];omega),fv rE] at hy
       obtain ⟨u',k1,k2⟩:=cA.el i 0 y t' hy ht (by omega)
       rw[h1,nD,Nat.add_zero] at k1
       refine ⟨u',?_,k2.mono hle.dw hle.cu⟩
       simp only[List.take_zero,List.nil_append,nC]
       rw[kz (by rw[iT];omega),fv rE]
       exact k1
      ·have e1:(xs.take es.length).length=xs.length:=by rw[iT];omega
       rw[jR (by omega),e1,iq,show xs.length+(i-xs.length)=i by omega] at hy
       obtain ⟨u',k1,k2⟩:=mR i 0 y t' hy ht (by omega)
       rw[h1,nD,Nat.add_zero] at k1
       refine ⟨u',?_,k2.mono hle.dw hle.cu⟩
       simp only[List.take_zero,List.nil_append,nC,dV]
       have e2:(news.take es.length).length=xs.length:=by rw[iT];omega
       rw[jR (by omega),e2,iq,show xs.length+(i-xs.length)=i by omega]
       simpa using k1)
    exact ⟨_,_,_,_,c7,a1,a2,by rw[hq];exact .int⟩
theorem abg (S:aP P w I β hp B M w0) {t ty e:TypeId} {x:Value} {xv:V} {r:R} {rd:List Nat} (hu:P.underlying t=some (.slice e)) (hx:an P w I β hp x xv)
  (h:(JK P e xv).run C hp=some (r,rd)):c9 P ((Builtin.clear_ #[t] ty #[x]).run P w) w I β hp B M w0 r:=by
 unfold JK at h
 obtain ⟨cR,h'⟩:=aQ h
 clear h
 have aE:cP P e=true:=by
  unfold mF at cR;simp only[aS] at cR;exact cR.1
 obtain ⟨i,z,hi,hz,ba,A8,hzp⟩:=AX (w:=w) (I:=I) cR
 have iZ:=(kK aE).2
 cases xv<;>simp only at h'<;>first|(cases h';done)|skip
 rename_i e' id off len
 obtain ⟨l,h2⟩:=run_get h'
 clear h'
 cases aa:hp id with
 | none=>rw[aa] at h2;cases h2
 | some blk=>
  rw[aa] at h2
  cases blk<;>simp only at h2<;>first|(cases h2;done)|skip
  rename_i e2 es fz
  cases fz with
  | true=>cases h2
  | false=>
  obtain ⟨hc,h3⟩:=aQ h2
  simp only[aS,aX] at hc
  obtain ⟨rfl,rfl⟩:=hc
  obtain rfl:=aU h3
  have qc:len=0→(Builtin.clear_ #[t] ty #[x]).run P w= .ok (.tuple #[]) w→c9 P ((Builtin.clear_ #[t] ty #[x]).run P w) w I β hp B M w0 ⟨.bm [],[(id,.arr e (es.take off++(List.replicate len (cC P e (eW P e))++es.drop (off+len))) false)]⟩:=by
   intro h0 hr
   subst h0
   have gJ:bX hp [(id,.arr e (es.take off++(List.replicate 0 (cC P e (eW P e))++es.drop (off+0))) false)]=hp:=by
    simp only[List.replicate_zero,List.nil_append,Nat.add_zero,List.take_append_drop]
    exact JV hp id _ aa
   refine ⟨.tuple #[],w,I,β,hr,?_⟩
   simp only[gJ]
   exact ⟨Le.refl w I β hp,S,.bm rfl fun j v x hj hx=>by simp at hx⟩
  cases hx with
  | gH hd=>rw[aa] at hd;cases hd
  | @gp _ _ _ a0 hd hb=>exact qc rfl (by cases a0<;>simp[Builtin.clear_,run_underlying hu])
  | @sub _ _ _ _ aT nK b o cap hd hb jF cp ho=>
   by_cases hlen:len=0
   ·refine qc hlen ?_
    subst hlen
    simp[Builtin.clear_,run_underlying hu]
   have abh:0<len:=by omega
   have eZ:=hd
   rw[aa] at hd
   cases hd
   have hr:=S.h.rel id _ aa
   cases hr with
   | dZ aH=>rw[aH] at hb;cases hb
   | @arr _ _ _ b' Ca _ aH hh qb hf eB mR=>
    rw[hb] at aH
    cases aH
    have ho:=ho abh
    subst ho
    have vh:(Builtin.zeroCells z.cells len).toList.length=len*P.cellsOf e:=by rw[Array.length_toList,size_zeroCells,A8]
    have hmul:off*P.cellsOf e+len*P.cellsOf e≤es.length*P.cellsOf e:=by rw[←ee];exact dJ _ jF
    have rB: ∀v∈(Builtin.zeroCells z.cells len).toList,v.oneCell'=true:=by
     intro v hv
     obtain ⟨k,hk⟩:=sZ hv
     have lV:=(bA.1 hk).1
     rw[vh] at lV
     have hzg:(Builtin.zeroCells z.cells len)[k]? =z.cells[k %z.cells.size]? :=Q7 (z:=z.cells) (n:=len*z.cells.size) (by rw[A8];exact lV) (by rw[A8];exact iZ)
     rw[s6,hzg] at hk
     have hm:k %z.cells.size<P.cellsOf e:=by rw[A8];exact uz _ iZ
     have F4:k %z.cells.size<(a9 P e).length:=by rw[fU aE];exact hm
     obtain ⟨v',xr,hp'⟩:=hzp (k %z.cells.size) _ (bI F4) hm
     rw[hk] at xr
     cases xr
     generalize bS P e (cC P e (eW P e)) (k %z.cells.size)=y at hp'
     cases hp'<;>rfl
    have b6:=run_storeCells_at P b (off*P.cellsOf e) e (Builtin.zeroCells z.cells len).toList 0 Ca w hh (by rw[vh];omega) rB
    simp only[Nat.add_zero] at b6
    have c7:(Builtin.clear_ #[t] ty #[.slice (some ⟨b,off*P.cellsOf e,none⟩) len cap]).run P w= .ok (.tuple #[]) (w.setRow b (Ca.toList.take (off*P.cellsOf e)++(Builtin.zeroCells z.cells len).toList++Ca.toList.drop (off*P.cellsOf e+(Builtin.zeroCells z.cells len).toList.length)).toArray):=by
     obtain ⟨n,rfl⟩: ∃n,len=n+1:=⟨len-1,by omega⟩
     simp[Builtin.clear_,run_underlying hu,zeroValue,typeInfo,hi,hz,b6]
    have jG:(es.take off++(List.replicate len (cC P e (eW P e))++es.drop (off+len))).length=es.length:=by simp;omega
    have o0:(Ca.toList.take (off*P.cellsOf e)++(Builtin.zeroCells z.cells len).toList++Ca.toList.drop (off*P.cellsOf e+(Builtin.zeroCells z.cells len).toList.length)).toArray.size=Ca.size:=by
     simp only[qR,dD,List.length_drop,iT,vh,Array.length_toList]
     omega
    obtain ⟨a1,a2⟩:=FL S (blk':= .arr e (es.take off++(List.replicate len (cC P e (eW P e))++es.drop (off+len))) false) aa (by simp) ⟨rfl,jG.symm⟩ hb (eB rfl) (by simp) hh o0
     (fun hle fj=> .arr aE rfl fj (by rw[o0,jG];exact qb) (fun h=>by cases h) (fun _=>eB rfl) fun i' j y t' hy ht hj=>by
      have ln:=nU es (List.replicate len (cC P e (eW P e))) off i' (by simp;omega)
      rw[uB] at ln
      rw[ln] at hy
      have hC:(Ca.toList.take (off*P.cellsOf e)++(Builtin.zeroCells z.cells len).toList++Ca.toList.drop (off*P.cellsOf e+(Builtin.zeroCells z.cells len).toList.length)).toArray[i'*P.cellsOf e+j]? =
        if i'*P.cellsOf e+j<off*P.cellsOf e then Ca.toList[i'*P.cellsOf e+j]? else if i'*P.cellsOf e+j<off*P.cellsOf e+len*P.cellsOf e then (Builtin.zeroCells z.cells len).toList[i'*P.cellsOf e+j-off*P.cellsOf e]? else Ca.toList[i'*P.cellsOf e+j]? :=by
       have:=nU Ca.toList (Builtin.zeroCells z.cells len).toList (off*P.cellsOf e) (i'*P.cellsOf e+j) (by rw[vh,Array.length_toList];omega)
       rw[nC,cY,this,vh]
      by_cases mT:i'<off
      ·rw[af mT] at hy
       have:(i'+1)*P.cellsOf e≤off*P.cellsOf e:=dJ _ mT
       rw[ee] at this
       rw[af (by omega)] at hC
       obtain ⟨u,k1,k2⟩:=mR i' j y t' hy ht hj
       exact ⟨u,hC.trans (by simpa using k1),k2.mono hle.dw hle.cu⟩
      ·rw[ah mT] at hy
       have h1:off*P.cellsOf e≤i'*P.cellsOf e:=dJ _ (by omega)
       rw[ah (by omega)] at hC
       by_cases nZ:i'<off+len
       ·rw[af nZ] at hy
        have:(i'+1)*P.cellsOf e≤(off+len)*P.cellsOf e:=dJ _ nZ
        rw[ee,ee] at this
        rw[af (by omega)] at hC
        obtain ⟨v,k1,k2⟩:=FV (w:=w) (I:=I) cR hi hz len len (aI _) (i'-off) j y t' hy ht hj
        refine ⟨v,hC.trans ?_,k2.mono hle.dw hle.cu⟩
        rw[show i'*P.cellsOf e+j-off*P.cellsOf e=(i'-off)*P.cellsOf e+j by rw[Nat.sub_mul];omega,s6]
        unfold Builtin.zeroCells
        rw[A8] at k1⊢
        exact k1
       ·rw[ah nZ] at hy
        have:(off+len)*P.cellsOf e≤i'*P.cellsOf e:=dJ _ (by omega)
        rw[ee] at this
        rw[ah (by omega)] at hC
        obtain ⟨u,k1,k2⟩:=mR i' j y t' hy ht hj
        exact ⟨u,hC.trans (by simpa using k1),k2.mono hle.dw hle.cu⟩)
    exact ⟨_,_,_,_,c7,a1,a2,.bm rfl fun j v x hj hx=>by simp at hx⟩
end
section
variable {P:Program} {w w':World} {I I':Nat→Prop} {β au:Nat→Option Nat} {hp hp':Nat→Option ak} {C:ae} {B:Nat} {M:Nat→Prop} {w0:Start}
theorem abi (S:aP P w I β hp B M w0) {s:TypeId} {f:Nat} {v:Value} {x:V} {r:R} {rd:List Nat} (hv:an P w I β hp v x)
  (h:(JO P s f x).run C hp=some (r,rd)):c9 P ((Instr.field s v f).run P w) w I β hp B M w0 r:=by
 unfold JO Fa at h
 split at h
 ·rename_i fs hu
  cases hf:fs[f]? with
  | none=>rw[hf] at h;cases h
  | some fd=>
   rw[hf] at h
   simp only[w9] at h
   obtain ⟨ht,h⟩:=aQ h
   obtain ⟨d,vl⟩:=AO ht
   obtain ⟨i,hi⟩:=xp vl
   have ba:i.size=P.cellsOf fd.type:=by simp[Program.cellsOf,hi]
   cases x with
   | agg xs=>
    obtain ⟨cs,rfl,h1,h2⟩:=hv.lj
    dsimp only at h
    cases ha:bP P fd.type with
    | true=>
     rw[ha] at h
     simp only[cond_true] at h
     obtain ⟨hc,h⟩:=aQ h
     obtain rfl:=aU h
     rw[eL] at hc
     refine .same S (v:= .agg (cs.extract fd.offset (fd.offset+P.cellsOf fd.type))) ?_ (.agg (by simp;omega) fun j u y gr hy=> ?_)
     ·simp[Instr.field,run_underlying hu,hf,part,Ka vl,ha,asAgg,sizeOf,typeInfo,hi,ba]
     ·have hj:j<P.cellsOf fd.type:=by
       have:=(iu.1 gr).1
       simp at this;omega
      rw[fv hj,iq] at hy
      refine h2 (fd.offset+j) u y ?_ hy
      rw[Array.getElem?_extract] at gr
      split at gr
      ·exact gr
      ·cases gr
    | false=>
     rw[ha] at h
     simp only[cond_false] at h
     obtain ⟨y,hy,h⟩:=lR h
     obtain rfl:=aU h
     have aY:fd.offset<cs.size:=by rw[h1];exact (bA.1 hy).1
     refine .same S (v:=cs[fd.offset]) ?_ (h2 _ _ _ (kY aY) hy)
     simp[Instr.field,run_underlying hu,hf,part,Ka vl,ha,asAgg,aY]
   | _=>cases h
 ·cases h
theorem abj (S:aP P w I β hp B M w0) {i:Nat} {v:Value} {xs:List V} {r:R} {rd:List Nat} (hv:an P w I β hp v (.bm xs))
  (h:(Rd.opt xs[i]? fun v=> .ret ⟨v,[]⟩).run C hp=some (r,rd)):c9 P ((Instr.extract v i).run P w) w I β hp B M w0 r:=by
 obtain ⟨cs,rfl,h1,h2⟩:=hv.u7
 obtain ⟨y,hy,h⟩:=lR h
 obtain rfl:=aU h
 have aY:i<cs.size:=by rw[h1];exact (bA.1 hy).1
 exact .same S (v:=cs[i]) (by simp[Instr.extract,aY]) (h2 _ _ _ (kY aY) hy)
theorem abk (S:aP P w I β hp B M w0) {t:TypeId} {s:ByteArray} {l:List UInt8} {k:IntKind} {i:Int} {r:R} {rd:List Nat} (hu:P.underlying t=some .string) (hs:s.data.toList=l)
  (h:(Rd.opt (bif decide (0≤i) then (l[i.toNat]?).map fun b=>V.int .u8 b.toNat else none) fun v=> .ret ⟨.int .u8 v.toInt,[]⟩).run C hp=some (r,rd)):
  c9 P ((Instr.index t (.string s) (.int k i)).run P w) w I β hp B M w0 r:=by
 obtain ⟨v,hv,h⟩:=lR h
 obtain rfl:=aU h
 cases hc:decide (0≤i) with
 | false=>rw[hc] at hv;cases hv
 | true=>
  rw[hc] at hv
  simp only[cond_true] at hv
  have h0:0≤i:=by simpa using hc
  cases hb:l[i.toNat]? with
  | none=>rw[hb] at hv;cases hv
  | some b=>
   rw[hb] at hv
   simp only[Option.map_some,dO] at hv
   subst hv
   have hsb:s[i.toNat]? =some b:=by
    subst hs
    obtain ⟨aY,he⟩:=bA.1 hb
    have KE:i.toNat<s.size:=by simpa using aY
    rw[getElem?_pos s i.toNat KE]
    congr 1
   refine .same S (v:= .int .u8 b.toNat) ?_ .int
   simp[Instr.index,asIntOf,run_underlying hu,h0,hsb]
theorem KF (S:aP P w I β hp B M w0) (mx:Bool): ∀{vs:List Value} {xs:List V} {v:Value} {x:V} {r:R} {rd:List Nat},an P w I β hp v x→vs.length=xs.length→
  (∀(j:Nat) u y,vs[j]? =some u→xs[j]? =some y→an P w I β hp u y)→(xb mx x xs).run C hp=some (r,rd)→
  c9 P ((vs.foldlM (if mx then Builtin.max2 else Builtin.min2) v).run P w) w I β hp B M w0 r
 | [],[],v,x,r,rd,hv,_,_,h=>by
  have:r=⟨x,[]⟩:=by
   cases x<;>(simp only[xb] at h;exact (aU h).symm)
  subst this
  exact .same S (by simp) hv
 | [],_::_,v,x,r,rd,hv,hl,_,h=>by simp at hl
 | _::_,[],v,x,r,rd,hv,hl,_,h=>by simp at hl
 | u::vs,y::xs,v,x,r,rd,hv,hl,hx,h=>by
  cases x<;>cases y<;>simp only[xb] at h<;>first|(cases h;done)|skip
  rename_i k a k' b
  obtain ⟨hc,h4⟩:=aQ h
  clear h
  obtain rfl:k=k':=by simpa using hc
  have hu:=hx 0 u _ rfl rfl
  rw[hv.eI,hu.eI]
  have ih:=KF S mx (vs:=vs) (xs:=xs) (v:= .int k (bif mx then (if b>a then b else a) else (if b<a then b else a))) .int (by simpa using hl)
   (fun j u y h1 h2=>hx (j+1) u y (by simpa using h1) (by simpa using h2)) h4
  cases mx with
  | true=>simpa[List.foldlM_cons,Builtin.max2] using ih
  | false=>simpa[List.foldlM_cons,Builtin.min2] using ih
theorem rF {n cap:Nat} {isS:Bool} {lo hi:Option V} {lov hiv:Option Value} {k:Nat→Nat→Rd R} {r:R} {rd:List Nat} (hn:n≤cap)
  (je: ∀x,lo=some x→∃v,lov=some v∧an P w I β hp v x) (ig: ∀x,hi=some x→∃v,hiv=some v∧an P w I β hp v x) (n0:lo=none→lov=none) (o4:hi=none→hiv=none)
  (h:(tn n lo hi k).run C hp=some (r,rd)): ∃l u,l≤u∧u≤n∧(Instr.sliceBounds isS n cap lov hiv none).run P w= .ok (l,u,cap) w∧(k l u).run C hp=some (r,rd):=by
 have ok: ∀(kk:IntKind) (i:Int) (y:Nat) (c:BoundsCode),0≤i→i≤y→(Instr.sliceBound (.int kk i) y c).run P w= .ok i.toNat w:=by
  intro kk i y c h1 h2
  simp[Instr.sliceBound,asIntOf,h1,h2]
 unfold tn at h
 cases lo with
 | none=>
  rw[n0 rfl]
  cases hi with
  | none=>
   rw[o4 rfl]
   exact ⟨0,n,ju _,aI _,by simp[Instr.sliceBounds],h⟩
  | some x=>
   obtain ⟨v,rfl,hv⟩:=ig x rfl
   cases x<;>simp only at h<;>first|(cases h;done)|skip
   rename_i kk u
   obtain ⟨hc,h⟩:=aQ h
   simp only[aS,dv] at hc
   rw[hv.eI]
   have:=ok kk u cap (if isS then .sliceAcap else .sliceAlen) hc.1 (by omega)
   exact ⟨0,u.toNat,ju _,by omega,by simp[Instr.sliceBounds,this],h⟩
 | some x=>
  obtain ⟨v,rfl,hv⟩:=je x rfl
  cases hi with
  | none=>
   rw[o4 rfl]
   cases x<;>simp only at h<;>first|(cases h;done)|skip
   rename_i kk l
   obtain ⟨hc,h⟩:=aQ h
   simp only[aS,dv] at hc
   rw[hv.eI]
   have:=ok kk l n .sliceB hc.1 (by omega)
   exact ⟨l.toNat,n,by omega,aI _,by simp[Instr.sliceBounds,this],h⟩
  | some y=>
   obtain ⟨v2,rfl,ri⟩:=ig y rfl
   cases x<;>cases y<;>simp only at h<;>first|(cases h;done)|skip
   rename_i kk l kk2 u
   obtain ⟨hc,h⟩:=aQ h
   simp only[aS,dv] at hc
   rw[hv.eI,ri.eI]
   have h1:=ok kk2 u cap (if isS then .sliceAcap else .sliceAlen) (by omega) (by omega)
   have h2:=ok kk l u.toNat .sliceB hc.1 (by omega)
   exact ⟨l.toNat,u.toNat,by omega,by omega,by simp[Instr.sliceBounds,h1,h2],h⟩
theorem F5 {a:Option Addr} {t e:TypeId} {i:TypeInfo} (hu:P.underlying t=some (.slice e)) (hi:P.info? e=some i) {lov hiv:Option Value}
  (hb:(Instr.sliceBounds true 0 0 lov hiv none).run P w= .ok (0,0,0) w):(Instr.sliceAt t (.slice a 0 0) lov hiv none).run P w= .ok (.slice a 0 0) w:=by
 cases a<;>simp[Instr.sliceAt,Instr.slice,run_underlying hu,hb,sizeOf,typeInfo,hi]
theorem KG {t e:TypeId} {i:TypeInfo} {b o len cap l u:Nat} (hu:P.underlying t=some (.slice e)) (hi:P.info? e=some i) {lov hiv:Option Value} (huc:u≤cap)
  (hb:(Instr.sliceBounds true len cap lov hiv none).run P w= .ok (l,u,cap) w): ∃o',(0<u-l→o'=o+l*i.size)∧(Instr.sliceAt t (.slice (some ⟨b,o,none⟩) len cap) lov hiv none).run P w= .ok (.slice (some ⟨b,o',none⟩) (u-l) (cap-l)) w:=by
 by_cases hc:cap=l
 ·subst hc
  refine ⟨o,fun h=>by omega,?_⟩
  ·simp[Instr.sliceAt,Instr.slice,run_underlying hu,hb,sizeOf,typeInfo,hi]
 ·refine ⟨o+l*i.size,fun _=>rfl,?_⟩
  simp[Instr.sliceAt,Instr.slice,run_underlying hu,hb,sizeOf,typeInfo,hi,hc,nT]
theorem abl (s:ByteArray) (l:List UInt8) (h:s.data.toList=l) (a b:Nat):(s.extract a b).data.toList=(l.drop a).take (b-a):=by
 subst h
 simp[ByteArray.data_extract]
theorem abm (S:aP P w I β hp B M w0) {t:TypeId} {v:Value} {x:V} {lo hi:Option V} {lov hiv:Option Value} {r:R} {rd:List Nat} (hv:an P w I β hp v x)
  (je: ∀x,lo=some x→∃v,lov=some v∧an P w I β hp v x) (ig: ∀x,hi=some x→∃v,hiv=some v∧an P w I β hp v x) (n0:lo=none→lov=none) (o4:hi=none→hiv=none)
  (h:(Fh P t x lo hi).run C hp=some (r,rd)):c9 P ((Instr.sliceAt t v lov hiv none).run P w) w I β hp B M w0 r:=by
 unfold Fh at h
 cases hu:P.underlying t with
 | none=>rw[hu] at h;cases h
 | some d=>
  rw[hu] at h
  cases d<;>simp only at h<;>first|(cases h;done)|skip
  case string=>
   cases x<;>simp only at h<;>first|(cases h;done)|skip
   rename_i l
   obtain ⟨s,rfl,hs⟩:=hv.mM
   have ba:l.length=s.size:=by rw[←hs];simp
   obtain ⟨a,u,h1,h2,h3,h4⟩:=rF (isS:=false) (cap:=s.size) (by omega) je ig n0 o4 h
   obtain rfl:=aU h4
   rw[ba] at h3
   refine .same S (v:= .string (s.extract a u)) ?_ (.str (abl s l hs a u))
   simp[Instr.sliceAt,Instr.slice,run_underlying hu,h3]
  case slice e=>
   cases x<;>simp only at h<;>first|(cases h;done)|skip
   case list e' es=>
    obtain ⟨hc,h⟩:=aQ h
    simp only[aS,aX] at hc
    obtain ⟨eb,aE⟩:=hc
    obtain ⟨i,z,eh,_,ba,_⟩:=kM aE
    cases hv with
    | list hp'=>
     cases hp' with
     | nil=>
      obtain ⟨a,u,h1,h2,h3,h4⟩:=rF (n:=0) (isS:=true) (cap:=0) (aI _) je ig n0 o4 h
      obtain rfl:=aU h4
      obtain rfl:u=0:=by omega
      obtain rfl:a=0:=by omega
      exact .same S (F5 hu eh h3) (by simpa using an.list iY.nil)
     | @emp ad cap=>
      obtain ⟨a,u,h1,h2,h3,h4⟩:=rF (n:=0) (isS:=true) (cap:=cap) (ju _) je ig n0 o4 h
      obtain rfl:=aU h4
      obtain rfl:u=0:=by omega
      obtain rfl:a=0:=by omega
      refine .same S (v:= .slice (some ad) 0 cap) ?_ (by simpa using an.list iY.emp)
      by_cases hc:cap=0
      ·subst hc
       simp[Instr.sliceAt,Instr.slice,run_underlying hu,h3,sizeOf,typeInfo,eh]
      ·simp[Instr.sliceAt,Instr.slice,run_underlying hu,h3,sizeOf,typeInfo,eh,hc,Addr.add]
     | @list b o len cap _ g hl cp hI gI hx=>
      obtain ⟨a,u,h1,h2,h3,h4⟩:=rF (isS:=true) (cap:=cap) (by omega) je ig n0 o4 h
      obtain rfl:=aU h4
      rw[hl] at h2 h3
      obtain ⟨o',mK,c7⟩:=KG (b:=b) (o:=o) hu eh (by omega) h3
      have gT:e=e':=eb
      refine .same S c7 (.list ?_)
      rw[←gT]
      rw[←gT] at gI hx hI
      have hlen:((es.drop a).take (u-a)).length=u-a:=by simp;omega
      refine .list (fun i j=>g (a+i) j) hlen (by omega) (fun h=>hI (kq h (dJ _ (by omega)))) (fun i j hi hj=> ?_) (fun i j y t' hy ht=> ?_)
      ·have:=gI (a+i) j (by omega) hj
       rw[ee,oJ,←oJ o] at this
       rw[mK (by omega),ba]
       exact this
      ·have hi:i<u-a:=by rw[←hlen];exact (bA.1 hy).1
       rw[fv hi,iq] at hy
       exact hx (a+i) j y t' hy ht
   case whole e' id=>
    obtain ⟨l,h⟩:=run_get h
    cases aa:hp id with
    | none=>rw[aa] at h;cases h
    | some blk=>
     rw[aa] at h
     cases blk<;>simp only at h<;>first|(cases h;done)|skip
     rename_i dW es fz
     obtain ⟨hc,h9⟩:=aQ h
     clear h
     simp only[aS,aX] at hc
     obtain ⟨eb,ja,aE⟩:=hc
     obtain ⟨i,z,eh,_,ba,_⟩:=kM aE
     cases hv with
     | ez hd=>rw[aa] at hd;cases hd
     | eH hd=>rw[aa] at hd;cases hd
     | dY hd hb=>
      rw[aa] at hd
      cases hd
      obtain ⟨a,u,h1,h2,h3,h4⟩:=rF (n:=0) (isS:=true) (cap:=0) (aI _) je ig n0 o4 h9
      obtain rfl:=aU h4
      obtain rfl:u=0:=by omega
      obtain rfl:a=0:=by omega
      exact .same S (F5 hu eh h3) (.gp aa hb)
     | @whole _ _ aT nK b cap hd hb A6 cp hm=>
      have eZ:=hd
      rw[aa] at hd
      cases hd
      obtain ⟨a,u,h1,h2,h3,h4⟩:=rF (isS:=true) (cap:=cap) cp je ig n0 o4 h9
      obtain rfl:=aU h4
      obtain ⟨o',mK,c7⟩:=KG (b:=b) (o:=0) hu eh (by omega) h3
      have gT:e=e':=eb
      exact .same S c7 (.sub eZ hb (by omega) (by omega) (fun h=>by rw[mK h,ba,gT,dV]))
   case sub e' id off len=>
    obtain ⟨l,h⟩:=run_get h
    cases aa:hp id with
    | none=>rw[aa] at h;cases h
    | some blk=>
     rw[aa] at h
     cases blk<;>simp only at h<;>first|(cases h;done)|skip
     rename_i dW es fz
     obtain ⟨hc,h⟩:=aQ h
     simp only[aS,aX] at hc
     obtain ⟨eb,ja,aE⟩:=hc
     obtain ⟨i,z,eh,_,ba,_⟩:=kM aE
     cases hv with
     | gH hd=>rw[aa] at hd;cases hd
     | gp hd hb=>
      have eZ:=hd
      obtain ⟨a,u,h1,h2,h3,h4⟩:=rF (isS:=true) (cap:=0) (aI _) je ig n0 o4 h
      obtain rfl:=aU h4
      obtain rfl:u=0:=by omega
      obtain rfl:a=0:=by omega
      exact .same S (F5 hu eh h3) (.gp eZ hb)
     | @sub _ _ _ _ aT nK b o cap hd hb jF cp ho=>
      have eZ:=hd
      obtain ⟨a,u,h1,h2,h3,h4⟩:=rF (isS:=true) (cap:=cap) cp je ig n0 o4 h
      obtain rfl:=aU h4
      obtain ⟨o',mK,c7⟩:=KG (b:=b) (o:=o) hu eh (by omega) h3
      have gT:e=e':=eb
      exact .same S c7 (.sub eZ hb (by omega) (by omega) (fun h=>by rw[mK h,ba,ho (by omega),gT,ee]))
theorem abn (S:aP P w I β hp B M w0) {t:TypeId} {v:Value} {x:V} {lo hi mx:Option V} {lov hiv Re:Option Value} {r:R} {rd:List Nat} (hv:an P w I β hp v x)
  (je:lo=none→lov=none) (ig: ∀y,hi=some y→∃u,hiv=some u∧an P w I β hp u y) (oV: ∀y,mx=some y→∃u,Re=some u∧an P w I β hp u y)
  (h:(JM P t x lo hi mx).run C hp=some (r,rd)):c9 P ((Instr.sliceAt t v lov hiv Re).run P w) w I β hp B M w0 r:=by
 unfold JM at h
 cases hu:P.underlying t with
 | none=>rw[hu] at h;cases h
 | some d=>
  rw[hu] at h
  cases d<;>(try (cases h;done))
  rename_i e
  cases lo<;>(try (cases h;done))
  cases hi<;>(try (cases h;done))
  rename_i xG
  cases xG<;>(try (cases h;done))
  cases mx<;>(try (cases h;done))
  rename_i mv1
  cases mv1<;>(try (cases h;done))
  obtain ⟨hc,h9⟩:=aQ h
  clear h
  have h:=h9
  clear h9
  simp only[aS,dv] at hc
  obtain ⟨rfl,rfl,aE⟩:=hc
  obtain ⟨i,z,eh,_,_,_⟩:=kM aE
  obtain ⟨u1,rfl,k1⟩:=ig _ rfl
  obtain ⟨u2,rfl,k2⟩:=oV _ rfl
  rw[k1.eI,k2.eI,je rfl]
  have run: ∀{k k2:IntKind} (a:Option Addr) (len cap:Nat),(Instr.sliceAt t (.slice a len cap) none (some (.int k 0)) (some (.int k2 0))).run P w= .ok (.slice a 0 0) w:=by
   intro k k2 a len cap
   cases a<;>simp[Instr.sliceAt,Instr.slice,Instr.sliceBounds,Instr.sliceBound,asIntOf,run_underlying hu,sizeOf,typeInfo,eh]
  cases x<;>(try (cases h;done))
  ·simp only at h
   obtain rfl:=aU h
   cases hv with
   | list hp'=>cases hp'<;>exact .same S (run _ _ _) .nilS
  ·simp only at h
   obtain rfl:=aU h
   cases hv
   exact .same S (run _ _ _) .nilS
  ·rename_i e' id
   simp only at h
   obtain ⟨l,h⟩:=run_get h
   cases aa:hp id with
   | none=>rw[aa] at h;cases h
   | some blk=>
    rw[aa] at h
    cases blk<;>simp only at h<;>first|(cases h;done)|skip
    all_goals
     obtain rfl:=aU h
     cases hv with
     | ez hd=>rw[aa] at hd;cases hd
     | eH hd=>exact .same S (run _ _ _) .nilS
     | dY hd hb=>exact .same S (run _ _ _) .nilS
     | whole hd=>exact .same S (run _ _ _) .nilS
theorem abo (S:aP P w I β hp B M w0) {t:TypeId} {v ix:Value} {x y:V} {r:R} {rd:List Nat} (hv:an P w I β hp v x) (hy:an P w I β hp ix y)
  (h:(JP P t x y).run C hp=some (r,rd)):c9 P ((Instr.indexAt t v ix).run P w) w I β hp B M w0 r:=by
 unfold JP at h
 cases hu:P.underlying t with
 | none=>rw[hu] at h;cases h
 | some d=>
  rw[hu] at h
  cases y<;>(try (cases d<;>cases h;done))
  rename_i k i
  rw[hy.eI]
  cases d<;>simp only at h<;>first|(cases h;done)|skip
  case slice e=>
   have run: ∀(b o len cap:Nat) (ie:TypeInfo),P.info? e=some ie→0≤i→i<(len:Int)→(Instr.indexAt t (.slice (some ⟨b,o,none⟩) len cap) (.int k i)).run P w= .ok (.pointer (some ⟨b,o+i.toNat*ie.size,none⟩)) w:=by
    intro b o len cap ie j4 h0 h1
    simp[Instr.indexAt,asIntOf,run_underlying hu,h0,h1,sizeOf,typeInfo,j4,nT]
   cases x<;>simp only at h<;>first|(cases h;done)|skip
   case list e' es=>
    obtain ⟨hc,h⟩:=aQ h
    simp only[aS,aX] at hc
    obtain ⟨eb,aE⟩:=hc
    have gT:e=e':=eb
    obtain ⟨ie,z,eh,_,ba,_⟩:=kM aE
    obtain ⟨el,cR,h⟩:=lR h
    obtain rfl:=aU h
    unfold idx at cR
    cases h0:decide (0≤i) with
    | false=>rw[h0] at cR;cases cR
    | true=>
     rw[h0] at cR
     simp only[cond_true] at cR
     have h0':0≤i:=by simpa using h0
     have aY:i.toNat<es.length:=(bA.1 cR).1
     cases hv with
     | list hp'=>
      cases hp' with
      | nil=>simp at aY
      | emp=>simp at aY
      | @list b o len cap _ g hl cp hI gI hx=>
       rw[←gT] at gI hx hI
       refine .same S (run b o len cap ie eh h0' (by omega)) ?_
       have fV:=xq (P:=P) e el
       have KH:=fU aE
       have Rf:(bif bP P e then flat P e else [e])=a9 P e:=rfl
       rw[Rf]
       refine .pref (by rw[fV]) (fun _=>hI ?_) (fun j t' y' ht AJ=> ?_)
       ·have:=Nat.mul_pos (show 0<len by omega) (kK aE).2
        exact this
       ·obtain ⟨t2,a1,a2⟩:=Kb AJ
        rw[ht] at a1;cases a1
        have hj:j<P.cellsOf e:=by rw[←KH];exact (bA.1 ht).1
        have hZ:=hx i.toNat j el t' cR ht
        refine ⟨g i.toNat j,?_,?_⟩
        ·rw[ba,oJ];exact gI i.toNat j (by omega) hj
        ·rw[a2,hZ.tB];exact hZ
   case whole e' id=>
    obtain ⟨l,h⟩:=run_get h
    cases aa:hp id with
    | none=>rw[aa] at h;cases h
    | some blk=>
     rw[aa] at h
     cases blk<;>simp only at h<;>first|(cases h;done)|skip
     rename_i dW es fz
     obtain ⟨hc,h⟩:=aQ h
     simp only[aS,aX] at hc
     obtain ⟨eb,ja⟩:=hc
     obtain ⟨fb,h⟩:=aQ h
     simp only[aS,dv] at fb
     obtain rfl:=aU h
     cases hv with
     | ez hd=>rw[aa] at hd;cases hd
     | eH hd=>rw[aa] at hd;cases hd
     | dY hd hb=>rw[aa] at hd;cases hd;simp at fb;omega
     | @whole _ _ aT nK b cap hd hb A6 cp hm=>
      have eZ:=hd
      rw[aa] at hd
      cases hd
      have hr:=S.h.rel id _ aa
      cases hr with
      | dZ aH=>rw[aH] at hb;cases hb
      | arr aE aH hh hs hf eB hx=>
       have gT:e=e':=eb
       obtain ⟨ie,z,eh,_,ba,_⟩:=kM aE
       rw[←gT] at eh ba
       refine .same S (run b 0 _ cap ie eh fb.1 fb.2) ?_
       have:=an.ptr (P:=P) (w:=w) (I:=I) (i:=i.toNat) (c:=0) eZ (by simp) hb
       simp only[ak.sz] at this
       rw[dV,ba,gT]
       simpa using this
     rename_i dW es aq
     obtain ⟨hc,h⟩:=aQ h
     simp only[aS,aX] at hc
     obtain ⟨eb,ja⟩:=hc
     obtain ⟨fb,h⟩:=aQ h
     simp only[aS,dv] at fb
     obtain rfl:=aU h
     cases hv with
     | ez hd=>rw[aa] at hd;cases hd
     | dY hd hb=>rw[aa] at hd;cases hd
     | whole hd=>rw[aa] at hd;cases hd
     | @eH _ _ aT vers' b cap hd hb A6 cp hm=>
      have eZ:=hd
      rw[aa] at hd
      cases hd
      have aE:=(S.rows eZ hb .here).ok
      have gT:e=e':=eb
      obtain ⟨ie,z,eh,_,ba,_⟩:=kM aE
      rw[←gT] at eh ba
      refine .same S (run b 0 _ cap ie eh fb.1 fb.2) ?_
      have:=an.ptr (P:=P) (w:=w) (I:=I) (i:=i.toNat) (c:=0) eZ (by simp) hb
      simp only[ak.sz] at this
      rw[dV,ba,gT]
      simpa using this
   case row e' id ver path=>
    obtain ⟨e0,es,aq,l,aa,h1,h2,h3,h⟩:=oU h
    obtain ⟨e2,v',k1,k2,h⟩:=xl h
    obtain ⟨hc,h⟩:=aQ h
    simp only[aS,aX] at hc
    obtain ⟨eb,ja⟩:=hc
    obtain ⟨fb,h⟩:=aQ h
    simp only[aS,dv] at fb
    obtain rfl:=aU h
    cases hv with
    | jT hd hp'=>rw[aa] at hd;cases hd;exact absurd hp' (xm h1 h2 h3)
    | @row v _ e0 t1 _ ver b i1 c1 q es l1 aq hd hb hq Kp ht gI=>
     have abp:=gI
     obtain ⟨b',e3,aT,Ca,T,f,x,m1,m2,m3,m4,m5,m6⟩:=gI
     have lS:=hd
     rw[aa] at lS
     cases lS
     obtain ⟨n1,n2⟩:=Fy m1 m3 m4 ht m5
     rw[n2] at k2
     cases k2
     simp only[V.toList] at fb
     have hR:=S.rows hd hb m1
     obtain ⟨C1,c2,c3,c4⟩:=hR.cells
     rw[m2] at c2
     cases c2
     have hj:c1<P.cellsOf e3:=by
      rw[←fU hR.ok];exact (bA.1 m4).1
     obtain ⟨v2,d1,d2⟩:=c4 _ _ _ _ m3 m4 hj
     rw[m6] at d1
     cases d1
     rw[m5] at d2
     cases d2 with
     | gn a _=>unfold gj at a;rw[ht] at a;cases a
     | emp _ _=>simp at fb;omega
     | @row _ _ b1 cap _ hl _ _ _=>
      have aE:=(S.rows hd hb (m1.snoc m2 m3 m4 ht m5 hl m6)).ok
      have gT:e=e':=eb
      obtain ⟨ie,z,eh,_,ba,_⟩:=kM aE
      rw[←gT] at eh ba
      refine .same S (run b1 0 _ cap ie eh fb.1 fb.2) ?_
      have:=an.cI (P:=P) (I:=I) (i:=i.toNat) (c:=0) hd hb hq Kp ht hl abp
      rw[dV,ba,gT]
      simpa using this
   case sub e' id off len=>
    obtain ⟨l,h⟩:=run_get h
    cases aa:hp id with
    | none=>rw[aa] at h;cases h
    | some blk=>
     rw[aa] at h
     cases blk<;>simp only at h<;>first|(cases h;done)|skip
     rename_i dW es fz
     obtain ⟨hc,h⟩:=aQ h
     simp only[aS,aX] at hc
     obtain ⟨eb,ja⟩:=hc
     obtain ⟨fb,h⟩:=aQ h
     simp only[aS,dv] at fb
     obtain rfl:=aU h
     cases hv with
     | gH hd=>rw[aa] at hd;cases hd
     | gp hd hb=>simp at fb;omega
     | @sub _ _ _ _ aT nK b o cap hd hb jF cp ho=>
      have eZ:=hd
      rw[aa] at hd
      cases hd
      have hr:=S.h.rel id _ aa
      cases hr with
      | dZ aH=>rw[aH] at hb;cases hb
      | arr aE aH hh hs hf eB hx=>
       have gT:e=e':=eb
       obtain ⟨ie,z,eh,_,ba,_⟩:=kM aE
       rw[←gT] at eh ba
       refine .same S (run b o _ cap ie eh fb.1 fb.2) ?_
       have:=an.ptr (P:=P) (w:=w) (I:=I) (i:=off+i.toNat) (c:=0) eZ (by simp) hb
       simp only[ak.sz] at this
       rw[ho (by omega),ba,gT,←ee]
       simpa using this
  case array n e=>
   have run: ∀(b o:Nat) (ie:TypeInfo),P.info? e=some ie→0≤i→i<(n:Int)→(Instr.indexAt t (.pointer (some ⟨b,o,none⟩)) (.int k i)).run P w= .ok (.pointer (some ⟨b,o+i.toNat*ie.size,none⟩)) w:=by
    intro b o ie j4 h0 h1
    simp[Instr.indexAt,asIntOf,run_underlying hu,h0,h1,sizeOf,typeInfo,j4,nT,Instr.sureAddr]
   cases x<;>simp only at h<;>first|(cases h;done)|skip
   case ptr id j c=>
    obtain ⟨⟨blk,aa,hd⟩,l,h⟩:=xo h
    obtain ⟨fb,h⟩:=aQ h
    simp only[aS,dv] at fb
    obtain rfl:=aU h
    obtain ⟨b,hb,rfl⟩:=hv.ic aa hd
    obtain ⟨d,vl⟩:=AO fb.1
    obtain ⟨ie,j4⟩:=xp vl
    have ba:ie.size=P.cellsOf e:=by simp[Program.cellsOf,j4]
    refine .same S (run b _ ie j4 fb.2.1 fb.2.2) ?_
    rw[ba,oJ]
    exact .ptr aa hd hb
   case pref ts cs=>
    obtain ⟨fb,h⟩:=aQ h
    simp only[aS,dv] at fb
    obtain rfl:=aU h
    obtain ⟨b,o,rfl,h1,h2,h3⟩:=hv.FF
    obtain ⟨d,vl⟩:=AO fb.1
    obtain ⟨ie,j4⟩:=xp vl
    have ba:ie.size=P.cellsOf e:=by simp[Program.cellsOf,j4]
    refine .same S (run b _ ie j4 fb.2.1 fb.2.2) ?_
    rw[ba]
    exact an.QA h1 h2 h3
end
end Go.AM
namespace Go.AM
open Go.Maps
section
variable {P:Program} {w w':World} {I I':Nat→Prop} {β au:Nat→Option Nat} {hp hp':Nat→Option ak} {C:ae} {B:Nat} {M:Nat→Prop} {w0:Start}
theorem abq (S:aP P w I β hp B M w0) {nb:Nat} {t:TypeId} {v:Value} {x:V} {lo hi:Option V} {lov hiv:Option Value} {r:R} {rd:List Nat} (hv:an P w I β hp v x)
  (ig: ∀x,hi=some x→∃v,hiv=some v∧an P w I β hp v x) (n0:lo=none→lov=none)
  (h:(Fi P nb t x lo hi).run C hp=some (r,rd)):c9 P ((Instr.sliceAt t v lov hiv none).run P w) w I β hp B M w0 r:=by
 unfold Fi at h
 split at h
 case h_2=>cases h
 rename_i e e' id k hh hu
 obtain ⟨l,h1⟩:=run_get h
 cases aa:hp id with
 | none=>rw[aa] at h1;cases h1
 | some blk=>
  rw[aa] at h1
  cases blk<;>simp only at h1<;>first|(cases h1;done)|skip
  rename_i e2 es fz
  cases fz with
  | true=>cases h1
  | false=>
  obtain ⟨hc,h2⟩:=aQ h1
  simp only[aS,aX,dv] at hc
  obtain ⟨rfl,rfl,aE,Rg,Rh⟩:=hc
  obtain ⟨hn,rfl⟩:=nY h2
  have je:=n0 rfl
  subst je
  obtain ⟨KI,rfl,hhv⟩:=ig _ rfl
  obtain rfl:=hhv.eI
  obtain ⟨i,z,eh,_,ba,_⟩:=kM aE
  have bY:nb≠id:=fun e=>by rw[e,aa] at hn;cases hn
  obtain ⟨k1,k2⟩:=FB S aa
  have kN:aR hp id (some ak.dead) nb=none:=by rw[eC _ _ bY];exact hn
  have Ri: ∀cap,es.length≤cap→(Instr.sliceBounds true es.length cap none (some (.int k hh)) none).run P w= .ok (0,hh.toNat,cap) w:=by
   intro cap cp
   have hb:(tn es.length none (some (.int k hh)) fun l u=> .aK (decide (l=0∧u=hh.toNat)) (.ret (⟨.undef,[]⟩:R))).run C hp=some (⟨.undef,[]⟩,[]):=by
    simp[tn,Rd.run,Rg,Rh]
   obtain ⟨l,u,b1,b2,b3,b4⟩:=rF (P:=P) (w:=w) (I:=I) (β:=β) (hp:=hp) (n:=es.length) (isS:=true) (cap:=cap) (lov:=none) (hiv:=some (.int k hh)) cp (by simp) (fun x hx=>by cases hx;exact ⟨_,rfl,.int⟩) (fun _=>rfl) (by simp) hb
   obtain ⟨b5,_⟩:=aQ b4
   simp only[dv] at b5
   obtain ⟨rfl,rfl⟩:=b5
   exact b3
  cases hv with
  | ez hd=>rw[aa] at hd;cases hd
  | eH hd=>rw[aa] at hd;cases hd
  | @dY _ _ _ a0 hd hb=>
   rw[aa] at hd
   cases hd
   have Kh:hh=0:=by simpa using Int.le_antisymm Rh Rg
   subst Kh
   have aH:=Ri 0 (aI _)
   obtain ⟨a1,a2⟩:=FA k2 e kN
   refine ⟨_,w,I,_,F5 hu eh aH,k1.trans a1,a2,.dY (cZ _ _ _) (cZ _ _ _)⟩
  | @whole _ _ aT nK b cap hd hb A6 cp hm=>
   have eZ:=hd
   rw[aa] at hd
   cases hd
   have hr:=S.h.rel id _ aa
   cases hr with
   | dZ aH=>rw[aH] at hb;cases hb
   | @arr _ _ _ b' Ca _ aH F6 qb hf eB mR=>
    rw[hb] at aH
    cases aH
    have jG:(es.take hh.toNat).length=hh.toNat:=by rw[iT];omega
    have c7:(Instr.sliceAt t (.slice (some ⟨b,0,none⟩) es.length cap) none (some (.int k hh)) none).run P w= .ok (.slice (some ⟨b,0,none⟩) hh.toNat cap) w:=by
     have aH:=Ri cap cp
     by_cases F7:cap=0
     ·subst F7
      simp[Instr.sliceAt,Instr.slice,run_underlying hu,aH,sizeOf,typeInfo,eh]
     ·simp[Instr.sliceAt,Instr.slice,run_underlying hu,aH,sizeOf,typeInfo,eh,F7,nT]
    have rp: ∀aL blk',aR hp id (some ak.dead) aL=some blk'→¬bG P w (β aL) blk' b:=by
     intro aL blk' h1 h2
     by_cases jd:aL=id
     ·subst jd;rw[cZ] at h1;cases h1;exact h2.alive rfl
     ·rw[eC _ _ jd] at h1
      exact jd (S.h.inj aL id blk' _ b h1 aa h2 (.root (by simp) hb))
    obtain ⟨a1,a2⟩:=AI k2 (blk:= .arr e (es.take hh.toNat) false) (w':=w) kN rp (eB rfl) (fun _ _ _=>rfl) (aI _) ⟨rfl,rfl⟩ (S.h.tw id _ b aa (by simp) hb)
     (fun b' h=>(cX (h.flat (by simp))).symm) (fun hle=> .arr aE rfl F6 (by rw[jG];exact kp (dJ _ (by omega)) qb) (fun h=>by cases h) (fun _=>eB rfl) fun i j y t' hy ht hj=>by
      have rE:=(bA.1 hy).1
      rw[jG] at rE
      rw[fv rE] at hy
      obtain ⟨v,hv,hp⟩:=mR i j y t' hy ht hj
      exact ⟨v,hv,hp.mono hle.dw hle.cu⟩)
    refine ⟨_,w,I,_,c7,k1.trans a1,a2,?_⟩
    have:=an.whole (P:=P) (w:=w) (I:=I) (β:=aR β nb (some b)) (hp:=aR (aR hp id (some .dead)) nb (some (.arr e (es.take hh.toNat) false))) (cap:=cap) (cZ _ _ _) (cZ _ _ _) A6 (by rw[jG];omega) hm
    rw[jG] at this
    exact this
theorem rG {t:TypeId} {x:V} (h:pS P t x=true):
  (∃q n,P.underlying t=some (.int q)∧x= .int q n∧dq q n=true)∨(∃b,P.underlying t=some .bool∧x= .bool b)∨(∃s,P.underlying t=some .string∧x= .str s∧s.length≤maxLen):=by
 unfold pS at h
 split at h
 ·rename_i q q' n hu
  simp only[aS,dv] at h
  obtain ⟨rfl,h⟩:=h
  exact .inl ⟨_,_,hu,rfl,h⟩
 ·rename_i b hu
  exact .inr (.inl ⟨_,hu,rfl⟩)
 ·rename_i s hu
  exact .inr (.inr ⟨_,hu,rfl,by simpa using h⟩)
 ·cases h
theorem size_data (s:ByteArray):s.data.toList.length=s.size:=by simp
theorem abr {q:IntKind} {n:Int} (h:dq q n=true):(Lit.int q n).wf=true:=h
theorem Rj {t:TypeId} {x:V} {v:Value} (h:pS P t x=true) (hv:jE v x): ∃l,mapKey P t v=some l∧∀d,P.keyLits (d+1) t [v]=some [l]:=by
 rcases rG h with ⟨q,n,hu,rfl,hn⟩|⟨b,hu,rfl⟩|⟨s,hu,rfl,hs⟩
 ·obtain rfl:v= .int q n:=hv
  have hw:=abr hn
  exact ⟨.int q n,by simp[mapKey,hu,hw],fun d=>by simp[Program.keyLits,hu,hw]⟩
 ·obtain rfl:v= .bool b:=hv
  exact ⟨.bool b,by simp[mapKey,hu],fun d=>by simp[Program.keyLits,hu]⟩
 ·obtain ⟨s',rfl,tH⟩:=hv
  have:s'.size≤maxLen:=by rw[←size_data,tH];exact hs
  exact ⟨.string s'.data.toList,by simp[mapKey,hu,this],fun d=>by simp[Program.keyLits,hu,this]⟩
theorem KJ {t:TypeId}: ∀{xs:List V} {j:Nat} {x:V},qX P t xs=true→xs[j]? =some x→pS P t x=true
 | [],j,x,_,h=>by simp at h
 | y::ys,0,x,h,hx=>by
  simp only[qX,aS] at h
  simp at hx;subst hx;exact h.1
 | y::ys,j+1,x,h,hx=>by
  simp only[qX,aS] at h
  exact KJ (j:=j) h.2 (by simpa using hx)
theorem mapM_some {α β:Type} {f:α→Option β}: ∀{l:List α},(∀a∈l,∃b,f a=some b)→∃bs,l.mapM f=some bs
 | [],_=>⟨[],rfl⟩
 | a::l,h=>by
  obtain ⟨b,hb⟩:=h a (s7 ..)
  obtain ⟨bs,ib⟩:=mapM_some (l:=l) fun x hx=>h x (mD _ hx)
  exact ⟨b::bs,by simp[List.mapM_cons,hb,ib]⟩
inductive KK (P:Program) (t:TypeId) (x:V):Prop
 | one:pS P t x=true→x.cells=[x]→KK P t x
 | arr {n:Nat} {e:TypeId} {xs:List V}:x= .agg xs→WideMaps.ArrKey P t e n→xs.length=n→0<P.types.size→qX P e xs=true→KK P t x
theorem xH {t:TypeId} {x:V} (h:nH P t x=true):KK P t x:=by
 unfold nH at h
 split at h
 ·rename_i n e xs hu
  simp only[aS,aX] at h
  rw[ku] at h
  exact .arr rfl ⟨hu,h.2.2.2.1,h.2.1,h.2.2.1⟩ h.1 h.2.2.2.2.1 h.2.2.2.2.2
 ·refine .one h ?_
  rcases rG h with ⟨q,n,hu,rfl,hn⟩|⟨b,hu,rfl⟩|⟨s,hu,rfl,hs⟩<;>rfl
theorem rf.one {x:V} {v:Value} (h:rf v x) (hx:x.cells=[x]):jE v x:=by
 cases x<;>first|exact h|skip
 simp only[V.cells] at hx
 rename_i cs
 have:=congrArg List.length hx
 cases cs with
 | nil=>simp at hx
 | cons c cs=>
  simp only[zU] at hx
  have:=congrArg SizeOf.sizeOf hx.1
  simp at this
  omega
theorem F8 {t:TypeId} {x:V} {v:Value} (h:nH P t x=true) (hv:rf v x): ∃l,Go.keyOf P t v=some l:=by
 cases xH h with
 | one h1 hx=>
  obtain ⟨l,hl,_⟩:=Rj h1 (hv.one hx)
  refine ⟨l,?_⟩
  rcases rG h1 with ⟨q,n,hu,_⟩|⟨b,hu,_⟩|⟨s,hu,_⟩<;>simp only[Go.keyOf,hu,hl]
 | @arr n e xs hx A hl hp0 hf=>
  subst hx
  obtain ⟨cs,rfl,hs,hc⟩:=hv
  obtain ⟨m,hm⟩: ∃m,P.types.size=m+1:=⟨P.types.size-1,by omega⟩
  have hkt:=A.keyType ⟨m,hm⟩
  have hlen:cs.toList.length=P.cellsOf t:=by rw[A.size];simp[hs,hl]
  have hfm:(Value.agg cs).formed P t=true:=by simp[Value.formed,A.hu,A.size,hs,hl]
  have hex: ∀i∈List.range n,∃y,P.keyLits (m+1) e (((Value.agg cs).cells.toList.drop (i*P.cellsOf e)).take (P.cellsOf e))=some y:=by
   intro i hi
   have hi:=gG.1 hi
   rw[A.one]
   have gK:i<cs.size:=by omega
   have A7:i<xs.length:=by omega
   obtain ⟨l,_,h2⟩:=Rj (KJ hf (bI A7)) (hc i cs[i] xs[i] (kY gK) (bI A7))
   have e1:((Value.agg cs).cells.toList.drop (i*1)).take 1=[cs[i]]:=by
    show (cs.toList.drop (i*1)).take 1=_
    rw[nD,List.drop_eq_getElem_cons (by simpa using gK)]
    simp
   rw[e1]
   exact ⟨_,h2 m⟩
  obtain ⟨bs,ib⟩:=mapM_some hex
  refine ⟨.string (keyBytes bs.flatten),?_⟩
  have abt:(Value.agg cs).cells.toList.length=P.cellsOf t:=hlen
  unfold Go.keyOf
  rw[A.hu]
  simp only[hkt,hfm,zV,iR]
  unfold Program.keyLits
  rw[A.hu,hm]
  simp only[abt,iR,ib,Option.map_some]
theorem KL {t:TypeId} {x:V} (h:nH P t x=true):Keyed P t:=by
 cases xH h with
 | one h1 hx=>
  rcases rG h1 with ⟨q,n,hu,_⟩|⟨b,hu,_⟩|⟨s,hu,_⟩
  ·exact int_keyed hu
  ·exact bool_keyed hu
  ·exact string_keyed hu
 | arr hx A hl _ hf=>exact Keyed.of_law A.law
theorem Rk {t:TypeId} {x y:V} {v u:Value} (h1:pS P t x=true) (h2:pS P t y=true) (hv:jE v x) (hu:jE u y):tk x y=true↔v=u:=by
 rcases rG h1 with ⟨q,n,mU,rfl,_⟩|⟨b,mU,rfl⟩|⟨s,mU,rfl,_⟩<;>
 rcases rG h2 with ⟨q',n',qd,rfl,_⟩|⟨b',qd,rfl⟩|⟨s',qd,rfl,_⟩<;>
  (rw[mU] at qd;cases qd)
 ·obtain rfl:v= .int q n:=hv
  obtain rfl:u= .int q n':=hu
  simp[tk]
 ·obtain rfl:v= .bool b:=hv
  obtain rfl:u= .bool b':=hu
  simp[tk]
 ·obtain ⟨s1,rfl,e1⟩:=hv
  obtain ⟨s2,rfl,e2⟩:=hu
  simp only[tk,beq_iff_eq,Value.string.injEq,←e1,←e2]
  constructor
  ·intro h
   have:=Array.toList_inj.1 h
   cases s1;cases s2;simp_all
  ·rintro rfl;rfl
theorem Rl {t:TypeId}: ∀{xs ys:List V} {vs us:List Value},qX P t xs=true→qX P t ys=true→xs.length=ys.length→vs.length=xs.length→us.length=ys.length→
  (∀(j:Nat) v x,vs[j]? =some v→xs[j]? =some x→jE v x)→(∀(j:Nat) v x,us[j]? =some v→ys[j]? =some x→jE v x)→(pR xs ys=true↔vs=us)
 | [],[],vs,us,_,_,_,h1,h2,_,_=>by
  have e1:=nA (l:=vs) (by simpa using h1)
  have e2:=nA (l:=us) (by simpa using h2)
  simp[pR,e1,e2]
 | [],_::_,_,_,_,_,h,_,_,_,_=>by simp at h
 | _::_,[],_,_,_,_,h,_,_,_,_=>by simp at h
 | x::xs,y::ys,[],us,_,_,_,h,_,_,_=>by simp at h
 | x::xs,y::ys,v::vs,[],_,_,_,_,h,_,_=>by simp at h
 | x::xs,y::ys,v::vs,u::us,f1,f2,h,h1,h2,r1,r2=>by
  simp only[qX,aS] at f1 f2
  have a:=Rk f1.1 f2.1 (r1 0 v x rfl rfl) (r2 0 u y rfl rfl)
  have b:=Rl (vs:=vs) (us:=us) f1.2 f2.2 (by simpa using h) (by simpa using h1) (by simpa using h2) (fun j v x hj hx=>r1 (j+1) v x (by simpa using hj) (by simpa using hx)) (fun j v x hj hx=>r2 (j+1) v x (by simpa using hj) (by simpa using hx))
  simp only[pR,aS,a,b,zU]
theorem KM {t:TypeId} {x y:V} {v u:Value} (h1:nH P t x=true) (h2:nH P t y=true) (hv:rf v x) (hu:rf u y):jz x y=true↔v=u:=by
 unfold jz
 cases xH h1 with
 | one f1 c1=>
  cases xH h2 with
  | one f2 c2=>
   rw[c1,c2]
   simp only[pR,Bool.and_true]
   exact Rk f1 f2 (hv.one c1) (hu.one c2)
  | arr hy A hl _ hf=>
   rcases rG f1 with ⟨q,n,mU,_⟩|⟨b,mU,_⟩|⟨s,mU,_⟩<;>(rw[A.hu] at mU;cases mU)
 | arr hx A hl _ hf=>
  cases xH h2 with
  | one f2 c2=>
   rcases rG f2 with ⟨q,n,mU,_⟩|⟨b,mU,_⟩|⟨s,mU,_⟩<;>(rw[A.hu] at mU;cases mU)
  | arr hy A2 uI _ hf2=>
   have gT:=A.hu.symm.trans A2.hu
   cases gT
   subst hx
   subst hy
   obtain ⟨cs,rfl,s1,r1⟩:=hv
   obtain ⟨ds,rfl,s2,r2⟩:=hu
   have:=Rl (vs:=cs.toList) (us:=ds.toList) hf hf2 (by omega) (by simpa using s1) (by simpa using s2) (fun j v x hj hx=>r1 j v x (by simpa using hj) hx) (fun j v x hj hx=>r2 j v x (by simpa using hj) hx)
   simp only[V.cells,this,Value.agg.injEq]
   exact Array.toList_inj
theorem Rm {k:V}: ∀{es:List V},(∀x∈es,jz k (x.comp 0)=false)→gO k es=false∧(∀z,jA k es z=z)∧∀v,fQ k v es=es++[.bm [k,v]]
 | [],_=>⟨rfl,fun _=>rfl,fun _=>rfl⟩
 | e::es,h=>by
  have h0:=h e (s7 ..)
  obtain ⟨a,b,c⟩:=Rm (k:=k) (es:=es) fun x hx=>h x (mD _ hx)
  exact ⟨by simp[gO,h0,a],fun z=>by simp[jA,h0,b],fun v=>by simp[fQ,h0,c]⟩
theorem Rn {k:V}: ∀{es:List V} {j:Nat} {k' y:V},es[j]? =some (.bm [k',y])→jz k k'=true→(∀i x,i<j→es[i]? =some x→jz k (x.comp 0)=false)→
  gO k es=true∧(∀z,jA k es z=y)∧∀v,fQ k v es=es.set j (.bm [k',v])
 | [],j,k',y,h,_,_=>by simp at h
 | e::es,0,k',y,h,he,_=>by
  simp at h
  subst h
  exact ⟨by simp[gO,V.comp,V.nth,he],fun z=>by simp[jA,V.comp,V.nth,he],fun v=>by simp[fQ,V.comp,V.nth,he]⟩
 | e::es,j+1,k',y,h,he,aY=>by
  have h0:=aY 0 e (by omega) rfl
  obtain ⟨a,b,c⟩:=Rn (k:=k) (es:=es) (j:=j) (by simpa using h) he fun i x hi hx=>aY (i+1) x (by omega) (by simpa using hx)
  exact ⟨by simp[gO,h0,a],fun z=>by simp[jA,h0,b],fun v=>by simp[fQ,h0,c]⟩
theorem Ro {kt vt:TypeId} {E:Array MapEntry} {es:List V} {k:V} {kv:Value} (hs:E.size=es.length) (hx: ∀(j:Nat) (e:MapEntry) (x:V),E[j]? =some e→es[j]? =some x→Ft P kt vt e x)
  (hn:E.toList.Pairwise (fun a b=>a.key≠b.key)) (hk:nH P kt k=true) (F9:rf kv k) (w:World):
  ((Instr.findKey kt kv E.toList).run P w= .ok none w∧(∀e∈E.toList,e.key≠kv)∧gO k es=false∧(∀z,jA k es z=z)∧∀v,fQ k v es=es++[.bm [k,v]])∨
  ∃j e k' y,(Instr.findKey kt kv E.toList).run P w= .ok (some (j,e.val)) w∧E[j]? =some e∧e.key=kv∧es[j]? =some (.bm [k',y])∧nH P kt k'=true∧rf kv k'∧eN P vt y=true∧jE e.val y∧
   gO k es=true∧(∀z,jA k es z=y)∧∀v,fQ k v es=es.set j (.bm [k',v]):=by
 have K:=KL hk
 obtain ⟨l,hl⟩:=F8 hk F9
 have Rp: ∀(j:Nat) x,es[j]? =some x→∃e,E[j]? =some e∧Ft P kt vt e x:=by
  intro j x hj
  have aY:j<E.size:=by rw[hs];exact (bA.1 hj).1
  exact ⟨E[j],kY aY,hx j _ x (kY aY) hj⟩
 have keys: ∀e∈E.toList,∃l,Go.keyOf P kt e.key=some l:=by
  intro e he
  obtain ⟨j,hj⟩:=sZ he
  have gR:E[j]? =some e:=by simpa using hj
  have aY:j<es.length:=by rw[←hs];exact (iu.1 gR).1
  obtain ⟨k',y,_,h1,h2,_⟩:=hx j e es[j] gR (bI aY)
  exact F8 h1 h2
 rcases K.find w hl E.toList keys with ⟨h1,h2⟩|⟨j,e,h1,h2,h3⟩
 ·left
  refine ⟨h1,h2,Rm fun x hxm=> ?_⟩
  obtain ⟨j,hj⟩:=sZ hxm
  obtain ⟨e,he,k',y,rfl,f1,f2,_⟩:=Rp j x hj
  cases hq:jz k (V.comp (.bm [k',y]) 0) with
  | false=>rfl
  | true=>
   have:=(KM hk f1 F9 f2).1 hq
   exact absurd this.symm (h2 e (jv (by simpa using he)))
 ·right
  have hE:E[j]? =some e:=by simpa using h2
  have aY:j<es.length:=by rw[←hs];exact (iu.1 hE).1
  obtain ⟨k',y,hy,f1,f2,f3,f4⟩:=hx j e es[j] hE (bI aY)
  have hj:=bI aY
  rw[hy] at hj
  rw[h3] at f2
  refine ⟨j,e,k',y,h1,hE,h3,hj,f1,f2,f3,f4,Rn hj ((KM hk f1 F9 f2).2 rfl) fun i x hi gP=> ?_⟩
  obtain ⟨e',vi,k2,y2,rfl,g1,g2,_⟩:=Rp i x gP
  cases hq:jz k (V.comp (.bm [k2,y2]) 0) with
  | false=>rfl
  | true=>
   have:=(KM hk g1 F9 g2).1 hq
   have i1:i<E.toList.length:=by have:=(bA.1 gP).1;simp;omega
   have i2:j<E.toList.length:=by simp;omega
   have:=wU.1 hn i j i1 i2 hi
   have a1:E.toList[i]=e':=by
    have:E.toList[i]? =some e':=by simpa using vi
    rw[bI i1] at this;exact cX this
   have a2:E.toList[j]=e:=by
    have:=h2
    rw[bI i2] at this;exact cX this
   rw[a1,a2,h3] at this
   exact absurd (by rw[← ‹kv=e'.key›]) this
theorem an.Rq {v:Value} {x:V} (h:an P w I β hp v x) {t:TypeId} (hx:pS P t x=true):jE v x:=by
 rcases rG hx with ⟨q,n,_,rfl,_⟩|⟨b,_,rfl⟩|⟨s,_,rfl,_⟩
 ·exact h.eI
 ·exact h.jX
 ·exact h.mM
theorem an.Rr {v:Value} {x:V} (h:an P w I β hp v x) {t:TypeId} (hx:nH P t x=true):rf v x:=by
 cases xH hx with
 | one f c=>
  have:=h.Rq f
  cases x<;>first|exact this|cases this
 | arr hx A hl _ hf=>
  subst hx
  obtain ⟨cs,rfl,h1,h2⟩:=h.lj
  exact ⟨cs,rfl,h1,fun j u y hu hy=>(h2 j u y hu hy).Rq (KJ hf hy)⟩
theorem Rs {vt:TypeId} {y:V} (h:mapVal P vt=true) (ht:eN P vt y=true):(∃q n,P.underlying vt=some (.int q)∧y= .int q n)∨∃b,P.underlying vt=some .bool∧y= .bool b:=by
 unfold mapVal at h
 unfold eN at ht
 split at h
 ·rename_i q hu
  rw[hu] at ht
  cases y<;>first|(simp at ht;done)|skip
  simp only[dv] at ht
  subst ht
  exact .inl ⟨_,_,hu,rfl⟩
 ·rename_i hu
  rw[hu] at ht
  cases y<;>first|(simp at ht;done)|skip
  exact .inr ⟨_,hu,rfl⟩
 ·cases h
theorem jE.KN {vt:TypeId} {v:Value} {y:V} (h:mapVal P vt=true) (ht:eN P vt y=true) (hv:jE v y):an P w I β hp v y:=by
 rcases Rs h ht with ⟨q,n,_,rfl⟩|⟨b,_,rfl⟩
 ·obtain rfl:v= .int q n:=hv;exact .int
 ·obtain rfl:v= .bool b:=hv;exact .bool
theorem an.abu {vt:TypeId} {v:Value} {y:V} (h:mapVal P vt=true) (ht:eN P vt y=true) (hv:an P w I β hp v y):jE v y:=by
 rcases Rs h ht with ⟨q,n,_,rfl⟩|⟨b,_,rfl⟩
 ·exact hv.eI
 ·exact hv.jX
theorem abv {vt:TypeId} {z:V} (h:Fc P vt=some z) (w:World): ∃v,(zeroValue vt).run P w= .ok v w∧jE v z:=by
 unfold Fc at h
 cases hi:P.info? vt with
 | none=>rw[hi] at h;cases h
 | some i=>
  rw[hi] at h
  simp only[Option.bind_some] at h
  cases hz:i.zero with
  | none=>rw[hz] at h;cases h
  | some v=>
   rw[hz] at h
   refine ⟨v,by simp[zeroValue,typeInfo,hi,hz],?_⟩
   cases v<;>simp only at h<;>first|(cases h;done)|skip
   ·cases h;rfl
   ·cases h;rfl
theorem KO {t kt vt:TypeId} (h:lP P t=some (kt,vt)):P.underlying t=some (.map kt vt):=by
 unfold lP at h
 split at h
 ·rename_i k e hu;cases h;exact hu
 ·cases h
theorem KP (S:aP P w I β hp B M w0) {ok:Bool} {v:Value} {x:V} {b:Bool} {r:R} {rd:List Nat} {res:Result Value} (hv:an P w I β hp v x)
  (hr:res= .ok (if ok then .tuple #[v,.bool b] else v) w) (h:(Fe ok x b).run C hp=some (r,rd)):c9 P res w I β hp B M w0 r:=by
 unfold Fe at h
 obtain rfl:=aU h
 cases ok with
 | false=>exact .same S hr hv
 | true=>
  refine .same S hr (.bm rfl fun j u y hu hy=> ?_)
  match j,hu,hy with
  | 0,hu,hy=>simp at hu hy;subst hu;subst hy;exact hv
  | 1,hu,hy=>simp at hu hy;subst hu;subst hy;exact .bool
  | j+2,hu,hy=>simp at hy
theorem abw (S:aP P w I β hp B M w0) {t kt vt:TypeId} (ht:lP P t=some (kt,vt)) {m k:Value} {mx kx:V} {ok:Bool} {r:R} {rd:List Nat} (hm:an P w I β hp m mx) (hk:an P w I β hp k kx)
  (h:(JI P t mx kx ok).run C hp=some (r,rd)):c9 P ((Instr.lookup t m k ok).run P w) w I β hp B M w0 r:=by
 unfold JI at h
 rw[ht] at h
 simp only at h
 cases hz:Fc P vt with
 | none=>rw[hz] at h;cases h
 | some z=>
  rw[hz] at h
  obtain ⟨hc,h'⟩:=aQ h
  clear h
  have h:=h'
  clear h'
  simp only[aS] at hc
  obtain ⟨qe,A9,Ga⟩:=hc
  have hu:=KO ht
  have xI:=hk.Rr qe
  have K:=KL qe
  obtain ⟨l,hl⟩:=F8 qe xI
  obtain ⟨zv,Rt,Ru⟩:=abv hz w
  cases mx<;>simp only at h<;>first|(cases h;done)|skip
  ·rename_i t' id
   obtain ⟨kL,h'⟩:=aQ h
   clear h
   have h:=h'
   clear h'
   rw[aX] at kL
   subst kL
   obtain ⟨l2,h'⟩:=run_get h
   clear h
   have h:=h'
   clear h'
   cases aa:hp id with
   | none=>rw[aa] at h;cases h
   | some blk=>
    rw[aa] at h
    cases blk<;>simp only at h<;>first|(cases h;done)|skip
    rename_i t2 es
    obtain ⟨kL,h'⟩:=aQ h
    clear h
    have h:=h'
    clear h'
    rw[aX] at kL
    subst kL
    cases hm with
    | iE hd=>rw[aa] at hd;cases hd
    | @cd _ _ b aT hd hb=>
     rw[aa] at hd
     cases hd
     have hr:=S.h.rel id _ aa
     cases hr with
     | @map _ Rv Rw _ b' clock E gr aH hh hs hI hx hn=>
      rw[hb] at aH;cases aH
      rw[hu] at gr;cases gr
      rcases Ro hs hx hn qe xI w with ⟨h1,_,h3,h4,_⟩|⟨j,e,k',y,h1,_,_,_,_,_,h6,h7,h3,h4,_⟩
      ·rw[h3,h4,AN Ga] at h
       refine KP S (jE.KN A9 Ga Ru) ?_ h
       unfold Instr.lookup
       simp only[Sem.run_bind,run_underlying hu,Result.andThen_ok,Go.MapKept.run_getObj_map hh,Sem.run_pure,K.check w E.isEmpty hl,h1,Rt]
      ·rw[h3,h4,AN h6] at h
       refine KP S (jE.KN A9 h6 h7) ?_ h
       unfold Instr.lookup
       simp only[Sem.run_bind,run_underlying hu,Result.andThen_ok,Go.MapKept.run_getObj_map hh,Sem.run_pure,K.check w E.isEmpty hl,h1]
  ·rename_i t'
   obtain ⟨kL,h⟩:=aQ h
   cases hm
   rw[AN Ga] at h
   refine KP S (jE.KN A9 Ga Ru) ?_ h
   have hf:(Instr.findKey kt k []).run P w= .ok none w:=by
    rcases K.find w hl [] (by simp) with ⟨h1,_⟩|⟨j,e,_,h2,_⟩
    ·exact h1
    ·simp at h2
   unfold Instr.lookup
   simp[run_underlying hu,K.check w true hl,hf,Rt]
theorem abx (S:aP P w I β hp B M w0) {t:TypeId} {nb:Nat} {r:R} {rd:List Nat} (h:(Rd.aK (lP P t).isSome (jB nb (.map t []) (.cd t nb) [])).run C hp=some (r,rd)):
  c9 P ((Instr.makeMap t none).run P w) w I β hp B M w0 r:=by
 obtain ⟨ht,h⟩:=aQ h
 obtain ⟨hn,rfl⟩:=nY h
 obtain ⟨⟨kt,vt⟩,ht⟩:=Option.isSome_iff_exists.1 ht
 have hu:=KO ht
 have cO: ¬I w.heap.size:=fun h=>Nat.lt_irrefl _ (S.h.jV _ h)
 have fj:(w.alloc (.map #[] 0)).heap[w.heap.size]? =some (.map #[] 0):=heap_alloc_new w _
 obtain ⟨a1,a2⟩:=AI S (w':=w.alloc (.map #[] 0)) (blk:= .map t []) (b:=w.heap.size) hn (fun aL blk' h ho=>Nat.lt_irrefl _ (S.h.lt h ho)) cO
  (fun b' _ aY=>heap_alloc_old w _ b' aY) (by simp) ⟨rfl,rfl⟩ (.inr S.size) (fun b' h=>(cX (h.flat (by simp))).symm)
  (fun _=> .map hu rfl fj rfl cO (fun j e x he _=>by simp at he) (by simp))
 exact ⟨_,_,_,_,Go.RowKit.run_makeMap t w,a1,a2,.cd (cZ _ _ _) (cZ _ _ _)⟩
theorem Rx (S:aP P w I β hp B M w0) {t kt vt:TypeId} (ht:lP P t=some (kt,vt)) {m k v:Value} {mx kx vx:V} {r:R} {rd:List Nat} (hm:an P w I β hp m mx) (hk:an P w I β hp k kx) (hv:an P w I β hp v vx)
  (h:(Ff P t mx kx vx).run C hp=some (r,rd)):p5 P ((Instr.mapUpdate t m k v).run P w) w I β hp B M w0 r:=by
 unfold Ff at h
 rw[ht] at h
 obtain ⟨hc,h'⟩:=aQ h
 clear h
 have h:=h'
 clear h'
 simp only[aS] at hc
 obtain ⟨qe,A9,vm⟩:=hc
 have hu:=KO ht
 have xI:=hk.Rr qe
 have xt:=an.abu A9 vm hv
 have K:=KL qe
 obtain ⟨l,hl⟩:=F8 qe xI
 cases mx<;>simp only at h<;>first|(cases h;done)|skip
 rename_i t' id
 obtain ⟨kL,h'⟩:=aQ h
 clear h
 have h:=h'
 clear h'
 rw[aX] at kL
 subst kL
 obtain ⟨l2,h'⟩:=run_get h
 clear h
 have h:=h'
 clear h'
 cases aa:hp id with
 | none=>rw[aa] at h;cases h
 | some blk=>
  rw[aa] at h
  cases blk<;>simp only at h<;>first|(cases h;done)|skip
  rename_i t2 es
  obtain ⟨kL,h'⟩:=aQ h
  clear h
  have h:=h'
  clear h'
  rw[aX] at kL
  subst kL
  obtain rfl:=aU h
  cases hm with
  | iE hd=>rw[aa] at hd;cases hd
  | @cd _ _ b aT hd hb=>
   rw[aa] at hd
   cases hd
   have hr:=S.h.rel id _ aa
   cases hr with
   | @map _ Rv Rw _ b' clock E gr aH hh hs hI hx hn=>
    rw[hb] at aH;cases aH
    rw[hu] at gr;cases gr
    have aY:b<w.heap.size:=(iu.1 hh).1
    have fin: ∀(E':Array MapEntry) (Ba:Nat),(Instr.mapUpdate t (.map (some b)) k v).run P w= .ok () {w with heap:=w.heap.setIfInBounds b (.map E' Ba)}→E'.size=(fQ kx vx es).length→
      (∀(j:Nat) (e:MapEntry) (x:V),E'[j]? =some e→(fQ kx vx es)[j]? =some x→Ft P kt vt e x)→E'.toList.Pairwise (fun a b=>a.key≠b.key)→
      p5 P ((Instr.mapUpdate t (.map (some b)) k v).run P w) w I β hp B M w0 ⟨.undef,[(id,.map t (fQ kx vx es))]⟩:=by
     intro E' Ba c7 tH cD KQ
     have fj:({w with heap:=w.heap.setIfInBounds b (.map E' Ba)}:World).heap[b]? =some (.map E' Ba):=by simp[aY]
     obtain ⟨a1,a2⟩:=FC S (w':={w with heap:=w.heap.setIfInBounds b (.map E' Ba)}) (blk':= .map t (fQ kx vx es)) aa (by simp) rfl hb hI (by simp)
      (fun b' aH=>by simp[Array.getElem?_setIfInBounds,Ne.symm aH]) (by simp only[bsize,fj,hh]) (by simp) ⟨rfl,rfl⟩ (fun _=> .map hu rfl fj tH hI cD KQ)
     exact ⟨_,I,β,c7,a1,a2,rfl⟩
    rcases Ro hs hx hn qe xI w with ⟨h1,h2,_,_,h5⟩|⟨j,e,k',y,h1,hE,Ry,hes,aby,abz,_,_,_,_,h5⟩
    ·have e5:=h5 vx
     refine fin (E.push {key:=k,val:=v,born:=clock}) (clock+1) ?_ (by rw[e5];simp[hs]) (fun j e x he rr=> ?_) ?_
     ·unfold Instr.mapUpdate
      simp only[Sem.run_bind,run_underlying hu,Result.andThen_ok,Go.MapKept.run_getObj_map hh,K.check w false hl,h1,Go.MapKept.run_setObj_map _ hh]
     ·rw[e5] at rr
      rw[Array.getElem?_push] at he
      split at he
      ·rename_i hj
       rw[jR (by omega),hj,hs,zW] at rr
       simp at he rr
       subst he;subst rr
       exact ⟨kx,vx,rfl,qe,xI,vm,xt⟩
      ·have hj:j<E.size:=(iu.1 he).1
       rw[kz (by omega)] at rr
       exact hx j e x he rr
     ·rw[Array.toList_push,List.pairwise_append]
      refine ⟨hn,by simp,fun a ha b' aH=> ?_⟩
      simp only[gY] at aH
      subst aH
      exact h2 a ha
    ·have e5:=h5 vx
     have hj:j<E.size:=(iu.1 hE).1
     refine fin (E.modify j fun e=>{e with key:=k,val:=v}) clock ?_ (by rw[e5];simp[hs]) (fun i e' x he gP=> ?_) ?_
     ·have b6:=K.stays w hl
      unfold Instr.mapUpdate
      simp only[Sem.run_bind,run_underlying hu,Result.andThen_ok,Go.MapKept.run_getObj_map hh,K.check w false hl,h1]
      simp only[hE,Option.map_some,Option.getD_some,Ry,b6,Result.andThen_ok,Go.MapKept.run_setObj_map _ hh]
     ·rw[e5] at gP
      rw[zX] at he
      rw[uy] at gP
      split at he
      ·rename_i vn
       subst vn
       rw[af rfl,af (by omega)] at gP
       rw[hE] at he
       simp at he gP
       subst he;subst gP
       exact ⟨k',vx,rfl,aby,abz,vm,xt⟩
      ·rename_i vn
       rw[ah vn] at gP
       exact hx i e' x he gP
     ·have Rz: ∀i (h1:i<(E.modify j fun e=>{e with key:=k,val:=v}).toList.length) (h2:i<E.toList.length),((E.modify j fun e=>{e with key:=k,val:=v}).toList[i]).key=(E.toList[i]).key:=by
       intro i h1 h2
       simp only[Array.getElem_toList,Array.getElem_modify]
       split
       ·rename_i vn
        subst vn
        have:=(iu.1 hE).2
        rw[this,Ry]
       ·rfl
      rw[wU] at hn⊢
      intro i i' h1 h2 jd
      have g1:i<E.toList.length:=by simpa using h1
      have g2:i'<E.toList.length:=by simpa using h2
      rw[Rz i h1 g1,Rz i' h2 g2]
      exact hn i i' g1 g2 jd
theorem abA (S:aP P w I β hp B M w0) {t ty kt vt:TypeId} {v:Value} {x:V} {r:R} {rd:List Nat} (hu:P.underlying t=some (.map kt vt)) (hv:an P w I β hp v x)
  (h:(Fg x).run C hp=some (r,rd)):c9 P ((Builtin.len_ #[t] ty #[v]).run P w) w I β hp B M w0 r:=by
 unfold Fg at h
 cases x<;>simp only at h<;>first|(cases h;done)|skip
 ·rename_i t' id
  obtain ⟨l2,h'⟩:=run_get h
  clear h
  have h:=h'
  clear h'
  cases aa:hp id with
  | none=>rw[aa] at h;cases h
  | some blk=>
   rw[aa] at h
   cases blk<;>simp only at h<;>first|(cases h;done)|skip
   rename_i t2 es
   obtain rfl:=aU h
   cases hv with
   | iE hd=>rw[aa] at hd;cases hd
   | @cd _ _ b aT hd hb=>
    rw[aa] at hd
    cases hd
    have hr:=S.h.rel id _ aa
    cases hr with
    | @map _ Rv Rw _ b' clock E gr aH hh hs hI hx hn=>
     rw[hb] at aH;cases aH
     refine .same S (v:= .int .i64 E.size) (by simp[Builtin.len_,run_underlying hu,Go.MapKept.run_getObj_map hh,goInt]) ?_
     rw[hs]
     exact .int
 ·obtain rfl:=aU h
  cases hv
  exact .same S (v:= .int .i64 0) (by simp[Builtin.len_,run_underlying hu,goInt]) .int
theorem an.KR {v:Value} {t:TypeId} (h:an P w I β hp v (.dG t)):v= .map none:=by cases h;rfl
theorem an.abB {v:Value} {t t':TypeId} {id:Nat} {es:List V} (h:an P w I β hp v (.cd t id)) (aa:hp id=some (.map t' es)): ∃b,v= .map (some b):=by
 cases h with
 | iE h=>rw[aa] at h;cases h
 | cd h hb=>exact ⟨_,rfl⟩
theorem RA (S:aP P w I β hp B M w0) {op:BinOp} {t:TypeId} {a:Option Nat} {r:R} {rd:List Nat} (x y:Operand)
  (h:(E9 P op t a.isNone).run C hp=some (r,rd)):c9 P ((do eqGuard op t x y (.map a) (.map none);binOp op t (.map a) (.map none)).run P w) w I β hp B M w0 r:=by
 unfold E9 at h
 split at h
 case h_2=>cases h
 rename_i kt vt hu
 have he:(Op.equal t (.map a) (.map none)).run P w= .ok a.isNone w:=by
  show (Op.equalIn (9999+1) t (.map a) (.map none)).run P w=_
  rw[Op.equalIn]
  cases a<;>simp[Sem.run_bind,run_underlying hu,Result.andThen_ok,Sem.run_pure]
 cases op<;>simp only at h<;>first|(cases h;done)|skip
 ·obtain rfl:=aU h
  exact .same S (by simp[eqGuard,binOp,he]) .bool
 ·obtain rfl:=aU h
  exact .same S (by simp[eqGuard,binOp,he]) .bool
end
end Go.AM
namespace Go.AM
section
variable {P:Program} {w w':World} {I I':Nat→Prop} {β au:Nat→Option Nat} {hp hp':Nat→Option ak} {C:ae} {B:Nat} {M:Nat→Prop} {w0:Start}
theorem abC {e:TypeId} (he:P.underlying e=some (.int .u8)) (hc:P.cellsOf e=1) (s:ByteArray): ∀(i j:Nat) (x:V) (t':TypeId),(s.data.toList.map Ap)[i]? =some x→(a9 P e)[j]? =some t'→j<P.cellsOf e→
  ∃u,(Lib.strCells s)[i*P.cellsOf e+j]? =some u∧Pure P w I t' u (bS P e x j):=by
 intro i j x t' hx ht hj
 have n7:bP P e=false:=by simp[bP,he]
 obtain rfl:j=0:=by omega
 simp only[a9,n7,cond_false,List.getElem?_cons_zero,dO] at ht
 subst ht
 rw[eM] at hx
 cases hb:s.data.toList[i]? with
 | none=>rw[hb] at hx;cases hx
 | some b=>
  rw[hb] at hx
  cases hx
  refine ⟨.int .u8 b.toNat,?_,?_⟩
  ·rw[hc,nD,Nat.add_zero]
   simp only[Lib.strCells,eM,hb,Option.map_some]
  ·simp only[bS,n7,cond_false]
   exact .int he
theorem abD (w:World) (t u ty e:TypeId) (i:TypeInfo) (z:Value) (ht:P.underlying t=some (.slice e)) (hu:P.underlying u=some .string) (hi:P.info? e=some i) (hz:i.zero=some z)
  (s:ByteArray) (h0:0<s.size) (FZ:(s.size:Int)≤9223372036854775807) (F0:s.size*i.bytes≤281474976710656) (a0:Option Addr):
  (Builtin.append_ #[t,u] ty #[.slice a0 0 0,.string s]).run P w=
   .ok (.slice (some ⟨w.heap.size,0,none⟩) s.size (grownCap w s.size 0 e))
    (w.drew.alloc (.cells (s.data.map (fun b=>Value.int .u8 b.toNat)++Builtin.zeroCells z.cells (grownCap w s.size 0 e-s.size)) e)):=by
 cases a0 with
 | none=>exact run_append_nil_string w t u ty e i z ht hu hi hz s h0 FZ F0
 | some b=>
  rw[←run_append_nil_string w t u ty e i z ht hu hi hz s h0 FZ F0]
  have hn:s.size≠0:=by omega
  have abE: ¬(9223372036854775807<(s.size:Int)):=by omega
  have abF: ¬(281474976710656<Builtin.nextslicecap s.size 0*i.bytes):=by rw[nextslicecap_zero h0];omega
  simp[Builtin.append_,run_underlying ht,run_underlying hu,sizeOf,typeInfo,zeroValue,hi,hz,Builtin.lenOf,Builtin.firstCells,hn,abE,abF,Question.forced,newRow,grownCap,loadCells,loadCellsFrom]
theorem RB (S:aP P w I β hp B M w0) {t u ty e:TypeId} {nb:Nat} {x:ByteArray} {xs:List V} {i:TypeInfo} {z:Value} (hu:P.underlying t=some (.slice e)) (o5:P.underlying u=some .string) (aE:cP P e=true) (hn:hp nb=none)
 (hi:P.info? e=some i) (hz:i.zero=some z) (h3:i.size=P.cellsOf e) (h4:z.cells.size=P.cellsOf e) (xJ:i.size=1) (mQ:P.bytesOf e=i.bytes) (eP:xs.length*P.bytesOf e≤ct) (kO:xs.length=x.size) (mO:(Lib.strCells x).length=x.size)
 (cR: ∀(i j:Nat) (y:V) (t':TypeId),xs[i]? =some y→(a9 P e)[j]? =some t'→j<P.cellsOf e→∃u,(Lib.strCells x)[i*P.cellsOf e+j]? =some u∧Pure P w I t' u (bS P e y j)):
 ∀a0,∃v w' au,(Builtin.append_ #[t,u] ty #[.slice a0 0 0,.string x]).run P w= .ok v w'∧Le P w I β hp w' I au (aR hp nb (some (.arr e xs false)))∧aP P w' I au (aR hp nb (some (.arr e xs false))) B M w0∧
  an P w' I au (aR hp nb (some (.arr e xs false))) v (.whole e nb):=by
 intro a0
 have vj:=xk aE
 have hlen:xs.length≤2^45:=by
  have:xs.length*1≤xs.length*P.bytesOf e:=uA _ vj
  simp only[ct] at eP
  omega
 by_cases h0:x.size=0
 ·have gS:xs=[]:=nA (by omega)
  subst gS
  obtain ⟨a1,a2⟩:=FA S e hn
  have hf:=Lib.run_firstCells_string (P:=P) w 1 x
  rw[h0] at hf
  have rz:Lib.strCells x=[]:=nA (by omega)
  exact ⟨.slice a0 0 0,_,_,by cases a0<;>simp[storeCells,rz,Builtin.append_,run_underlying hu,run_underlying o5,sizeOf,typeInfo,hi,xJ,Builtin.lenOf,h0,hf],a1,a2,.dY (cZ _ _ _) (cZ _ _ _)⟩
 ·have c7:=abD (P:=P) w t u ty e i z hu o5 hi hz x (by omega) (by omega) (by rw[←mQ,←kO];simp only[ct] at eP;omega) a0
  have e1:(x.data.map fun b=>Value.int .u8 b.toNat)=(Lib.strCells x).toArray:=by
   apply Array.ext'
   simp[Lib.strCells]
  rw[e1,←kO] at c7
  have p9:=grownCap_ge w xs.length 0 e
  have vk:grownCap w xs.length 0 e≤maxLen:=grownCap_le_maxLen w xs.length 0 e (by simp only[maxLen];omega)
  obtain ⟨n1,n2,n3⟩:=xF S.drew (nb:=nb) (cap:=grownCap w xs.length 0 e) (es:=xs) (C0:=(Lib.strCells x).toArray++Builtin.zeroCells z.cells (grownCap w xs.length 0 e-xs.length)) aE hn
   (by
    have:(Lib.strCells x).length=xs.length*P.cellsOf e:=by rw[mO,kO,←h3,xJ,nD]
    simp only[EX,qR,size_zeroCells,h4,this,←ee];congr 1;omega) p9 vk
   (fun i' j y t' hy ht hj=>by
    obtain ⟨u,gr,hp⟩:=cR i' j y t' hy ht hj
    have aY:=(bA.1 gr).1
    refine ⟨u,?_,Pure.drew hp⟩
    rw[Array.getElem?_append_left (by simpa using aY)]
    simpa using gr)
  exact ⟨_,_,_,c7,(Le.drew w I β hp).trans n1,n2,n3⟩
theorem abG (S:aP P w I β hp B M w0) {t u ty e:TypeId} {nb:Nat} {s:Value} {sv:V} {x:ByteArray} {r:R} {rd:List Nat} (hu:P.underlying t=some (.slice e)) (o5:P.underlying u=some .string) (he:P.underlying e=some (.int .u8)) (hs:an P w I β hp s sv)
  (h:(w8 P nb e sv (.list e (x.data.toList.map Ap))).run C hp=some (r,rd)):c9 P ((Builtin.append_ #[t,u] ty #[s,.string x]).run P w) w I β hp B M w0 r:=by
 unfold w8 at h
 obtain ⟨aE,h⟩:=aQ h
 simp only[tm] at h
 obtain ⟨_,h⟩:=aQ h
 have n7:bP P e=false:=by simp[bP,he]
 have eb:P.cellsOf e=1:=by rw[←(kK aE).1,AE n7];rfl
 obtain ⟨i,z,hi,hz,h3,h4,_⟩:=kM aE
 have xJ:i.size=1:=by rw[h3,eb]
 have vj:=xk aE
 have mQ:P.bytesOf e=i.bytes:=by simp[Program.bytesOf,hi]
 have Gb:=abC (P:=P) (w:=w) (I:=I) he eb x
 have kO:(x.data.toList.map Ap).length=x.size:=by simp
 have mO:(Lib.strCells x).length=x.size:=Lib.strCells_length x
 have h1:=Lib.strCells_oneCell x
 generalize gS:x.data.toList.map Ap=xs at*
 cases sv with
 | nilS e'=>
  obtain ⟨hc,h⟩:=aQ h
  simp only[aS,aX,eL] at hc
  obtain ⟨hn,rfl⟩:=nY h
  obtain ⟨a0,rfl⟩: ∃a0,s= .slice a0 0 0:=by cases hs;exact ⟨_,rfl⟩
  obtain ⟨v,w',au,a1,a2,a3,a4⟩:=RB S hu o5 aE hn hi hz h3 h4 xJ mQ hc.2 kO mO Gb _
  exact ⟨v,w',I,au,a1,a2,a3,a4⟩
 | whole e' id=>
  obtain ⟨l,h⟩:=run_get h
  cases aa:hp id with
  | none=>rw[aa] at h;cases h
  | some blk=>
   rw[aa] at h
   cases blk with
   | dead=>cases h
   | var _=>cases h
   | nest _ _ _=>cases h
   | map _ _=>cases h
   | arr dW es fz=>
    cases fz with
    | true=>cases h
    | false=>
     obtain ⟨hc,h⟩:=aQ h
     obtain ⟨hn,rfl⟩:=nY h
     simp only[aS,aX,eL] at hc
     obtain ⟨KB,KC,eP⟩:=hc
     subst KB
     subst KC
     have bY:nb≠id:=fun e=>by rw[e,aa] at hn;cases hn
     obtain ⟨k1,k2⟩:=FB S aa
     have kN:aR hp id (some ak.dead) nb=none:=by rw[eC _ _ bY];exact hn
     cases hs with
     | ez hd=>rw[aa] at hd;cases hd
     | eH hd=>rw[aa] at hd;cases hd
     | dY hd hb=>
      rw[aa] at hd
      cases hd
      simp only[List.length_nil,dV] at eP
      obtain ⟨v,w',au,a1,a2,a3,a4⟩:=RB k2 hu o5 aE kN hi hz h3 h4 xJ mQ eP kO mO Gb _
      exact ⟨v,w',I,au,a1,k1.trans a2,a3,a4⟩
     | @whole _ _ aT nK b cap hd hb ba cp hm=>
      rw[aa] at hd
      cases hd
      have hr:=S.h.rel id _ aa
      cases hr with
      | dZ aH=>rw[aH] at hb;cases hb
      | @arr _ _ _ b' Ca _ aH hh qb hf eB mR=>
       rw[hb] at aH
       cases aH
       have hlen:es.length+xs.length≤2^45:=by
        have:(es.length+xs.length)*1≤(es.length+xs.length)*P.bytesOf e:=uA _ vj
        simp only[ct] at eP
        omega
       rw[nO hh] at ba
       have rp: ∀aL blk',aR hp id (some ak.dead) aL=some blk'→¬bG P w (β aL) blk' b:=by
        intro aL blk' h1 h2
        by_cases jd:aL=id
        ·subst jd;rw[cZ] at h1;cases h1;exact h2.alive rfl
        ·rw[eC _ _ jd] at h1
         exact jd (S.h.inj aL id blk' _ b h1 aa h2 (.root (by simp) hb))
       have KD:=S.h.tw id _ b aa (by simp) hb
       have jZ:es.length*P.cellsOf e≤Ca.toList.length:=by simpa using qb
       have RC:(Lib.strCells x).length=xs.length*P.cellsOf e:=by rw[mO,kO,eb,nD]
       by_cases tG:es.length+xs.length≤cap
       ·have AZ:es.length*P.cellsOf e+(Lib.strCells x).length≤Ca.size:=by rw[RC,←ee,←ba];exact dJ _ tG
        have c7:=Lib.run_append_room_string (P:=P) w t u ty e i hu o5 hi xJ b es.length cap Ca hh x (by rw[←kO];exact tG) (by rw[←mO];rw[eb,nD] at AZ;exact AZ)
        have cR:=FX (P:=P) (w:=w) (I:=I) (n:=es.length) (c:=Ca.toList) rfl (fun i j y t' a b c=>by
         obtain ⟨v,hv,hp⟩:=mR i j y t' a b c
         exact ⟨v,by simpa using hv,hp⟩) Gb jZ (Ca.toList.drop (es.length*P.cellsOf e+(Lib.strCells x).length))
        generalize xB:(Ca.toList.take es.length++Lib.strCells x++Ca.toList.drop (es.length+x.size)).toArray=C' at c7
        have o0:C'.size=Ca.size:=by
         rw[eb,nD] at AZ
         rw[←xB];simp;omega
        have RD:(w.setRow b C').heap[b]? =some (.cells C' e (0,0)):=setRow_heap w b Ca C' e _ hh
        obtain ⟨a1,a2⟩:=AI k2 (blk:= .arr e (es++xs) false) (w':=w.setRow b C') kN rp (eB rfl) (fun b' h _=>setRow_other w b b' _ h) (by simp) ⟨rfl,rfl⟩ KD
         (fun b' h=>(cX (h.flat (by simp))).symm) (fun hle=> .arr aE rfl RD (by rw[o0,←ba];exact dJ _ (by simpa using tG)) (fun h=>by cases h) (fun _=>eB rfl) fun i j y t' a b c=>by
          obtain ⟨v,hv,hp⟩:=cR i j y t' a b c
          refine ⟨v,?_,hp.mono hle.dw hle.cu⟩
          rw[←xB,nC]
          rw[eb] at hv⊢
          simpa[mO] using hv)
        refine ⟨_,_,_,_,c7,k1.trans a1,a2,?_⟩
        have a3:=an.whole (P:=P) (w:=w.setRow b C') (I:=I) (β:=aR β nb (some b)) (hp:=aR (aR hp id (some .dead)) nb (some (.arr e (es++xs) false))) (cap:=cap) (b:=b) (es:=es++xs) (fz:=false) (id:=nb) (e:=e) (cZ _ _ _) (cZ _ _ _) (by rw[nO RD,o0,ba]) (by simpa using tG) hm
        rw[dD,kO] at a3
        exact a3
       ·have hold: ∀(j:Nat) v,(Ca.toList.take (es.length*P.cellsOf e))[j]? =some v→w.cell? ((⟨b,0,none⟩:Addr).add j)=some v:=by
         intro j v hj
         have c6:=(bA.1 hj).1
         have cv:j<es.length*P.cellsOf e:=by rw[iT] at c6;omega
         rw[fv cv] at hj
         rw[nT,cell?_cells hh,dV]
         simpa using hj
        have c7:=Lib.run_append_grow_string (P:=P) w t u ty e i z hu o5 hi hz ⟨b,0,none⟩ es.length cap (Ca.toList.take (es.length*P.cellsOf e)) (by rw[h3];simp;omega) hold x (by omega) (by omega)
         (growslice_fits (by omega) (by rw[←mQ,←kO];simp only[ct] at eP;omega))
        rw[←kO] at c7
        have p9:=grownCap_ge w (es.length+xs.length) cap e
        have vk:grownCap w (es.length+xs.length) cap e≤maxLen:=grownCap_le_maxLen w _ cap e (by simp only[maxLen];omega)
        have cR:=FX (P:=P) (w:=w) (I:=I) (n:=es.length) (c:=Ca.toList) rfl (fun i j y t' a b c=>by
         obtain ⟨v,hv,hp⟩:=mR i j y t' a b c
         exact ⟨v,by simpa using hv,hp⟩) Gb jZ (Builtin.zeroCells z.cells (grownCap w (es.length+xs.length) cap e-(es.length+xs.length))).toList
        obtain ⟨n1,n2,n3⟩:=xF k2.drew (nb:=nb) (cap:=grownCap w (es.length+xs.length) cap e) (es:=es++xs)
         (C0:=(Ca.toList.take (es.length*P.cellsOf e)).toArray++(Lib.strCells x).toArray++Builtin.zeroCells z.cells (grownCap w (es.length+xs.length) cap e-(es.length+xs.length))) aE kN
         (by
          have e1:(Ca.toList.take (es.length*P.cellsOf e)).length=es.length*P.cellsOf e:=by simp;omega
          simp only[EX,qR,size_zeroCells,h4,RC,e1,←ee];congr 1;omega) (by simpa using p9) vk
         (fun i j y t' a b c=>by
          obtain ⟨v,hv,hp⟩:=cR i j y t' a b c
          refine ⟨v,?_,Pure.drew hp⟩
          rw[←s6]
          simpa using hv)
        rw[dD] at n3
        exact ⟨_,_,_,_,c7,(k1.trans (Le.drew w I β _)).trans n1,n2,n3⟩
 | _=>cases h
end
section
variable {P:Program} {w w':World} {I I':Nat→Prop} {β au:Nat→Option Nat} {hp hp':Nat→Option ak} {C:ae} {B:Nat} {M:Nat→Prop} {w0:Start}
theorem RE: ∀(ns:List Int) (s:ByteArray),(ns.foldl (fun r n=>r.push (UInt8.ofNat n.toNat)) s).data.toList=s.data.toList++ns.map fun n=>UInt8.ofNat n.toNat
 | [],s=>by simp
 | n::ns,s=>by
  simp only[List.foldl_cons,RE ns,jw]
  simp[ByteArray.push]
theorem RF {e:TypeId} {u:Value} {x:V} (he:P.underlying e=some (.int .u8)) (hp:Pure P w I e u x):u= .int .u8 x.toInt:=by
 cases hp with
 | int hp'=>rw[he] at hp';cases hp';rfl
 | bool hp'=>rw[he] at hp';cases hp'
 | str hp'=>rw[he] at hp';cases hp'
 | nil hp'=>rw[he] at hp';cases hp'
 | emp hp'=>rw[he] at hp';cases hp'
 | list _ hp'=>rw[he] at hp';cases hp'
theorem abH (S:aP P w I β hp B M w0) {src dst e:TypeId} {v:Value} {x:V} {r:R} {rd:List Nat} (hs:P.underlying src=some (.slice e)) (he:P.underlying e=some (.int .u8)) (hd:P.underlying dst=some .string)
  (hv:an P w I β hp v x) (h:(Rd.aK (cP P e) (tm e x fun es=> .ret ⟨.str (nJ es),[]⟩)).run C hp=some (r,rd)):c9 P ((convert src dst v).run P w) w I β hp B M w0 r:=by
 obtain ⟨aE,h⟩:=aQ h
 obtain ⟨xs,hx,l,h⟩:=FW S.h.rel aE hv h
 obtain rfl:=aU h
 have n7:bP P e=false:=by simp[bP,he]
 have h1:P.cellsOf e=1:=by rw[←(kK aE).1,AE n7];rfl
 rcases hx with ⟨⟨a,rfl⟩,rfl⟩|⟨a,c,news,hr⟩
 ·refine .same S (v:= .string .empty) ?_ (.str (by simp[nJ]))
  rw[run_convert_bytes_string w src dst e a 0 0 hs he hd]
  cases a<;>simp[Conv.bytesToString,loadCells,loadCellsFrom]
 ·have FY:news=(xs.map V.toInt).map (Value.int .u8):=by
   apply zY
   intro j
   by_cases hj:j<xs.length
   ·obtain ⟨u,hu,hp⟩:=hr.el j 0 xs[j] e (bI hj) (by simp[a9,n7]) (by omega)
    rw[h1] at hu
    simp only[bS,n7,cond_false] at hp
    have gr:news[j]? =some u:=by simpa using hu
    rw[gr]
    have:=RF he hp
    simp[hj,←this]
   ·have hl:news.length=xs.length:=by rw[hr.len,h1];simp
    rw[qQ (by omega),qQ (by simp;omega)]
  have KS:=run_loadCells_list (P:=P) w a news hr.cell
  have hl:news.length=xs.length:=by rw[hr.len,h1];simp
  rw[hl] at KS
  rw[FY] at KS
  refine .same S (v:= .string ((xs.map V.toInt).foldl (fun r n=>r.push (UInt8.ofNat n.toNat)) ByteArray.empty)) ?_ (.str ?_)
  ·rw[hr.val,run_convert_bytes_string w src dst e _ _ _ hs he hd]
   exact run_bytesToString w a xs.length c (xs.map V.toInt) KS
  ·rw[RE]
   simp[nJ]
theorem an.Gc {v:Value} (h:an P w I β hp v .dF):v= .pointer none:=by cases h;rfl
section
variable (w:World)
theorem abI (t e:TypeId) (a:Addr) (h:P.underlying t=some (.pointer e)):(binOp .eql t (.pointer (some a)) (.pointer none)).run P w= .ok (.bool false) w:=by
 have h0: ∀d:Nat,(Op.equalIn (d+1) t (.pointer (some a)) (.pointer none)).run P w= .ok false w:=fun d=>by simp[Op.equalIn,run_underlying h]
 simp only[binOp]
 simp[Op.equal,Op.maxDepth,h0 9999]
theorem abJ (t e:TypeId) (a:Addr) (h:P.underlying t=some (.pointer e)):(binOp .neq t (.pointer (some a)) (.pointer none)).run P w= .ok (.bool (!false)) w:=by
 have h0: ∀d:Nat,(Op.equalIn (d+1) t (.pointer (some a)) (.pointer none)).run P w= .ok false w:=fun d=>by simp[Op.equalIn,run_underlying h]
 simp only[binOp]
 simp[Op.equal,Op.maxDepth,h0 9999]
theorem abK (t e:TypeId) (a:Addr) (h:P.underlying t=some (.pointer e)):(binOp .eql t (.pointer none) (.pointer (some a))).run P w= .ok (.bool false) w:=by
 have h0: ∀d:Nat,(Op.equalIn (d+1) t (.pointer none) (.pointer (some a))).run P w= .ok false w:=fun d=>by simp[Op.equalIn,run_underlying h]
 simp only[binOp]
 simp[Op.equal,Op.maxDepth,h0 9999]
theorem abL (t e:TypeId) (a:Addr) (h:P.underlying t=some (.pointer e)):(binOp .neq t (.pointer none) (.pointer (some a))).run P w= .ok (.bool (!false)) w:=by
 have h0: ∀d:Nat,(Op.equalIn (d+1) t (.pointer none) (.pointer (some a))).run P w= .ok false w:=fun d=>by simp[Op.equalIn,run_underlying h]
 simp only[binOp]
 simp[Op.equal,Op.maxDepth,h0 9999]
theorem abM (t e:TypeId) (h:P.underlying t=some (.pointer e)):(binOp .eql t (.pointer none) (.pointer none)).run P w= .ok (.bool true) w:=by
 have h0: ∀d:Nat,(Op.equalIn (d+1) t (.pointer none) (.pointer none)).run P w= .ok true w:=fun d=>by simp[Op.equalIn,run_underlying h]
 simp only[binOp]
 simp[Op.equal,Op.maxDepth,h0 9999]
theorem abN (t e:TypeId) (h:P.underlying t=some (.pointer e)):(binOp .neq t (.pointer none) (.pointer none)).run P w= .ok (.bool (!true)) w:=by
 have h0: ∀d:Nat,(Op.equalIn (d+1) t (.pointer none) (.pointer none)).run P w= .ok true w:=fun d=>by simp[Op.equalIn,run_underlying h]
 simp only[binOp]
 simp[Op.equal,Op.maxDepth,h0 9999]
end
theorem Gd (S:aP P w I β hp B M w0) {op:BinOp} {t:TypeId} {b:Bool} {x y:Operand} {v1 v2:Value} {r:R} {rd:List Nat} (h:(ptrEq P op t b).run C hp=some (r,rd)) (hg:(eqGuard op t x y v1 v2).run P w= .ok () w)
  (he: ∀e j,P.underlying t=some (.pointer e)→P.info? e=some j→(binOp .eql t v1 v2).run P w= .ok (.bool b) w∧(binOp .neq t v1 v2).run P w= .ok (.bool (!b)) w):
  c9 P ((do eqGuard op t x y v1 v2;binOp op t v1 v2:Sem Value).run P w) w I β hp B M w0 r:=by
 unfold ptrEq at h
 cases hu:P.underlying t with
 | none=>rw[hu] at h;cases h
 | some d=>
  rw[hu] at h
  cases d<;>simp only at h<;>first|(cases h;done)|skip
  rename_i e
  obtain ⟨h1,h2⟩:=aQ h
  obtain ⟨j,hj⟩:=Option.isSome_iff_exists.1 h1
  obtain ⟨k1,k2⟩:=he e j hu hj
  cases op<;>simp only at h2<;>first|(cases h2;done)|skip
  ·obtain rfl:=aU h2
   exact .same S (by simp only[Sem.run_bind,hg,Result.andThen_ok,k1]) .bool
  ·obtain rfl:=aU h2
   exact .same S (by simp only[Sem.run_bind,hg,Result.andThen_ok,k2]) .bool
theorem abO {b n:Nat}:(∀b',b'≠b→(w.freeze ⟨b,0,none⟩ n).heap[b']? =w.heap[b']?)∧bsize (w.freeze ⟨b,0,none⟩ n) b=bsize w b∧w.heap.size≤(w.freeze ⟨b,0,none⟩ n).heap.size∧(w.freeze ⟨b,0,none⟩ n).os=w.os∧(w.freeze ⟨b,0,none⟩ n).output=w.output:=by
 unfold World.freeze
 split
 ·exact ⟨fun _ _=>rfl,rfl,aI _,rfl,rfl⟩
 ·refine ⟨fun b' hb=> ?_,?_,by simp,rfl,rfl⟩
  ·simp only[zX]
   rw[ah (fun e=>hb e.symm)]
  ·simp only[bsize,zX,iR]
   cases w.heap[b]? with
   | none=>rfl
   | some o=>cases o<;>rfl
theorem abP {e:TypeId} (hb:isByte P e=true):P.underlying e=some (.int .u8):=by
 unfold isByte at hb
 split at hb
 ·assumption
 ·cases hb
theorem abQ (S:aP P w I β hp B M w0) {ts:Array TypeId} {ty e:TypeId} {v:Value} {id:Nat} {es:List V} {fz:Bool} (hv:an P w I β hp v (.whole e id)) (aa:hp id=some (.arr e es fz)) (h0:0<es.length):
  c9 P ((Builtin.unsafeSliceData_ ts ty #[v]).run P w) w I β hp B M w0 ⟨.ptr id 0 0,[]⟩:=by
 cases hv with
 | ez h=>rw[aa] at h;cases h
 | dY h _=>rw[aa] at h;cases h;simp at h0
 | eH h _ _ _ _=>rw[aa] at h;cases h
 | @whole _ _ aT nK b cap h hb cp hle hm=>
  rw[aa] at h;cases h
  refine .same S (Lib.run_unsafeSliceData_row w ts ty ⟨b,0,none⟩ es.length cap (by omega)) ?_
  have:=an.ptr (P:=P) (w:=w) (I:=I) (β:=β) (i:=0) (c:=0) aa (by simp) hb
  simpa using this
theorem abR (S:aP P w I β hp B M w0) {t u ty e:TypeId} {vx:Value} {id:Nat} {n:Int} {es:List V} (hu:P.underlying t=some (.pointer e)) (hb:isByte P e=true) (hv:an P w I β hp vx (.ptr id 0 0))
  (aa:hp id=some (.arr e es false)) (h0:0<n) (hn:n≤es.length) (hm:n.toNat≤aB) (fw:(es.take n.toNat).all JR=true):c9 P ((Builtin.unsafeString_ #[t,u] ty #[vx,.int .i64 n]).run P w) w I β hp B M w0 ⟨.str (nJ (es.take n.toNat)),[(id,.dead)]⟩:=by
 obtain ⟨b,KT,rfl⟩:=hv.ic aa (by simp)
 have he:P.underlying e=some (.int .u8):=by
  unfold isByte at hb
  split at hb
  ·assumption
  ·cases hb
 have n7:bP P e=false:=by simp[bP,he]
 have hr:=S.h.rel id _ aa
 rw[KT] at hr
 cases hr with
 | dZ aH=>cases aH
 | @arr _ _ _ b1 Ca aE jZ hh hs hI cO cR=>
  cases jZ
  have h1:P.cellsOf e=1:=by rw[←(kK aE).1,AE n7];rfl
  have aY:=S.aas aa (by simp) KT
  have hl:(nJ (es.take n.toNat)).length=n.toNat:=by simp[nJ];omega
  have KQ:n=((nJ (es.take n.toNat)).length:Nat):=by rw[hl];omega
  have c7:=Lib.run_unsafeString_row (P:=P) w t u ty e hu h1 b Ca.size (by simp[World.shape?,hh]) (nJ (es.take n.toNat)) (fun h=>by rw[h] at hl;simp at hl;omega) (by rw[hl];rw[h1] at hs;omega) (by rw[hl];unfold aB at hm;omega) (fun j x hx=>by
   have hj:j<n.toNat:=by
    have:=(bA.1 hx).1
    rw[hl] at this;exact this
   have iG:j<es.length:=by omega
   simp only[nJ,eM,fv hj,bI iG,Option.map_some,dO] at hx
   obtain ⟨v,xG,bB⟩:=cR j 0 es[j] e (bI iG) (by simp[a9,n7]) (by omega)
   rw[h1] at xG
   simp only[bS,n7,cond_false] at bB
   have:=RF he bB
   have hr:=fO.1 fw es[j] (jv (by rw[fv hj];exact bI iG))
   simp only[JR,aS,dv] at hr
   have nX:(x.toNat:Int)=es[j].toInt:=by
    rw[←hx]
    have:es[j].toInt.toNat<256:=by omega
    simp only[UInt8.toNat_ofNat']
    omega
   rw[nT,cell?_cells hh,nX]
   rw[show 0+j=j*1+0 by omega,xG,this])
  obtain ⟨f1,f2,f3,f4,f5⟩:=abO (w:=w) (b:=b) (n:=n.toNat)
  obtain ⟨k1,k2⟩:=FC (w':=w.freeze ⟨b,0,none⟩ n.toNat) S aa (by simp) (blk':= .dead) (by trivial) KT (cO rfl) (by simp) f1 f2 f3 ⟨f4,f5⟩ (fun _=> .dead)
  rw[←KQ,hl] at c7
  refine ⟨.string ⟨(nJ (es.take n.toNat)).toArray⟩,_,I,β,?_,k1,k2,.str ?_⟩
  ·simpa using c7
  ·rfl
def KU:Op→Bool
 | .call {callee:= .value (.func _),..}=>true
 | .call {callee:= .value (.tmp _),..}=>true
 | .defer _=>true
 | _=>false
theorem pY.val {o:Oper} {a:Act} {s:Sem Value} {r:R} (he:execOp a.eval o=(do Pure.pure (Next.value (←s)))) (h:c9 P (s.run P w) w I β hp B M w0 r):pY P ((execOp a.eval o).run P w) w I β hp B M w0 r:=by
 rw[he];exact h.op
theorem abS {A:cJ} (S:aP P w I β hp B M w0) (hg:hY P A.aM w I) {a:Act} {sl:Nat→V} (hs:lg P w I β hp a sl) {ix nb:Nat} {o:Oper} (KV:KU o.op=false) {r:R} {rd:List Nat}
  (h:(fS P A sl ix nb o).run C hp=some (r,rd)):pY P ((execOp a.eval o).run P w) w I β hp B M w0 r:=by
 obtain ⟨dst,op,ty,pos,after,guard⟩:=o
 cases op<;>simp only[fS] at h<;>first|(cases h;done)|skip
 case move x=>
  obtain rfl:=aU h
  exact ⟨_,w,I,β,.inl (by simp[execOp]),Le.refl w I β hp,S,hs.ev hg ty x⟩
 case assign x=>
  obtain rfl:=aU h
  exact ⟨_,w,I,β,.inl (by simp[execOp]),Le.refl w I β hp,S,hs.ev hg ty x⟩
 case pick c x y=>
  have hc:=hs.ev hg ty c
  cases vg:aV P A.aM ty sl c<;>rw[vg] at h hc<;>simp only at h<;>first|(cases h;done)|skip
  rename_i t
  have abT:=hc.jX
  have hx:=hs.ev hg ty x
  have hy:=hs.ev hg ty y
  have fin: ∀z:V,an P w I β hp (if t then a.eval x else a.eval y) z→pY P ((execOp a.eval ⟨dst,.pick c x y,ty,pos,after,guard⟩).run P w) w I β hp B M w0 ⟨z,[]⟩:=by
   intro z hz
   exact ⟨_,w,I,β,.inl (by simp[execOp,abT,asBool]),Le.refl w I β hp,S,hz⟩
  cases Ge:gone (aV P A.aM ty sl x) with
  | true=>
   rw[Ge] at h
   obtain ⟨h1,h⟩:=aQ h
   obtain rfl:=aU h
   have:t=false:=by simpa using h1
   subst this
   refine fin _ ?_
   simpa using hy
  | false=>
   rw[Ge] at h
   simp only[cond_false] at h
   cases RG:gone (aV P A.aM ty sl y) with
   | true=>
    rw[RG] at h
    obtain ⟨h1,h⟩:=aQ h
    obtain rfl:=aU h
    subst h1
    refine fin _ ?_
    simpa using hx
   | false=>
    rw[RG] at h
    obtain rfl:=aU h
    exact fin _ (Qy hx hy)
 case makeFunc fn x y=>
  cases fn<;>simp only[fS] at h<;>first|(cases h;done)|skip
  rename_i f
  obtain rfl:=aU h
  refine ⟨.func (.func f) (x.map a.eval) (y.map a.eval),w,I,β,.inl (by simp[execOp,Instr.makeFunc]),Le.refl w I β hp,S,.fn (by simp) (fun j v z hj hz=> ?_) (by simp) (fun j v z hj hz=> ?_)⟩
  ·rw[Array.getElem?_map] at hj
   rw[eM,s6] at hz
   cases hx:x[j]? with
   | none=>rw[hx] at hj;cases hj
   | some o1=>
    rw[hx] at hj hz
    cases hj
    cases hz
    exact hs.ev hg ty o1
  ·rw[Array.getElem?_map] at hj
   rw[eM,s6] at hz
   cases hx:y[j]? with
   | none=>rw[hx] at hj;cases hj
   | some o1=>
    rw[hx] at hj hz
    cases hj
    cases hz
    exact hs.ev hg ty o1
 case defer c=>cases KV
 case makeMap t res=>
  cases res with
  | some x=>cases h
  | none=>exact .val rfl (abx S h)
 case lookup t m k ok=>
  cases ht:lP P t with
  | none=>rw[ht] at h;cases h
  | some q=>
   obtain ⟨kt,vt⟩:=q
   rw[ht] at h
   exact .val (s:=Instr.lookup t (a.eval m) (a.eval k) ok) rfl (abw S ht (hs.ev hg t m) (hs.ev hg kt k) h)
 case mapUpdate t m k x=>
  cases ht:lP P t with
  | none=>rw[ht] at h;cases h
  | some q=>
   obtain ⟨kt,vt⟩:=q
   rw[ht] at h
   have:=Rx S ht (hs.ev hg t m) (hs.ev hg kt k) (hs.ev hg vt x) h
   exact this.op
 case insert t m k x=>
  cases ht:lP P t with
  | none=>rw[ht] at h;cases h
  | some q=>
   obtain ⟨kt,vt⟩:=q
   rw[ht] at h
   have:=Rx S ht (hs.ev hg t m) (hs.ev hg kt k) (hs.ev hg vt x) h
   exact this.op
 case alloc e=>
  exact .val rfl (aaX S h)
 case box e x=>
  exact .val rfl (aaY S (hs.ev hg e x) h)
 case build t ps=>exact .val rfl (aa0 S hs hg h)
 case buildSlice t len ps=>
  cases hu:P.underlying t with
  | none=>rw[hu] at h;cases h
  | some d=>
   rw[hu] at h
   cases d<;>simp only at h<;>first|(cases h;done)|skip
   exact .val rfl (aa6 S hs hg hu h)
 case load t x=>exact .val rfl (aaG S (hs.ev hg ty x) h)
 case store t x y=>
  have:=aaW S (hs.ev hg ty x) (hs.ev hg t y) h
  exact this.op
 case nilCheck x=>
  have hx:=hs.ev hg ty x
  cases fG:aV P A.aM ty sl x<;>rw[fG] at h hx<;>simp only at h<;>first|(cases h;done)|skip
  ·obtain ⟨⟨blk,aa,hd⟩,l,h⟩:=xo h
   obtain rfl:=aU h
   have cD:=hx
   obtain ⟨b,hb,he⟩:=hx.ic aa hd
   rw[he] at cD
   exact ⟨_,w,I,β,.inl (by simp only[execOp,he];rfl),Le.refl w I β hp,S,cD⟩
  ·obtain rfl:=aU h
   have cD:=hx
   obtain ⟨b,o,he,_⟩:=hx.FF
   rw[he] at cD
   exact ⟨_,w,I,β,.inl (by simp only[execOp,he];rfl),Le.refl w I β hp,S,cD⟩
  ·obtain ⟨e0,es,aq,l,aa,h1,h2,h3,h⟩:=oU h
   obtain rfl:=aU h
   have cD:=hx
   obtain ⟨b,o,he,_⟩:=hx.Qw aa h1 h2 h3
   rw[he] at cD
   exact ⟨_,w,I,β,.inl (by simp only[execOp,he];rfl),Le.refl w I β hp,S,cD⟩
 case binOp op t x y yt=>
  have hx:=hs.ev hg t x
  have hy:=hs.ev hg t y
  refine .val (s:=do eqGuard op t x y (a.eval x) (a.eval y);binOp op t (a.eval x) (a.eval y)) rfl ?_
  cases fG:aV P A.aM t sl x<;>cases tI:aV P A.aM t sl y<;>rw[fG,tI] at h<;>rw[fG] at hx<;>rw[tI] at hy<;>first|(simp only[kD] at h;cases h;done)|skip
  ·rw[hx.eI,hy.eI]
   have:=aax S h
   simpa[aau] using this
  ·rw[hx.jX,hy.jX]
   have:=aaz S h
   simpa[aav] using this
  ·obtain ⟨s1,e1,l1⟩:=hx.mM
   obtain ⟨s2,e2,l2⟩:=hy.mM
   rw[e1,e2]
   rw[←l1,←l2] at h
   have:=aaA (t:=t) S h
   simpa[aaw] using this
  ·obtain ⟨cs,e1,h1,h2⟩:=hx.lj
   obtain ⟨ds,e2,h3,h4⟩:=hy.lj
   rw[e1,e2]
   exact aaB S h1 h3 h2 h4 h
  ·
   simp only[kD] at h
   obtain ⟨h1,h2⟩:=aQ h
   clear h
   simp only[aS,aX] at h1
   obtain ⟨rfl,rfl,rfl⟩:=h1
   obtain ⟨⟨blk,aa,hd⟩,l,h⟩:=xo h2
   obtain ⟨b,hb,e1⟩:=hx.ic aa hd
   obtain ⟨b',aH,e2⟩:=hy.ic aa hd
   rw[hb] at aH;cases aH
   rw[e1,e2]
   exact Gd S h (by cases op<;>simp[eqGuard]) fun e j he hj=>⟨run_eql_ptr_same w _ he hj,Lib.run_neq_ptr_same w _ he hj⟩
  ·simp only[kD] at h
   obtain ⟨⟨blk,aa,hd⟩,l,h⟩:=xo h
   obtain ⟨b,_,e1⟩:=hx.ic aa hd
   rw[e1,hy.Gc]
   exact Gd S h (by cases op<;>simp[eqGuard]) fun e j he hj=>⟨abI w t e _ he,abJ w t e _ he⟩
  ·simp only[kD] at h
   obtain ⟨⟨blk,aa,hd⟩,l,h⟩:=xo h
   obtain ⟨b,_,e1⟩:=hy.ic aa hd
   rw[e1,hx.Gc]
   exact Gd S h (by cases op<;>simp[eqGuard]) fun e j he hj=>⟨abK w t e _ he,abL w t e _ he⟩
  ·simp only[kD] at h
   rw[hx.Gc,hy.Gc]
   exact Gd S h (by cases op<;>simp[eqGuard]) fun e j he hj=>⟨abM w t e he,abN w t e he⟩
  ·
   simp only[kD] at h
   obtain ⟨l,h⟩:=run_get h
   split at h
   ·rename_i t2 es aa
    obtain ⟨b,hb⟩:=hx.abB aa
    rw[hy.KR,hb]
    exact RA (a:=some b) S x y h
   ·cases h
  ·simp only[kD] at h
   rw[hx.KR,hy.KR]
   exact RA (a:=none) S x y h
 case unOp op t x=>exact .val rfl (aaC S (hs.ev hg ty x) h)
 case convert src dst x=>
  have hx:=hs.ev hg ty x
  refine .val (s:=convert src dst (a.eval x)) rfl ?_
  cases jW:P.underlying src with
  | none=>rw[jW] at h;cases h
  | some d1=>
   cases n8:P.underlying dst with
   | none=>rw[jW,n8] at h;cases d1<;>cases h
   | some d2=>
    rw[jW,n8] at h
    have gN: ∀{b:Nat} {T:TypeId} {cs:List V} {id:Nat},hp id=some (.var T cs)→β id=some b→w.shape? b=some (T,cs.length):=by
     intro b T cs id aa hb
     have hr:=S.h.rel id _ aa
     rw[hb] at hr
     cases hr with
     | var aH hh ba _ _ _=>cases aH;simp[World.shape?,hh,ba]
    cases d1<;>(try (cases d2<;>cases h;done))
    ·cases d2<;>(try (cases h;done))
     rename_i k1 k2
     cases fG:aV P A.aM ty sl x<;>rw[fG] at h hx<;>simp only at h<;>first|(cases h;done)|skip
     obtain rfl:=aU h
     rw[hx.eI]
     exact .same S (by simp[convert,run_underlying jW,run_underlying n8,Conv.intToInt]) .int
    ·cases d2<;>(try (cases h;done))
     rename_i u
     cases fG:aV P A.aM ty sl x<;>rw[fG] at h hx<;>simp only at h<;>first|(cases h;done)|skip
     rename_i id i c
     obtain ⟨l,h1⟩:=run_get h
     cases aa:hp id with
     | none=>rw[aa] at h1;cases h1
     | some blk=>
      rw[aa] at h1
      cases blk<;>simp only at h1<;>first|(cases h1;done)|skip
      rename_i T cs
      obtain ⟨h2,h3⟩:=aQ h1
      simp only[aS,aX] at h2
      obtain ⟨rfl,h4,h5⟩:=h2
      obtain ⟨b,hb,e1⟩:=hx.ic aa (by simp)
      obtain rfl:=aU h3
      obtain ⟨j,hj⟩:=Option.isSome_iff_exists.1 h4
      have cD:=hx
      rw[e1] at cD⊢
      exact .same S (Lib.run_from_unsafe w _ jW n8 hj (gN aa hb) (by simpa using h5)) cD
    ·cases d2<;>(try (cases h;done))
     rename_i t
     cases fG:aV P A.aM ty sl x<;>rw[fG] at h hx<;>simp only at h<;>first|(cases h;done)|skip
     rename_i id i c
     obtain ⟨l,h1⟩:=run_get h
     cases aa:hp id with
     | none=>rw[aa] at h1;cases h1
     | some blk=>
      rw[aa] at h1
      cases blk<;>simp only at h1<;>first|(cases h1;done)|skip
      rename_i T cs
      obtain ⟨h2,h3⟩:=aQ h1
      simp only[aS,aX,ku] at h2
      obtain ⟨rfl,h4,h5⟩:=h2
      obtain ⟨b,hb,e1⟩:=hx.ic aa (by simp)
      obtain rfl:=aU h3
      cases hj:P.info? t with
      | none=>rw[hj] at h5;cases h5
      | some j=>
       rw[hj] at h5
       simp only[nB] at h5
       have h6:j.size≠0:=fun e=>by rw[e] at h5;cases h5
       have cD:=hx
       rw[e1] at cD⊢
       exact .same S (Lib.run_to_unsafe w _ jW n8 hj h6 (gN aa hb) (by simpa using h4)) cD
    ·rename_i e
     cases d2<;>(try (cases h;done))
     simp only at h
     cases he:P.underlying e with
     | none=>rw[he] at h;cases h
     | some d3=>
      rw[he] at h
      cases d3<;>(try (cases h;done))
      rename_i k
      cases k<;>(try (cases h;done))
      exact abH S jW he n8 hx h
 case fieldAddr s x f=>exact .val rfl (aaD S (hs.ev hg ty x) h)
 case field s x f=>exact .val rfl (abi S (hs.ev hg ty x) h)
 case indexAddr t x y=>exact .val rfl (abo S (hs.ev hg ty x) (hs.ev hg 0 y) h)
 case index t x y=>
  have hx:=hs.ev hg ty x
  have hy:=hs.ev hg 0 y
  refine .val (s:=Instr.index t (a.eval x) (a.eval y)) rfl ?_
  cases hu:P.underlying t with
  | none=>rw[hu] at h;cases h
  | some d=>
   rw[hu] at h
   cases d<;>(try (cases h;done))
   cases fG:aV P A.aM ty sl x<;>rw[fG] at h hx<;>(try (cases h;done))
   cases tI:aV P A.aM 0 sl y<;>rw[tI] at h hy<;>(try (cases h;done))
   obtain ⟨s,e1,l1⟩:=hx.mM
   rw[e1,hy.eI]
   exact abk S hu l1 h
 case slice t x lo hi mx=>
  cases mx with
  | some m=>
   simp only at h
   refine .val (s:=Instr.sliceAt t (a.eval x) (lo.map a.eval) (hi.map a.eval) (some (a.eval m))) (by simp[execOp]) (abn S (hs.ev hg ty x) (fun hy=> ?_) (fun y hy=> ?_) (fun y hy=> ?_) h)
   ·cases lo with
    | none=>rfl
    | some l=>cases hy
   ·cases hi with
    | none=>cases hy
    | some l=>cases hy;exact ⟨_,rfl,hs.ev hg 0 l⟩
   ·cases hy;exact ⟨_,rfl,hs.ev hg 0 m⟩
  | none=>
   simp only at h
   have plain:(Fh P t (aV P A.aM ty sl x) (lo.map (aV P A.aM 0 sl)) (hi.map (aV P A.aM 0 sl))).run C hp=some (r,rd)→pY P ((execOp a.eval ⟨dst,.slice t x lo hi none,ty,pos,after,guard⟩).run P w) w I β hp B M w0 r:=by
    intro h
    refine .val (s:=Instr.sliceAt t (a.eval x) (lo.map a.eval) (hi.map a.eval) none) (by simp[execOp]) (abm S (hs.ev hg ty x) (fun y hy=> ?_) (fun y hy=> ?_) (fun hy=> ?_) (fun hy=> ?_) h)
    ·cases lo with
     | none=>cases hy
     | some l=>cases hy;exact ⟨_,rfl,hs.ev hg 0 l⟩
    ·cases hi with
     | none=>cases hy
     | some l=>cases hy;exact ⟨_,rfl,hs.ev hg 0 l⟩
    ·cases lo with
     | none=>rfl
     | some l=>cases hy
    ·cases hi with
     | none=>rfl
     | some l=>cases hy
   have tr:(Fi P nb t (aV P A.aM ty sl x) (lo.map (aV P A.aM 0 sl)) (hi.map (aV P A.aM 0 sl))).run C hp=some (r,rd)→pY P ((execOp a.eval ⟨dst,.slice t x lo hi none,ty,pos,after,guard⟩).run P w) w I β hp B M w0 r:=by
    intro h
    refine .val (s:=Instr.sliceAt t (a.eval x) (lo.map a.eval) (hi.map a.eval) none) (by simp[execOp]) (abq S (hs.ev hg ty x) (fun y hy=> ?_) (fun hy=> ?_) h)
    ·cases hi with
     | none=>cases hy
     | some l=>cases hy;exact ⟨_,rfl,hs.ev hg 0 l⟩
    ·cases lo with
     | none=>rfl
     | some l=>cases hy
   cases dst with
   | none=>exact plain h
   | some d=>
    simp only at h
    cases Gf:kB A.w5 d with
    | true=>rw[Gf] at h;exact tr h
    | false=>rw[Gf] at h;exact plain h
 case extract x i=>
  have hx:=hs.ev hg ty x
  cases fG:aV P A.aM ty sl x<;>rw[fG] at h hx<;>simp only at h<;>first|(cases h;done)|skip
  exact .val (s:=Instr.extract (a.eval x) i) rfl (abj S hx h)
 case makeSlice t l c=>
  have hl:=hs.ev hg 0 l
  have hc:=hs.ev hg 0 c
  refine .val (s:=Instr.makeSlice t (a.eval l) (a.eval c)) rfl ?_
  cases hu:P.underlying t with
  | none=>rw[hu] at h;cases h
  | some d=>
   rw[hu] at h
   cases d<;>(try (cases h;done))
   cases KW:aV P A.aM 0 sl l<;>rw[KW] at h hl<;>(try (cases h;done))
   cases vg:aV P A.aM 0 sl c<;>rw[vg] at h hc<;>(try (cases h;done))
   rw[hl.eI,hc.eI]
   cases dst with
   | none=>exact Q8 S hu h
   | some d=>
    simp only at h
    cases hg:kB A.w5 d with
    | true=>rw[hg] at h;exact aa8 S hu h
    | false=>rw[hg] at h;exact Q8 S hu h
 case call c=>
  obtain ⟨callee,args,argTypes⟩:=c
  cases callee with
  | invoke r m=>cases h
  | value f=>
   cases f with
   | func f=>cases KV
   | tmp f=>cases KV
   | _=>cases h
  | builtin b=>
   have one: ∀{x:Operand},args.toList=[x]→args= #[x]:=fun h=>by rw[←Array.toArray_toList (xs:=args),h]
   have rH: ∀(s:Array TypeId→TypeId→Array Value→Sem Value),builtin b argTypes ty (args.map fun| .const _=>true|_=>false) (args.map a.eval)=(do Pure.pure (Next.value (←s argTypes ty (args.map a.eval))))→
     execOp a.eval ⟨dst,.call ⟨.builtin b,args,argTypes⟩,ty,pos,after,guard⟩=(do Pure.pure (Next.value (←s argTypes ty (args.map a.eval)))):=by
    intro s hb
    simp only[execOp,resolve,pure_bind,invoke]
    exact hb
   cases b<;>(try (cases h;done))
   case append=>
    simp only at h
    cases ha:args.toList with
    | nil=>rw[ha] at h;cases h
    | cons x l=>
     cases l with
     | nil=>rw[ha] at h;cases h
     | cons y l2=>
      cases l2 with
      | cons _ _=>rw[ha] at h;cases h
      | nil=>
       cases dx:argTypes.toList with
       | nil=>rw[ha,dx] at h;cases h
       | cons t l3=>
        cases l3 with
        | nil=>rw[ha,dx] at h;cases h
        | cons u l4=>
         cases l4 with
         | cons _ _=>rw[ha,dx] at h;cases h
         | nil=>
          rw[ha,dx] at h
          simp only at h
          have e1:args= #[x,y]:=by rw[←Array.toArray_toList (xs:=args),ha]
          have e2:argTypes= #[t,u]:=by rw[←Array.toArray_toList (xs:=argTypes),dx]
          cases hu:P.underlying t with
          | none=>rw[hu] at h;cases h
          | some d=>
           rw[hu] at h
           cases d<;>(try (cases h;done))
           cases hc:Nat.beq t u with
           | true=>
            rw[hc] at h
            rw[aX] at hc
            subst hc
            have:=aba (ty:=ty) S hu (hs.ev hg t x) (hs.ev hg t y) h
            refine .val (rH Builtin.append_ rfl) ?_
            rw[e1,e2]
            simpa using this
           | false=>
            rw[hc] at h
            simp only[cond_false] at h
            have hy:=hs.ev hg u y
            cases o5:P.underlying u with
            | none=>rw[o5] at h;cases h
            | some du=>
             rw[o5] at h
             cases du<;>(try (cases h;done))
             cases tI:aV P A.aM u sl y<;>rw[tI] at h hy<;>(try (cases h;done))
             simp only at h
             obtain ⟨hb,h⟩:=aQ h
             obtain ⟨s1,q1,q2⟩:=hy.mM
             subst q2
             have:=abG (ty:=ty) S hu o5 (abP hb) (hs.ev hg t x) h
             refine .val (rH Builtin.append_ rfl) ?_
             rw[e1,e2]
             simpa[q1] using this
   case len=>
    simp only at h
    cases ha:args.toList with
    | nil=>rw[ha] at h;cases h
    | cons x l=>
     cases l with
     | cons _ _=>rw[ha] at h;cases h
     | nil=>
      cases dx:argTypes.toList with
      | nil=>rw[ha,dx] at h;cases h
      | cons t l3=>
       cases l3 with
       | cons _ _=>rw[ha,dx] at h;cases h
       | nil=>
        rw[ha,dx] at h
        simp only at h
        have e1:args= #[x]:=by rw[←Array.toArray_toList (xs:=args),ha]
        have e2:argTypes= #[t]:=by rw[←Array.toArray_toList (xs:=argTypes),dx]
        have hx:=hs.ev hg ty x
        refine .val (rH Builtin.len_ rfl) ?_
        rw[e1,e2]
        cases hu:P.underlying t with
        | none=>rw[hu] at h;cases h
        | some d=>
         rw[hu] at h
         cases d<;>(try (cases h;done))
         ·cases fG:aV P A.aM ty sl x<;>rw[fG] at h hx<;>(try (cases h;done))
          have:=Qz (t:=t) (ty:=ty) S hx (fun l hl=>hu) (fun hn=>absurd rfl (hn _)) h
          simpa using this
         ·have h2:(∀l,aV P A.aM ty sl x≠ .str l)∧(Fb P (aV P A.aM ty sl x)).run C hp=some (r,rd):=by
           cases fG:aV P A.aM ty sl x<;>rw[fG] at h<;>first|(cases h;done)|exact ⟨fun l=>by simp,h⟩
          have:=Qz (t:=t) (ty:=ty) S hx (fun l hl=>absurd hl (h2.1 l)) (fun _=>⟨_,hu⟩) h2.2
          simpa using this
         ·have h2:(Fg (aV P A.aM ty sl x)).run C hp=some (r,rd):=by
           cases fG:aV P A.aM ty sl x<;>rw[fG] at h<;>exact h
          have:=abA (t:=t) (ty:=ty) S hu hx h2
          simpa using this
   case unsafeSliceData=>
    simp only at h
    cases ha:args.toList with
    | nil=>rw[ha] at h;cases h
    | cons x l=>
     cases l with
     | cons _ _=>rw[ha] at h;cases h
     | nil=>
      rw[ha] at h
      simp only at h
      have e1:args= #[x]:=by rw[←Array.toArray_toList (xs:=args),ha]
      have hx:=hs.ev hg ty x
      refine .val (rH Builtin.unsafeSliceData_ rfl) ?_
      rw[e1]
      cases fG:aV P A.aM ty sl x<;>rw[fG] at h hx<;>simp only at h<;>first|(cases h;done)|skip
      rename_i e id
      obtain ⟨l2,h1⟩:=run_get h
      cases aa:hp id with
      | none=>rw[aa] at h1;cases h1
      | some blk=>
       rw[aa] at h1
       cases blk<;>simp only at h1<;>first|(cases h1;done)|skip
       rename_i e' es fz
       obtain ⟨h2,h3⟩:=aQ h1
       simp only[aS,aX,ku] at h2
       obtain ⟨rfl,h4⟩:=h2
       obtain rfl:=aU h3
       have:=abQ (ts:=argTypes) (ty:=ty) S hx aa h4
       simpa using this
   case unsafeString=>
    simp only at h
    cases ha:args.toList with
    | nil=>rw[ha] at h;cases h
    | cons x l=>
     cases l with
     | nil=>rw[ha] at h;cases h
     | cons y l2=>
      cases l2 with
      | cons _ _=>rw[ha] at h;cases h
      | nil=>
       cases dx:argTypes.toList with
       | nil=>rw[ha,dx] at h;cases h
       | cons t l3=>
        cases l3 with
        | nil=>rw[ha,dx] at h;cases h
        | cons u l4=>
         cases l4 with
         | cons _ _=>rw[ha,dx] at h;cases h
         | nil=>
          rw[ha,dx] at h
          simp only at h
          have e1:args= #[x,y]:=by rw[←Array.toArray_toList (xs:=args),ha]
          have e2:argTypes= #[t,u]:=by rw[←Array.toArray_toList (xs:=argTypes),dx]
          have hx:=hs.ev hg ty x
          have hy:=hs.ev hg ty y
          cases hu:P.underlying t with
          | none=>rw[hu] at h;cases h
          | some d=>
           rw[hu] at h
           cases d<;>(try (cases h;done))
           rename_i e
           cases fG:aV P A.aM ty sl x<;>rw[fG] at h hx<;>(try (cases h;done))
           cases tI:aV P A.aM ty sl y<;>rw[tI] at h hy<;>(try (cases h;done))
           rename_i id i c k n
           cases k<;>(try (cases h;done))
           simp only at h
           obtain ⟨l2,h1⟩:=run_get h
           cases aa:hp id with
           | none=>rw[aa] at h1;cases h1
           | some blk=>
            rw[aa] at h1
            cases blk<;>simp only at h1<;>first|(cases h1;done)|skip
            rename_i e' es fz
            cases fz<;>simp only at h1<;>first|(cases h1;done)|skip
            obtain ⟨h2,h3⟩:=aQ h1
            simp only[aS,aX,eL,dv] at h2
            obtain ⟨rfl,h4,rfl,rfl,h5,h6,h7,h8⟩:=h2
            obtain rfl:=aU h3
            have:=abR (u:=u) (ty:=ty) S hu h4 hx aa h5 h6 h7 h8
            refine .val (rH Builtin.unsafeString_ rfl) ?_
            rw[e1,e2]
            simpa[hy.eI] using this
   case copy=>
    simp only at h
    cases ha:args.toList with
    | nil=>rw[ha] at h;cases h
    | cons x l=>
     cases l with
     | nil=>rw[ha] at h;cases h
     | cons y l2=>
      cases l2 with
      | cons _ _=>rw[ha] at h;cases h
      | nil=>
       cases dx:argTypes.toList with
       | nil=>rw[ha,dx] at h;cases h
       | cons t l3=>
        cases l3 with
        | nil=>rw[ha,dx] at h;cases h
        | cons u l4=>
         cases l4 with
         | cons _ _=>rw[ha,dx] at h;cases h
         | nil=>
          rw[ha,dx] at h
          simp only at h
          have e1:args= #[x,y]:=by rw[←Array.toArray_toList (xs:=args),ha]
          have e2:argTypes= #[t,u]:=by rw[←Array.toArray_toList (xs:=argTypes),dx]
          cases hu:P.underlying t with
          | none=>rw[hu] at h;cases h
          | some d=>
           rw[hu] at h
           cases d<;>(try (cases h;done))
           have:=abf (u:=u) (ty:=ty) S hu (hs.ev hg t x) (hs.ev hg u y) h
           refine .val (rH Builtin.copy_ rfl) ?_
           rw[e1,e2]
           simpa using this
   case clear=>
    simp only at h
    cases ha:args.toList with
    | nil=>rw[ha] at h;cases h
    | cons x l=>
     cases l with
     | cons _ _=>rw[ha] at h;cases h
     | nil=>
      cases dx:argTypes.toList with
      | nil=>rw[ha,dx] at h;cases h
      | cons t l3=>
       cases l3 with
       | cons _ _=>rw[ha,dx] at h;cases h
       | nil=>
        rw[ha,dx] at h
        simp only at h
        have e1:args= #[x]:=by rw[←Array.toArray_toList (xs:=args),ha]
        have e2:argTypes= #[t]:=by rw[←Array.toArray_toList (xs:=argTypes),dx]
        cases hu:P.underlying t with
        | none=>rw[hu] at h;cases h
        | some d=>
         rw[hu] at h
         cases d<;>(try (cases h;done))
         have:=abg (ty:=ty) S hu (hs.ev hg t x) h
         refine .val (rH Builtin.clear_ rfl) ?_
         rw[e1,e2]
         simpa using this
   case max=>
    simp only at h
    cases ha:args.toList with
    | nil=>rw[ha] at h;cases h
    | cons x l=>
     rw[ha] at h
     simp only at h
     have:=KF S true (vs:=l.map a.eval) (xs:=l.map (aV P A.aM ty sl)) (hs.ev hg ty x) (by simp) (fun j u y hu hy=>by
      simp only[eM] at hu hy
      cases hl:l[j]? with
      | none=>rw[hl] at hu;cases hu
      | some z=>rw[hl] at hu hy;cases hu;cases hy;exact hs.ev hg ty z) h
     refine .val (rH Builtin.max_ rfl) ?_
     simpa[Builtin.max_,ha] using this
   case min=>
    simp only at h
    cases ha:args.toList with
    | nil=>rw[ha] at h;cases h
    | cons x l=>
     rw[ha] at h
     simp only at h
     have:=KF S false (vs:=l.map a.eval) (xs:=l.map (aV P A.aM ty sl)) (hs.ev hg ty x) (by simp) (fun j u y hu hy=>by
      simp only[eM] at hu hy
      cases hl:l[j]? with
      | none=>rw[hl] at hu;cases hu
      | some z=>rw[hl] at hu hy;cases hu;cases hy;exact hs.ev hg ty z) h
     refine .val (rH Builtin.min_ rfl) ?_
     simpa[Builtin.min_,ha] using this
end
section
variable {P:Program} {A:cJ} {w w':World} {I I' I2:Nat→Prop} {μ β au:Nat→Option Nat} {hp hp':Nat→Option ak} {C:ae} {B:Nat} {M:Nat→Prop} {w0:Start}
theorem xK: ∀{l m:List Nat},eO.oP l m=true→l=m
 | [],[],_=>rfl
 | [],_::_,h=>by cases h
 | _::_,[],h=>by cases h
 | a::l,b::m,h=>by
  simp only[eO.oP,aS,aX] at h
  rw[h.1,xK h.2]
@[simp] theorem RH (n:Nat):la (ew n)=n:=by simp[la,ew,V.toInt]
theorem Gg: ∀(path:List (Nat × Nat)) (rest:List V),Aj (path.map (·.2)) ((path.map fun p=>ew p.1)++rest)=path
 | [],_=>rfl
 | p::l,rest=>by
  simp only[jw,List.cons_append,Aj,V.nth,RH,mE,jQ,Gg l rest]
theorem Gh {l:LS} {x:V} {ds:List V} (h:eO l x=some ds):ds.length=l.size∧(l= .td∨∀rest,iW l (ds++rest)=x):=by
 cases l with
 | td=>simp only[eO,dO] at h;subst h;exact ⟨rfl,.inl rfl⟩
 | int k=>
  cases x<;>simp only[eO] at h<;>first|(cases h;done)|skip
  rename_i k' n
  by_cases hk:k=k'
  ·subst hk
   simp only[ux,cond_true,dO] at h
   subst h
   exact ⟨rfl,.inr fun _=>rfl⟩
  ·simp[hk] at h
 | bool=>
  cases x<;>simp only[eO] at h<;>first|(cases h;done)|skip
  cases h
  exact ⟨rfl,.inr fun _=>rfl⟩
 | str=>
  cases x<;>simp only[eO] at h<;>first|(cases h;done)|skip
  cases h
  exact ⟨rfl,.inr fun _=>rfl⟩
 | list e=>
  cases x<;>simp only[eO] at h<;>first|(cases h;done)|skip
  rename_i e' es
  cases hb:Nat.beq e e' with
  | false=>rw[hb] at h;cases h
  | true=>
   rw[hb] at h
   rw[aX] at hb
   subst hb
   cases h
   exact ⟨rfl,.inr fun _=>rfl⟩
 | whole e j=>
  cases x<;>simp only[eO] at h<;>first|(cases h;done)|skip
  rename_i e' id
  cases hb:(Nat.beq e e'&&Nat.beq j id) with
  | false=>rw[hb] at h;cases h
  | true=>
   rw[hb] at h
   simp only[aS,aX] at hb
   obtain ⟨rfl,rfl⟩:=hb
   cases h
   exact ⟨rfl,.inr fun _=>rfl⟩
 | sub e j=>
  cases x<;>simp only[eO] at h<;>first|(cases h;done)|skip
  rename_i e' id o n
  cases hb:(Nat.beq e e'&&Nat.beq j id) with
  | false=>rw[hb] at h;cases h
  | true=>
   rw[hb] at h
   simp only[aS,aX] at hb
   obtain ⟨rfl,rfl⟩:=hb
   cases h
   exact ⟨rfl,.inr fun _=>by simp[iW,V.nth]⟩
 | ptr j=>
  cases x<;>simp only[eO] at h<;>first|(cases h;done)|skip
  rename_i id i c
  cases hb:(Nat.beq j id) with
  | false=>rw[hb] at h;cases h
  | true=>
   rw[hb] at h
   rw[aX] at hb
   subst hb
   cases h
   exact ⟨rfl,.inr fun _=>by simp[iW,V.nth]⟩
 | ei j i c=>
  cases x<;>simp only[eO] at h<;>first|(cases h;done)|skip
  rename_i id i' c'
  cases hb:(Nat.beq j id&&(Nat.beq i i'&&Nat.beq c c')) with
  | false=>rw[hb] at h;cases h
  | true=>
   rw[hb] at h
   simp only[aS,aX] at hb
   obtain ⟨rfl,rfl,rfl⟩:=hb
   cases h
   exact ⟨rfl,.inr fun _=>rfl⟩
 | nilS e=>
  cases x<;>simp only[eO] at h<;>first|(cases h;done)|skip
  rename_i e'
  cases hb:Nat.beq e e' with
  | false=>rw[hb] at h;cases h
  | true=>
   rw[hb] at h
   rw[aX] at hb
   subst hb
   cases h
   exact ⟨rfl,.inr fun _=>rfl⟩
 | dF=>
  cases x<;>simp only[eO] at h<;>first|(cases h;done)|skip
  cases h
  exact ⟨rfl,.inr fun _=>rfl⟩
 | cd e j=>
  cases x<;>simp only[eO] at h<;>first|(cases h;done)|skip
  rename_i e' id
  cases hb:(Nat.beq e e'&&Nat.beq j id) with
  | false=>rw[hb] at h;cases h
  | true=>
   rw[hb] at h
   simp only[aS,aX] at hb
   obtain ⟨rfl,rfl⟩:=hb
   cases h
   exact ⟨rfl,.inr fun _=>rfl⟩
 | dG e=>
  cases x<;>simp only[eO] at h<;>first|(cases h;done)|skip
  rename_i e'
  cases hb:Nat.beq e e' with
  | false=>rw[hb] at h;cases h
  | true=>
   rw[hb] at h
   rw[aX] at hb
   subst hb
   cases h
   exact ⟨rfl,.inr fun _=>rfl⟩
 | w4 k n=>
  cases x<;>simp only[eO] at h<;>first|(cases h;done)|skip
  rename_i k' m
  cases hb:(decide (k=k')&&decide (m=n)) with
  | false=>rw[hb] at h;cases h
  | true=>
   rw[hb] at h
   simp only[aS,dv] at hb
   obtain ⟨rfl,rfl⟩:=hb
   cases h
   exact ⟨rfl,.inr fun _=>rfl⟩
 | row e j cs=>
  cases x<;>simp only[eO] at h<;>first|(cases h;done)|skip
  rename_i e' id ver path
  cases hb:(Nat.beq e e'&&(Nat.beq j id&&(Nat.beq ver 0&&eO.oP cs (path.map (·.2))))) with
  | false=>rw[hb] at h;cases h
  | true=>
   rw[hb] at h
   simp only[aS,aX] at hb
   obtain ⟨rfl,rfl,rfl,oX⟩:=hb
   have:=xK oX
   subst this
   cases h
   exact ⟨by simp[LS.size],.inr fun rest=>by simp only[iW,Gg]⟩
 | cI j cs c=>
  cases x<;>simp only[eO] at h<;>first|(cases h;done)|skip
  rename_i id ver path i c'
  cases hb:(Nat.beq j id&&(Nat.beq ver 0&&(Nat.beq c c'&&eO.oP cs (path.map (·.2))))) with
  | false=>rw[hb] at h;cases h
  | true=>
   rw[hb] at h
   simp only[aS,aX] at hb
   obtain ⟨rfl,rfl,rfl,oX⟩:=hb
   have:=xK oX
   subst this
   cases h
   exact ⟨by simp[LS.size],.inr fun rest=>by simp only[iW,List.cons_append,V.nth,RH,mE,jQ,Gg]⟩
def LS.below (n:Nat) (x:V):Prop:= ∀id∈eG x,id<n
def RI:V→Prop
 | .agg _=>False
 | .bm _=>False
 | .fn .. =>False
 | .pref .. =>False
 | _=>True
theorem vo {c:Bool} {a d:List V} (h:(bif c then some a else none)=some d):c=true:=by
 cases c with
 | true=>rfl
 | false=>cases h
theorem abU {l:LS} {x:V} {ds:List V} {n:Nat} (h:eO l x=some ds) (hl:l≠ .td) (aE:l.ok n=true):RI x∧LS.below n x:=by
 cases l<;>cases x<;>simp only[eO] at h<;>first|(cases h;done)|(exact absurd rfl hl)|skip
 all_goals refine ⟨trivial,fun id aa=> ?_⟩
 all_goals simp only[eG,gY,List.not_mem_nil] at aa
 all_goals subst aa
 all_goals simp only[LS.ok,ku] at aE
 all_goals
  have hb:=vo h
  simp only[aS,aX] at hb
  omega
theorem an.abV {v:Value} {x:V} (h:an P w I β hp v x) (hx:RI x) (hs: ∀id∈eG x,hp' id=hp id∧au id=β id):an P w I au hp' v x:=by
 have one: ∀{id},id∈eG x→hp' id=hp id∧au id=β id:=fun h=>hs _ h
 cases h with
 | undef=>exact .undef
 | int=>exact .int
 | bool=>exact .bool
 | str h=>exact .str h
 | list h=>exact .list h
 | nilS=>exact .nilS
 | agg=>exact hx.elim
 | bm=>exact hx.elim
 | dF=>exact .dF
 | fn=>exact hx.elim
 | pref=>exact hx.elim
 | ez h=>exact .ez ((one (by simp[eG])).1.trans h)
 | gH h=>exact .gH ((one (by simp[eG])).1.trans h)
 | kI h=>exact .kI ((one (by simp[eG])).1.trans h)
 | dY h hb=>exact .dY ((one (by simp[eG])).1.trans h) ((one (by simp[eG])).2.trans hb)
 | whole h hb a b c=>exact .whole ((one (by simp[eG])).1.trans h) ((one (by simp[eG])).2.trans hb) a b c
 | eH h hb a b c=>exact .eH ((one (by simp[eG])).1.trans h) ((one (by simp[eG])).2.trans hb) a b c
 | gp h hb=>exact .gp ((one (by simp[eG])).1.trans h) ((one (by simp[eG])).2.trans hb)
 | sub h hb a b c=>exact .sub ((one (by simp[eG])).1.trans h) ((one (by simp[eG])).2.trans hb) a b c
 | ptr h hd hb=>exact .ptr ((one (by simp[eG])).1.trans h) hd ((one (by simp[eG])).2.trans hb)
 | jT h rD=>exact .jT ((one (by simp[eG])).1.trans h) rD
 | jU h rD=>exact .jU ((one (by simp[eG])).1.trans h) rD
 | row h hb a b c d=>exact .row ((one (by simp[eG])).1.trans h) ((one (by simp[eG])).2.trans hb) a b c d
 | cI h hb a b c d e=>exact .cI ((one (by simp[eG])).1.trans h) ((one (by simp[eG])).2.trans hb) a b c d e
 | dG=>exact .dG
 | iE h=>exact .iE ((one (by simp[eG])).1.trans h)
 | cd h hb=>exact .cd ((one (by simp[eG])).1.trans h) ((one (by simp[eG])).2.trans hb)
theorem n9 {a b:List V} {n:Nat} (h:a.length=n):(a++b).drop n=b:=by subst h;simp
def Bb (n:Nat) (β:Nat→Option Nat) (hp:Nat→Option ak) (au:Nat→Option Nat) (hp':Nat→Option ak):Prop:= ∀id,id<n→hp' id=hp id∧au id=β id
theorem RJ {l:LS} {x:V} {ds:List V} {n:Nat} {v:Value} (h:eO l x=some ds) (aE:l.ok n=true) (jf:Bb n β hp au hp') (hv:an P w I β hp v x) (rest:List V):
  an P w I au hp' v (iW l (ds++rest)):=by
 rcases (Gh h).2 with e|e
 ·subst e;exact .undef
 ·rw[e rest]
  by_cases hu:l= .td
  ·subst hu
   have:x= .undef:=(e rest).symm
   subst this
   exact .undef
  ·obtain ⟨h1,h2⟩:=abU h hu aE
   exact hv.abV h1 fun id aa=>jf id (h2 id aa)
theorem Bc {n:Nat} (jf:Bb n β hp au hp'): ∀{ls:List LS} {xs:List V} {ds:List V},pT ls xs=some ds→ls.all (LS.ok n)=true→
  ds.length=kE ls∧(∀rest,(iw ls (ds++rest)).length=xs.length)∧
  ∀(rest:List V) (j:Nat) (v:Value) (y:V),(∀x,xs[j]? =some x→an P w I β hp v x)→(iw ls (ds++rest))[j]? =some y→an P w I au hp' v y
 | [],[],ds,h,_=>by cases h;exact ⟨rfl,fun _=>rfl,fun rest j v y _ hy=>by simp[iw] at hy⟩
 | [],_::_,ds,h,_=>by cases h
 | _::_,[],ds,h,_=>by cases h
 | l::ls,x::xs,ds,h,aE=>by
  simp only[pT] at h
  obtain ⟨a,h1,h⟩:=bind_some h
  obtain ⟨b,h2,h⟩:=bind_some h
  cases h
  simp only[List.all_cons,aS] at aE
  obtain ⟨i1,i2,i3⟩:=Bc jf h2 aE.2
  have cw:=(Gh h1).1
  have hd: ∀rest,(a++b++rest).drop l.size=b++rest:=fun rest=>by rw[cY];exact n9 cw
  refine ⟨by simp only[dD,kE];omega,fun rest=>by simp only[iw,List.length_cons,hd,i2],fun rest j v y hv hy=> ?_⟩
  simp only[iw,hd] at hy
  cases j with
  | zero=>
   simp at hy
   subst hy
   exact RJ h1 aE.1 jf (hv x rfl) _
  | succ j=>exact i3 rest j v y (fun x hx=>hv x (by simpa using hx)) (by simpa using hy)
theorem KX: ∀{ls:List LS} {xs:List V} {ds:List V},pT ls xs=some ds→ls.all LS.plain=true→ds.length=kE ls∧∀rest,iw ls (ds++rest)=xs
 | [],[],ds,h,_=>by cases h;exact ⟨rfl,fun _=>rfl⟩
 | [],_::_,ds,h,_=>by cases h
 | _::_,[],ds,h,_=>by cases h
 | l::ls,x::xs,ds,h,aE=>by
  simp only[pT] at h
  obtain ⟨a,h1,h⟩:=bind_some h
  obtain ⟨b,h2,h⟩:=bind_some h
  cases h
  simp only[List.all_cons,aS] at aE
  obtain ⟨i1,i2⟩:=KX h2 aE.2
  obtain ⟨cw,hm⟩:=Gh h1
  refine ⟨by simp only[dD,kE];omega,fun rest=> ?_⟩
  simp only[iw]
  rw[show (a++b++rest).drop l.size=b++rest by rw[cY];exact n9 cw,i2,cY]
  rcases hm with e|e
  ·subst e;cases aE.1
  ·rw[e]
theorem KY {n:Nat} (jf:Bb n β hp au hp') {s:VS} {x:V} {ds:List V} (h:pU s x=some ds) (aE:s.ok n=true):
  ds.length=s.size∧∀(rest:List V) (v:Value),an P w I β hp v x→an P w I au hp' v (ld s (ds++rest)):=by
 cases s with
 | one l=>exact ⟨(Gh h).1,fun rest v hv=>RJ h aE jf hv rest⟩
 | agg ls=>
  cases x<;>simp only[pU] at h<;>first|(cases h;done)|skip
  rename_i xs
  obtain ⟨i1,i2,i3⟩:=Bc (P:=P) (w:=w) (I:=I) jf h aE
  refine ⟨i1,fun rest v hv=> ?_⟩
  obtain ⟨cs,rfl,e1,e2⟩:=hv.lj
  exact .agg (by rw[i2];exact e1) fun j v y hj hy=>i3 rest j v y (fun x hx=>e2 j v x hj hx) hy
 | bm ls=>
  cases x<;>simp only[pU] at h<;>first|(cases h;done)|skip
  rename_i xs
  obtain ⟨i1,i2,i3⟩:=Bc (P:=P) (w:=w) (I:=I) jf h aE
  refine ⟨i1,fun rest v hv=> ?_⟩
  obtain ⟨cs,rfl,e1,e2⟩:=hv.u7
  exact .bm (by rw[i2];exact e1) fun j v y hj hy=>i3 rest j v y (fun x hx=>e2 j v x hj hx) hy
 | fn f a b=>
  cases x<;>simp only[pU] at h<;>first|(cases h;done)|skip
  rename_i f' xs ys
  cases hb:Nat.beq f f' with
  | false=>rw[hb] at h;cases h
  | true=>
   rw[hb] at h
   rw[aX] at hb
   subst hb
   simp only[cond_true] at h
   obtain ⟨p,h1,h⟩:=bind_some h
   obtain ⟨q,h2,h⟩:=bind_some h
   cases h
   simp only[VS.ok,aS] at aE
   obtain ⟨i1,i2,i3⟩:=Bc (P:=P) (w:=w) (I:=I) jf h1 aE.1
   obtain ⟨j1,j2,j3⟩:=Bc (P:=P) (w:=w) (I:=I) jf h2 aE.2
   refine ⟨by simp only[dD,VS.size];omega,fun rest v hv=> ?_⟩
   cases hv with
   | fn a1 a2 b1 b2=>
    simp only[ld]
    rw[show (p++q++rest).drop (kE a)=q++rest by rw[cY];exact n9 i1,cY]
    exact .fn (by rw[i2];exact a1) (fun j v y hj hy=>i3 _ j v y (fun x hx=>a2 j v x hj hx) hy) (by rw[j2];exact b1) (fun j v y hj hy=>j3 _ j v y (fun x hx=>b2 j v x hj hx) hy)
 | pref ts ls=>
  cases x<;>simp only[pU] at h<;>first|(cases h;done)|skip
  rename_i xc xs
  cases hb:eO.oP ts xc with
  | false=>rw[hb] at h;cases h
  | true=>
   rw[hb] at h
   have:=xK hb
   subst this
   simp only[cond_true] at h
   refine ⟨?_,fun rest v hv=> ?_⟩
   ·exact (KX h aE).1
   ·simp only[ld]
    rw[(KX h aE).2]
    cases hv with
    | pref hl hI hc=>exact .pref hl hI hc
theorem Bd {n:Nat} (jf:Bb n β hp au hp'): ∀{ls:List VS} {xs:List V} {ds:List V},sV ls xs=some ds→ls.all (VS.ok n)=true→
  ds.length=tp ls∧(∀rest,(fR ls (ds++rest)).length=xs.length)∧
  ∀(rest:List V) (j:Nat) (v:Value) (y:V),(∀x,xs[j]? =some x→an P w I β hp v x)→(fR ls (ds++rest))[j]? =some y→an P w I au hp' v y
 | [],[],ds,h,_=>by cases h;exact ⟨rfl,fun _=>rfl,fun rest j v y _ hy=>by simp[fR] at hy⟩
 | [],_::_,ds,h,_=>by cases h
 | _::_,[],ds,h,_=>by cases h
 | l::ls,x::xs,ds,h,aE=>by
  simp only[sV] at h
  obtain ⟨a,h1,h⟩:=bind_some h
  obtain ⟨b,h2,h⟩:=bind_some h
  cases h
  simp only[List.all_cons,aS] at aE
  obtain ⟨i1,i2,i3⟩:=Bd jf h2 aE.2
  obtain ⟨cw,xG⟩:=KY (P:=P) (w:=w) (I:=I) jf h1 aE.1
  have hd: ∀rest,(a++b++rest).drop l.size=b++rest:=fun rest=>by rw[cY];exact n9 cw
  refine ⟨by simp only[dD,tp];omega,fun rest=>by simp only[fR,List.length_cons,hd,i2],fun rest j v y hv hy=> ?_⟩
  simp only[fR,hd] at hy
  cases j with
  | zero=>
   simp at hy
   subst hy
   exact xG _ v (hv x rfl)
  | succ j=>exact i3 rest j v y (fun x hx=>hv x (by simpa using hx)) (by simpa using hy)
end
section
variable {P:Program} {A:cJ} {w w':World} {I I' I2:Nat→Prop} {μ β au:Nat→Option Nat} {hp hp' hp0:Nat→Option ak} {C:ae} {B:Nat} {M:Nat→Prop} {w0:Start}
theorem ij: ∀{l:List ak} {j:Nat},jS l j=l[j]?
 | [],j=>by simp[jS]
 | b::l,0=>rfl
 | b::l,j+1=>by simp only[jS,ij,List.getElem?_cons_succ]
theorem KZ {sl:Nat→V} {k:Nat} {y:V}: ∀{l:List (Nat × VS)} {ds:List V},Ah sl l=some ds→(∀p∈l,∀d,pU p.2 (sl p.1)=some d→d.length=p.2.size)→
  ds.length=oQ l∧∀rest,dX (fE l (ds++rest)) k=some y→∃s d gL,(k,s)∈l∧pU s (sl k)=some d∧y=ld s (d++gL)
 | [],ds,h,_=>by cases h;exact ⟨rfl,fun rest h=>by cases h⟩
 | (q,s)::l,ds,h,hz=>by
  simp only[Ah] at h
  obtain ⟨a,h1,h⟩:=bind_some h
  obtain ⟨b,h2,h⟩:=bind_some h
  cases h
  obtain ⟨i1,i2⟩:=KZ (k:=k) (y:=y) h2 fun p hp=>hz p (mD _ hp)
  have cw:=hz (q,s) (s7 ..) a h1
  refine ⟨by simp only[dD,oQ];simp only at cw;omega,fun rest hl=> ?_⟩
  simp only[fE,dX] at hl
  rw[show (a++b++rest).drop s.size=b++rest by rw[cY];exact n9 cw] at hl
  cases hb:Nat.beq k q with
  | true=>
   rw[hb] at hl
   rw[aX] at hb
   subst hb
   cases hl
   exact ⟨s,a,b++rest,s7 ..,h1,by rw[cY]⟩
  | false=>
   rw[hb] at hl
   obtain ⟨s',d,gL,m1,m2,m3⟩:=i2 rest hl
   exact ⟨s',d,gL,mD _ m1,m2,m3⟩
theorem K0 {α:Type} {c:Bool} {x:Option α} {a:α} (h:(bif c then x else none)=some a):c=true∧x=some a:=by
 cases c with
 | true=>exact ⟨rfl,h⟩
 | false=>cases h
theorem abW {n:Nat} {b:BS} {o:Option ak} {ds:List V} (h:lb b o=some ds) (aE:b.ok n=true):ds.length=b.size:=by
 cases b with
 | dead=>cases o<;>(cases h;rfl)
 | var T0 ls=>
  cases o with
  | none=>cases h
  | some blk=>
   cases blk<;>simp only[lb] at h<;>first|(cases h;done)|skip
   exact (Bd (P:=default) (w:=default) (I:=fun _=>False) (β:=fun _=>none) (hp:=fun _=>none) (fun _ _=>⟨rfl,rfl⟩) (K0 h).2 aE).1
 | arr e fz=>
  cases o with
  | none=>cases h
  | some blk=>
   cases blk<;>simp only[lb] at h<;>first|(cases h;done)|skip
   rw[vo h] at h
   cases h
   rfl
 | nest e=>
  cases o with
  | none=>cases h
  | some blk=>
   cases blk<;>simp only[lb] at h<;>first|(cases h;done)|skip
   rw[vo h] at h
   cases h
   rfl
 | map t=>
  cases o with
  | none=>cases h
  | some blk=>
   cases blk<;>simp only[lb] at h<;>first|(cases h;done)|skip
   rw[vo h] at h
   cases h
   rfl
theorem RK {n:Nat}: ∀{l:List BS} {j:Nat} {ds:List V},Ai hp j l=some ds→l.all (BS.ok n)=true→
  (∀rest,(eX l (ds++rest)).length=l.length)∧∀(rest:List V) (i:Nat) (blk:ak),(eX l (ds++rest))[i]? =some blk→∃b d gL,l[i]? =some b∧b.ok n=true∧lb b (hp (j+i))=some d∧blk=gk b (d++gL)
 | [],j,ds,h,_=>by cases h;exact ⟨fun _=>rfl,fun rest i blk hb=>by simp[eX] at hb⟩
 | b::l,j,ds,h,aE=>by
  simp only[Ai] at h
  obtain ⟨a,h1,h⟩:=bind_some h
  obtain ⟨c,h2,h⟩:=bind_some h
  cases h
  simp only[List.all_cons,aS] at aE
  obtain ⟨i1,i2⟩:=RK h2 aE.2
  have cw:=abW h1 aE.1
  have hd: ∀rest,(a++c++rest).drop b.size=c++rest:=fun rest=>by rw[cY];exact n9 cw
  refine ⟨fun rest=>by simp only[eX,List.length_cons,hd,i1],fun rest i blk hb=> ?_⟩
  simp only[eX,hd] at hb
  cases i with
  | zero=>
   simp at hb
   exact ⟨b,a,c++rest,rfl,aE.1,h1,by rw[←hb]⟩
  | succ i=>
   obtain ⟨b',d,gL,m1,m2,m3,m4⟩:=i2 rest i blk (by simpa using hb)
   exact ⟨b',d,gL,by simpa using m1,m2,by rw[show j+(i+1)=j+1+i by omega];exact m3,m4⟩
theorem abX {n:Nat} {b:BS} {blk:ak} {ds rest:List V} (h:lb b (some blk)=some ds) (aE:b.ok n=true):
  blk.le (gk b (ds++rest))∧(gk b (ds++rest)= .dead∨gk b (ds++rest)=blk∨∃T ls cs,b= .var T ls∧blk= .var T cs∧sV ls cs=some ds∧gk b (ds++rest)= .var T (fR ls (ds++rest))):=by
 cases b with
 | dead=>exact ⟨by cases blk<;>trivial,.inl rfl⟩
 | var T0 ls=>
  cases blk<;>simp only[lb] at h<;>first|(cases h;done)|skip
  obtain ⟨hT,h0⟩:=K0 h
  clear h
  rw[aX] at hT
  subst hT
  exact ⟨rfl,.inr (.inr ⟨_,_,_,rfl,rfl,h0,rfl⟩)⟩
 | arr e fz=>
  cases blk<;>simp only[lb] at h<;>first|(cases h;done)|skip
  rename_i e' es nK
  have hb:=vo h
  simp only[aS,aX,beq_iff_eq] at hb
  obtain ⟨rfl,rfl⟩:=hb
  simp only[jP,beq_self_eq_true,zV,cond_true,dO] at h
  subst h
  exact ⟨⟨rfl,rfl⟩,.inr (.inl rfl)⟩
 | nest e=>
  cases blk<;>simp only[lb] at h<;>first|(cases h;done)|skip
  rename_i e' es aq
  have hb:=vo h
  simp only[aS,aX] at hb
  obtain ⟨rfl,hv⟩:=hb
  have:=xK hv
  subst this
  simp only[jP,wV] at h
  cases h
  exact ⟨⟨rfl,rfl,rfl,fun _=>aI _⟩,.inr (.inl rfl)⟩
 | map t=>
  cases blk<;>simp only[lb] at h<;>first|(cases h;done)|skip
  rename_i t' es
  have hb:=vo h
  rw[aX] at hb
  subst hb
  simp only[jP,cond_true,dO] at h
  subst h
  exact ⟨rfl,.inr (.inl rfl)⟩
theorem RL {m:Nat} {S:Shape} {st:St} {ds:List V} (h:iX m S st=some ds):
  S.ok=true∧m≤S.bf.length∧∃a b,Ah st.sl S.bQ=some a∧Ai st.hp 0 S.bf=some b∧ds=a++b:=by
 unfold iX at h
 cases hc:(S.ok&&Nat.ble m S.bf.length) with
 | false=>rw[hc] at h;cases h
 | true=>
  rw[hc] at h
  simp only[cond_true] at h
  simp only[aS,eL] at hc
  obtain ⟨a,h1,h⟩:=bind_some h
  obtain ⟨b,h2,h⟩:=bind_some h
  cases h
  exact ⟨hc.1,hc.2,a,b,h1,h2,rfl⟩
theorem reshape {m:Nat} {S:Shape} {st:St} {ds:List V} (h:iX m S st=some ds) (hS:aP P w I β st.hp B M w0):
  aP P w I β (bu S ds).hp B M w0∧(∀(k:Nat) (v:Value),an P w I β st.hp v (st.sl k)→an P w I β (bu S ds).hp v ((bu S ds).sl k))∧
  (∀(μ:Nat→Option Nat) (hp0:Nat→Option ak),(∀id blk,hp0 id=some blk→id<m)→Le P w0.w w0.I μ hp0 w I β st.hp→Le P w0.w w0.I μ hp0 w I β (bu S ds).hp)∧
  ∀j blk',(bu S ds).hp j=some blk'→blk'≠ .dead→∃blk,st.hp j=some blk∧blk.le blk'∧∀o b,bG P w o blk' b→bG P w o blk b:=by
 obtain ⟨aE,hm,a,b,h1,h2,rfl⟩:=RL h
 unfold Shape.ok at aE
 rw[aS] at aE
 obtain ⟨RM,KH⟩:=aE
 have ba: ∀p∈S.bQ,∀d,pU p.2 (st.sl p.1)=some d→d.length=p.2.size:=fun p hp d hd=>
  (KY (P:=P) (w:=w) (I:=I) (β:=β) (hp:=st.hp) (fun _ _=>⟨rfl,rfl⟩) hd (fO.1 RM p hp)).1
 have cw:a.length=oQ S.bQ:=(KZ (k:=0) (y:= .undef) h1 ba).1
 have F6:(bu S (a++b)).hp=jS (eX S.bf (b++[])):=by
  simp only[bu,mk,iS]
  rw[n9 cw]
 obtain ⟨bl,bg⟩:=RK h2 KH
 have get: ∀j blk',(bu S (a++b)).hp j=some blk'→j<S.bf.length∧∃bs d gL,bs.ok S.bf.length=true∧lb bs (st.hp j)=some d∧blk'=gk bs (d++gL):=by
  intro j blk' hj
  rw[F6,ij] at hj
  obtain ⟨bs,d,gL,m1,m2,m3,m4⟩:=bg [] j blk' hj
  rw[dV] at m3
  exact ⟨(bA.1 m1).1,bs,d,gL,m2,m3,m4⟩
 have have': ∀j,j<S.bf.length→∃blk',(bu S (a++b)).hp j=some blk':=by
  intro j hj
  rw[F6,ij]
  exact ⟨_,bI (by rw[bl];exact hj)⟩
 generalize hZ:(bu S (a++b)).hp=vp at*
 let bB:Nat→Option ak:=fun id=>if id<S.bf.length then vp id else st.hp id
 have back: ∀j blk',vp j=some blk'→blk'≠ .dead→∃blk,st.hp j=some blk∧blk.le blk'∧(blk'=blk∨∃T ls cs d gL,ls.all (VS.ok S.bf.length)=true∧blk= .var T cs∧sV ls cs=some d∧blk'= .var T (fR ls (d++gL))):=by
  intro j blk' hj hd
  obtain ⟨c6,bs,d,gL,m1,m2,m3⟩:=get j blk' hj
  cases b6:st.hp j with
  | none=>
   rw[b6] at m2
   cases bs<;>simp only[lb] at m2<;>first|(cases m2;done)|skip
   exact absurd m3 hd
  | some blk=>
   rw[b6] at m2
   obtain ⟨n1,n2⟩:=abX (rest:=gL) m2 m1
   rw[←m3] at n1 n2
   refine ⟨blk,rfl,n1,?_⟩
   rcases n2 with e|e|⟨T,ls,cs,e1,e2,e3,e4⟩
   ·exact absurd e hd
   ·exact .inl e
   ·subst e1
    exact .inr ⟨T,ls,cs,d,gL,m1,e2,e3,e4⟩
 have le1: ∀j blk,st.hp j=some blk→j<S.bf.length→∃blk',vp j=some blk'∧blk.le blk':=by
  intro j blk hj c6
  obtain ⟨blk',aH⟩:=have' j c6
  refine ⟨blk',aH,?_⟩
  by_cases hd:blk'= .dead
  ·subst hd;cases blk<;>trivial
  ·obtain ⟨cg,e1,e2,_⟩:=back j blk' aH hd
   rw[hj] at e1;cases e1
   exact e2
 have abY: ∀j e es aq e' aT vers',st.hp j=some (.nest e es aq)→vp j=some (.nest e' aT vers')→e'=e∧aT=es∧vers'=aq:=by
  intro j e es aq e' aT vers' hj gR
  obtain ⟨blk,e1,_,e3⟩:=back j _ gR (by simp)
  rw[hj] at e1;cases e1
  rcases e3 with e3|⟨_,_,_,_,_,_,e3,_⟩
  ·cases e3;exact ⟨rfl,rfl,rfl⟩
  ·cases e3
 have hle:Le P w I β st.hp w I β bB:=by
  refine ⟨fun _ h=>h,fun _ _=>rfl,fun id blk aa=> ?_,fun _ _ _ _ _ _ _ _=>rfl,Le.tx (fun _ _ _ _ _ _=>rfl) fun id e es aq e' aT vers' aa bM=> ?_⟩
  ·by_cases hl:id<S.bf.length
   ·obtain ⟨blk',e1,e2⟩:=le1 id blk aa hl
    exact ⟨blk',by simp only[bB,af hl];exact e1,e2,fun _=>rfl⟩
   ·exact ⟨blk,by simp only[bB,ah hl];exact aa,ak.le_refl _,fun _=>rfl⟩
  ·by_cases hl:id<S.bf.length
   ·simp only[bB,af hl] at bM
    exact abY _ _ _ _ _ _ _ aa bM
   ·simp only[bB,ah hl] at bM
    rw[aa] at bM;cases bM
    exact ⟨rfl,rfl,rfl⟩
 have jf:Bb S.bf.length β bB β vp:=fun id aa=>⟨by simp only[bB,af aa],rfl⟩
 have xz: ∀j blk' blk o b,vp j=some blk'→st.hp j=some blk→bG P w o blk' b→bG P w o blk b:=by
  intro j blk' blk o b gR hj ho
  obtain ⟨cg,e1,_,e3⟩:=back j blk' gR ho.alive
  rw[hj] at e1;cases e1
  rcases e3 with e3|⟨T,ls,cs,d,gL,_,e3,_,e5⟩
  ·subst e3;exact ho
  ·subst e3;subst e5
   exact .root (by simp) (ho.flat (by simp))
 refine ⟨⟨⟨fun j blk' hj=> ?_,fun j1 j2 b1 b2 b' e1 e2 o1 o2=> ?_,fun j blk b' hj ho=> ?_,hS.h.jV⟩,hS.cu,hS.size,hS.new,hS.io⟩,fun k v hv=> ?_,fun μ hp0 aY hE=> ?_,fun j blk' hj hd=> ?_⟩
 ·by_cases hd:blk'= .dead
  ·subst hd;exact .dead
  ·obtain ⟨blk,e1,_,e3⟩:=back j blk' hj hd
   have hr:=hS.h.rel j blk e1
   generalize β j=o at hr
   rcases e3 with e3|⟨T0,ls,cs,d,gL,q1,e3,e4,e5⟩
   ·subst e3
    cases hr with
    | @var xs b' Ca T hb hh hs cO hx gJ=>
     obtain ⟨c6,bs,d,gL,m1,m2,m3⟩:=get j _ hj
     rw[e1] at m2
     cases bs<;>simp only[lb] at m2<;>first|(cases m2;done)|skip
     ·rename_i T0 ls
      simp only[gk] at m3
      obtain ⟨hT,m2⟩:=K0 m2
      obtain ⟨i1,i2,i3⟩:=Bd (P:=P) (w:=w) (I:=I) jf m2 m1
      injection m3 with m4 m3
      rw[m3]
      exact .var hb hh (by rw[i2];exact hs) cO (fun i v y hi hy=>i3 gL i v y (fun x cD=>(hx i v x hi cD).mono hle) hy) gJ
     ·simp only[gk] at m3
      cases m3
    | dZ hb=>exact .dZ hb
    | arr a1 a2 a3 a4 a5 a6 a7=>exact .arr a1 a2 a3 a4 a5 a6 a7
    | dead=>exact absurd rfl hd
    | nest a1 a2 a3=>exact .nest a1 a2 a3
    | map a1 a2 a3 a4 a5 a6 a7=>exact .map a1 a2 a3 a4 a5 a6 a7
   ·subst e3
    subst e5
    cases hr with
    | @var xs b' Ca T hb hh hs cO hx gJ=>
     obtain ⟨i1,i2,i3⟩:=Bd (P:=P) (w:=w) (I:=I) jf e4 q1
     exact .var hb hh (by rw[i2];exact hs) cO (fun i v y hi hy=>i3 gL i v y (fun x cD=>(hx i v x hi cD).mono hle) hy) gJ
 ·obtain ⟨c1,x1,_,_⟩:=back j1 b1 e1 o1.alive
  obtain ⟨c2,x2,_,_⟩:=back j2 b2 e2 o2.alive
  exact hS.h.inj j1 j2 c1 c2 b' x1 x2 (xz _ _ _ _ _ e1 x1 o1) (xz _ _ _ _ _ e2 x2 o2)
 ·obtain ⟨c1,x1,_,_⟩:=back j blk hj ho.alive
  exact hS.h.own j c1 b' x1 (xz _ _ _ _ _ hj x1 ho)
 ·change an P w I β vp v (jC (fE S.bQ (a++b)) k)
  unfold jC
  cases K1:dX (fE S.bQ (a++b)) k with
  | none=>exact .undef
  | some y=>
   obtain ⟨s,d,gL,n1,n2,n3⟩:=(KZ h1 ba).2 b K1
   simp only[Option.getD_some,n3]
   exact (KY (P:=P) (w:=w) (I:=I) jf n2 (fO.1 RM _ n1)).2 gL v (hv.mono hle)
 ·have h3:=hE.trans hle
  refine ⟨h3.dw,h3.cu,fun id blk aa=> ?_,fun id blk blk' b' aa bM hd hb=> ?_,fun id e es aq e' aT vers' b2 q i c t v e1 l aa bM=> ?_⟩
  ·have hl:=aY id blk aa
   obtain ⟨blk',k1,k2,k3⟩:=h3.blk id blk aa
   simp only[bB,af (show id<S.bf.length by omega)] at k1
   exact ⟨blk',k1,k2,k3⟩
  ·have hl:=aY id blk aa
   exact h3.size id blk blk' b' aa (by simp only[bB,af (show id<S.bf.length by omega)];exact bM) hd hb
  ·have hl:=aY id _ aa
   exact h3.row id e es aq e' aT vers' b2 q i c t v e1 l aa (by simp only[bB,af (show id<S.bf.length by omega)];exact bM)
 ·obtain ⟨blk,e1,e2,_⟩:=back j blk' hj hd
  exact ⟨blk,e1,e2,fun o b' ho=>xz _ _ _ _ _ hj e1 ho⟩
end
section
variable {P:Program} {A:cJ} {w w':World} {I I' I2:Nat→Prop} {μ β au:Nat→Option Nat} {hp hp' hp0:Nat→Option ak} {C:ae} {B:Nat} {M:Nat→Prop} {w0:Start}
inductive en (P:Program) (w:World) (β:Nat→Option Nat) (hp:Nat→Option ak):Place→Option Nat→ak→Prop
 | var {id:Nat} {T:TypeId} {cs K3:List V}:hp id=some (.var T cs)→en P w β hp (.blk id) (β id) (.var T K3)
 | arr {id:Nat} {e:TypeId} {es:List V}:hp id=some (.arr e es false)→en P w β hp (.blk id) (β id) (.arr e es false)
 | nest {id:Nat} {e:TypeId} {es:List V} {aq:List Nat}:hp id=some (.nest e es aq)→en P w β hp (.blk id) (β id) (.nest e es [0,0,0])
 | row {id ver b b':Nat} {path:Path} {e0 e':TypeId} {es l:List V} {aq:List Nat}:hp id=some (.nest e0 es aq)→β id=some b→At P w b e0 es path b' e' l→Ag P e'=true→
   0<path.length→path.length≤aq.length→bL aq (path.length-1)=ver→0<l.length→en P w β hp (.row id ver path) (some b') (.arr e' l false)
 | map {id:Nat} {t:TypeId} {es:List V}:hp id=some (.map t es)→en P w β hp (.blk id) (β id) (.map t es)
def Be (P:Program) (w:World) (β:Nat→Option Nat) (hp:Nat→Option ak) (ρ:List Place) (μ:Nat→Option Nat) (hp0:Nat→Option ak):Prop:=
 ∀j p,ey ρ j=some p→∃blk,hp0 j=some blk∧en P w β hp p (μ j) blk
theorem o6: ∀{l m:List Place} {j:Nat} {p:Place},ey l j=some p→ey (l++m) j=some p
 | [],m,j,p,h=>by cases h
 | a::l,m,0,p,h=>h
 | a::l,m,j+1,p,h=>o6 (l:=l) h
theorem lX: ∀{l:List Place} {j:Nat},ey l j=l[j]?
 | [],j=>by simp[ey]
 | a::l,0=>rfl
 | a::l,j+1=>by simp only[ey,lX,List.getElem?_cons_succ]
structure Ext (P:Program) (w:World) (I:Nat→Prop) (β:Nat→Option Nat) (hp:Nat→Option ak) (h h':Hand) (d:List V) (u:List (Nat × ak)):Prop where
 ds:h'.ds=h.ds++d
 upd:h'.upd=h.upd++u
 Gi: ∀q∈u,AB hp q
 pl: ∃m,h'.pl=h.pl++m
 nodup:(h.pl.map Place.id).Nodup→(h'.pl.map Place.id).Nodup
theorem Ext.refl (h:Hand):Ext P w I β hp h h [] []:=⟨by simp,by simp,by simp,⟨[],by simp⟩,id⟩
theorem Ext.trans {h1 h2 h3:Hand} {d1 d2:List V} {u1 u2:List (Nat × ak)} (a:Ext P w I β hp h1 h2 d1 u1) (b:Ext P w I β hp h2 h3 d2 u2):Ext P w I β hp h1 h3 (d1++d2) (u1++u2):=by
 obtain ⟨m1,e1⟩:=a.pl
 obtain ⟨m2,e2⟩:=b.pl
 exact ⟨by rw[b.ds,a.ds,cY],by rw[b.upd,a.upd,cY],fun q hq=>(er.1 hq).elim (a.Gi q) (b.Gi q),⟨m1++m2,by rw[e2,e1,cY]⟩,fun h=>b.nodup (a.nodup h)⟩
theorem Ext.look {h h':Hand} {d:List V} {u:List (Nat × ak)} (a:Ext P w I β hp h h' d u) {j:Nat} {p:Place} (hj:ey h.pl j=some p):ey h'.pl j=some p:=by
 obtain ⟨m,e⟩:=a.pl
 rw[e]
 exact o6 hj
theorem Ext.leaf (h:Hand) (x:V):Ext P w I β hp h {h with ds:=h.ds++[x]} [x] []:=⟨rfl,by simp,by simp,⟨[],by simp⟩,id⟩
theorem abZ {α:Type} {ρ:List Place} {j:Nat} {p:Place} {k:List Place→Rd α} {r:α} {rd:List Nat} (h:(unify ρ j p k).run C hp=some (r,rd)) (hb: ∃id,p= .blk id∨∃ver path,p= .row id ver path):
  ∃j5,(k j5).run C hp=some (r,rd)∧(∃m,j5=ρ++m)∧ey j5 j=some p∧((ρ.map Place.id).Nodup→(j5.map Place.id).Nodup):=by
 unfold unify at h
 cases hc:Nat.blt j ρ.length with
 | true=>
  rw[hc] at h
  obtain ⟨h1,h2⟩:=aQ h
  refine ⟨ρ,h2,⟨[],by simp⟩,?_,id⟩
  unfold Qn at h1
  split at h1
  ·rename_i a b he
   rw[aX] at h1
   subst h1
   exact he
  ·cases h1
 | false=>
  rw[hc] at h
  obtain ⟨h1,h2⟩:=aQ h
  simp only[aS,aX,nB] at h1
  obtain ⟨rfl,h3⟩:=h1
  refine ⟨ρ++[p],h2,⟨[p],rfl⟩,?_,fun hn=> ?_⟩
  ·rw[lX];simp
  ·rw[s8,EZ]
   refine ⟨hn,by simp,fun a ha b hb=> ?_⟩
   simp only[jw,List.map_nil,gY] at hb
   subst hb
   intro e
   subst e
   rw[xu ha] at h3
   cases h3
theorem vq {α:Type} {h:Hand} {j:Nat} {p:Place} {k:List Place→Rd α} {r:α} {rd:List Nat} (hr:(unify h.pl j p k).run C hp=some (r,rd)) (ds:List V):
  ∃j5,(k j5).run C hp=some (r,rd)∧ey j5 j=some p∧Ext P w I β hp h {h with pl:=j5,ds:=h.ds++ds} ds []:=by
 obtain ⟨j5,a,b,c,d⟩:=abZ hr (by cases p with|blk id=>exact ⟨id,.inl rfl⟩|row id ver path=>exact ⟨id,.inr ⟨ver,path,rfl⟩⟩)
 exact ⟨j5,a,c,⟨rfl,by simp,by simp,b,d⟩⟩
theorem ab0 {o:Option Nat} {blk:ak} {e:TypeId} {id j:Nat} {v:Value} (hv:an P w I β hp v (.whole e id)) (hl:en P w β hp (.blk id) o blk) (hj:hp0 j=some blk) (j6:μ j=o):an P w I' μ hp0 v (.whole e j):=by
 cases hl with
 | var h=>
  cases hv with
  | ez h2=>rw[h] at h2;cases h2
  | dY h2=>rw[h] at h2;cases h2
  | whole h2=>rw[h] at h2;cases h2
  | eH h2=>rw[h] at h2;cases h2
 | arr h=>
  cases hv with
  | ez h2=>rw[h] at h2;cases h2
  | dY h2 hb=>rw[h] at h2;cases h2;exact .dY hj (j6.trans hb)
  | whole h2 hb a b c=>rw[h] at h2;cases h2;exact .whole hj (j6.trans hb) a b c
  | eH h2=>rw[h] at h2;cases h2
 | nest h=>
  cases hv with
  | ez h2=>rw[h] at h2;cases h2
  | dY h2=>rw[h] at h2;cases h2
  | whole h2=>rw[h] at h2;cases h2
  | eH h2 hb a b c=>rw[h] at h2;cases h2;exact .eH hj (j6.trans hb) a b c
 | map h=>
  cases hv with
  | ez h2=>rw[h] at h2;cases h2
  | dY h2=>rw[h] at h2;cases h2
  | whole h2=>rw[h] at h2;cases h2
  | eH h2=>rw[h] at h2;cases h2
theorem ab1 {o:Option Nat} {blk:ak} {t:TypeId} {id j:Nat} {v:Value} (hv:an P w I β hp v (.cd t id)) (hl:en P w β hp (.blk id) o blk) (hj:hp0 j=some blk) (j6:μ j=o):an P w I' μ hp0 v (.cd t j):=by
 cases hv with
 | iE h2=>cases hl<;>(rename_i h;rw[h] at h2;cases h2)
 | cd h2 hb=>
  cases hl<;>(rename_i h;rw[h] at h2;cases h2)
  exact .cd hj (j6.trans hb)
theorem ab2 {o:Option Nat} {blk:ak} {e:TypeId} {id off n j:Nat} {v:Value} (hv:an P w I β hp v (.sub e id off n)) (hl:en P w β hp (.blk id) o blk) (hj:hp0 j=some blk) (j6:μ j=o):an P w I' μ hp0 v (.sub e j off n):=by
 cases hl with
 | var h=>
  cases hv with
  | gH h2=>rw[h] at h2;cases h2
  | gp h2=>rw[h] at h2;cases h2
  | sub h2=>rw[h] at h2;cases h2
 | arr h=>
  cases hv with
  | gH h2=>rw[h] at h2;cases h2
  | gp h2 hb=>rw[h] at h2;cases h2;exact .gp hj (j6.trans hb)
  | sub h2 hb a b c=>rw[h] at h2;cases h2;exact .sub hj (j6.trans hb) a b c
 | nest h=>
  cases hv with
  | gH h2=>rw[h] at h2;cases h2
  | gp h2=>rw[h] at h2;cases h2
  | sub h2=>rw[h] at h2;cases h2
 | map h=>
  cases hv with
  | gH h2=>rw[h] at h2;cases h2
  | gp h2=>rw[h] at h2;cases h2
  | sub h2=>rw[h] at h2;cases h2
theorem RN {o:Option Nat} {blk:ak} {id i c j:Nat} {v:Value} (hv:an P w I β hp v (.ptr id i c)) (hl:en P w β hp (.blk id) o blk) (hj:hp0 j=some blk) (j6:μ j=o):an P w I' μ hp0 v (.ptr j i c):=by
 cases hl with
 | @var _ T0 cs K3 h=>
  obtain ⟨b,hb,rfl⟩:=hv.ic h (by simp)
  exact an.ptr (blk:= .var T0 K3) hj (by simp) (j6.trans hb)
 | @arr _ e es h=>
  obtain ⟨b,hb,rfl⟩:=hv.ic h (by simp)
  exact an.ptr (blk:= .arr e es false) hj (by simp) (j6.trans hb)
 | @nest _ e es aq h=>
  obtain ⟨b,hb,rfl⟩:=hv.ic h (by simp)
  exact an.ptr (blk:= .nest e es [0,0,0]) hj (by simp) (j6.trans hb)
 | @map _ t es h=>
  obtain ⟨b,hb,rfl⟩:=hv.ic h (by simp)
  exact an.ptr (blk:= .map t es) hj (by simp) (j6.trans hb)
theorem ab3 (cK: ∀id blk,hp id=some blk→ej P w I β hp (β id) blk) {id b i c:Nat} {e0 t:TypeId} {es l:List V} {aq:List Nat} {q:Path} {e:TypeId} {v:Value} (aa:hp id=some (.nest e0 es aq)) (hb:β id=some b)
  (ht:P.underlying t=some (.slice e)) (hc:mH P w b e0 es q i c t v (.list e l)) (hl:0<l.length): ∃b1 cap,v= .slice (some ⟨b1,0,none⟩) l.length cap∧cap*P.cellsOf e=bsize w b1∧l.length≤cap∧cap≤maxLen∧At P w b e0 es (q++[(i,c)]) b1 e l:=by
 obtain ⟨b2,e1,m,Ca,T,f,x,n1,n2,n3,n4,n5,n6⟩:=hc
 have hr:=cK _ _ aa
 cases hr with
 | nest aH hr hn=>
  rw[hb] at aH;cases aH
  have hR:=hr _ _ _ _ n1
  obtain ⟨AG,c1,c2,c3⟩:=hR.cells
  rw[n2] at c1
  cases c1
  have u5:c<P.cellsOf e1:=by rw[←fU hR.ok];exact (bA.1 n4).1
  obtain ⟨v',d1,d2⟩:=c3 i c x t n3 n4 u5
  rw[n6] at d1
  cases d1
  rw[n5] at d2
  generalize hy:V.list e l=y at d2
  cases d2 with
  | gn a p=>unfold gj at a;rw[ht] at a;cases a
  | emp hu ha=>cases hy;simp at hl
  | row hu mJ ba cp oV=>
   cases hy
   exact ⟨_,_,rfl,ba,cp,oV,n1.snoc n2 n3 n4 ht n5 mJ n6⟩
theorem ab4 (S:aP P w I β hp B M w0) {o:Option Nat} {blk:ak} {e:TypeId} {id ver j:Nat} {path:Path} {v:Value} (hv:an P w I β hp v (.row e id ver path)) (hl:en P w β hp (.row id ver path) o blk) (hj:hp0 j=some blk) (j6:μ j=o):an P w I' μ hp0 v (.whole e j):=by
 cases hl with
 | row h hb ha hf h1 h2 h3 h4=>
  obtain ⟨b2,q,i,c,t,l2,rfl,ia,ht,hc⟩:=hv.Qu h h1 h2 h3
  rw[hb] at ia;cases ia
  obtain ⟨p1,p2⟩:=J6 ha
  have ja:=hc
  obtain ⟨b3,e3,m3,Ca,T,f,x,n1,n2,n3,n4,n5,n6⟩:=ja
  obtain ⟨q1,q2⟩:=Fy n1 n3 n4 ht n5
  rw[p1] at q1
  rw[p2] at q2
  cases q1
  cases q2
  obtain ⟨b1,cap,rfl,m1,m2,m4,m5⟩:=ab3 S.h.rel h hb ht hc h4
  have:=ab5 ha m5
  subst this
  exact .whole hj j6 m1 m2 m4
where
 ab5 {b b1 b2:Nat} {e e1 e2:TypeId} {es l l2:List V} {q:Path} (h:At P w b e es q b1 e1 l) (h2:At P w b e es q b2 e2 l2):b2=b1:=(h.fun h2).1
theorem RO (S:aP P w I β hp B M w0) {α:Type} {l:LS} {x:V} {h:Hand} {k:Hand→Rd α} {r:α} {rd:List Nat} {v:Value} (hr:(Fk P l x h k).run C hp=some (r,rd)) (hv:an P w I β hp v x):
  ∃h' fk d u,(k h').run C hp=some (r,fk)∧Ext P w I β hp h h' d u∧d.length=l.size∧
   ∀(I':Nat→Prop) (μ:Nat→Option Nat) (hp0:Nat→Option ak),(∀b,I b→I' b)→(∀q∈u,∀b,tz P w β hp q.1 b→I' b)→∀ρ m,ρ=h'.pl++m→Be P w β hp ρ μ hp0→∀rest,an P w I' μ hp0 v (iW l (d++rest)):=by
 have plain: ∀{x':V} {jH:List Nat},(k {h with ds:=h.ds++[x']}).run C hp=some (r,jH)→l.size=1→(∀I' μ hp0 rest,an P w I' μ hp0 v (iW l ([x']++rest)))→∃h' fk d u,(k h').run C hp=some (r,fk)∧Ext P w I β hp h h' d u∧d.length=l.size∧
   ∀(I':Nat→Prop) (μ:Nat→Option Nat) (hp0:Nat→Option ak),(∀b,I b→I' b)→(∀q∈u,∀b,tz P w β hp q.1 b→I' b)→∀ρ m,ρ=h'.pl++m→Be P w β hp ρ μ hp0→∀rest,an P w I' μ hp0 v (iW l (d++rest)):=
  fun hk hs hx=>⟨_,_,_,_,hk,Ext.leaf h _,hs.symm,fun I' μ hp0 _ _ _ _ _ _ rest=>hx I' μ hp0 rest⟩
 have qc: ∀{jH:List Nat},(k h).run C hp=some (r,jH)→l.size=0→(∀I' μ hp0 rest,an P w I' μ hp0 v (iW l rest))→∃h' fk d u,(k h').run C hp=some (r,fk)∧Ext P w I β hp h h' d u∧d.length=l.size∧
   ∀(I':Nat→Prop) (μ:Nat→Option Nat) (hp0:Nat→Option ak),(∀b,I b→I' b)→(∀q∈u,∀b,tz P w β hp q.1 b→I' b)→∀ρ m,ρ=h'.pl++m→Be P w β hp ρ μ hp0→∀rest,an P w I' μ hp0 v (iW l (d++rest)):=
  fun hk hs hx=>⟨_,_,_,_,hk,Ext.refl h,by simp[hs],fun I' μ hp0 _ _ _ _ _ _ rest=>hx I' μ hp0 rest⟩
 unfold Fk at hr
 cases l with
 | td=>exact qc hr rfl fun _ _ _ _=> .undef
 | int kd=>
  cases x<;>simp only at hr<;>first|(cases hr;done)|skip
  obtain ⟨h1,h2⟩:=aQ hr
  simp only[dv] at h1
  subst h1
  obtain rfl:=hv.eI
  exact plain h2 rfl fun _ _ _ _=> .int
 | bool=>
  cases x<;>simp only at hr<;>first|(cases hr;done)|skip
  obtain rfl:=hv.jX
  exact plain hr rfl fun _ _ _ _=> .bool
 | str=>
  cases x<;>simp only at hr<;>first|(cases hr;done)|skip
  obtain ⟨s,rfl,hl⟩:=hv.mM
  exact plain hr rfl fun _ _ _ _=> .str hl
 | nilS e=>
  cases x<;>simp only at hr<;>first|(cases hr;done)|skip
  obtain ⟨h1,h2⟩:=aQ hr
  cases hv with
  | nilS=>exact qc h2 rfl fun _ _ _ _=> .nilS
 | dF=>
  cases x<;>simp only at hr<;>first|(cases hr;done)|skip
  cases hv with
  | dF=>exact qc hr rfl fun _ _ _ _=> .dF
 | row e j cs=>
  cases x<;>simp only at hr<;>first|(cases hr;done)|skip
  rename_i e' id ver path
  obtain ⟨e0,es,aq,l0,aa,p1,p2,p3,hr⟩:=oU hr
  obtain ⟨h1,h2⟩:=aQ hr
  simp only[aS,aX,eL] at h1
  obtain ⟨rfl,oX,hp3⟩:=h1
  have:=xK oX
  subst this
  obtain ⟨j5,a,b,c⟩:=vq (P:=P) (w:=w) (I:=I) (β:=β) h2 (path.map fun p=>ew p.1)
  refine ⟨_,_,path.map fun p=>ew p.1,[],a,c,by simp[LS.size],fun I' μ hp0 i1 i2 ρ m dL dd rest=> ?_⟩
  obtain ⟨blk,k1,k2⟩:=dd j _ (by rw[dL];exact o6 b)
  obtain ⟨bb,q,i,cc,t,l,rfl,hb,ht,hc⟩:=hv.Qu aa p1 p2 p3
  have rq:blk= .nest e0 es [0,0,0]∧μ j=β id:=by
   generalize μ j=o at k2
   cases k2 with
   | var h=>rw[aa] at h;cases h
   | arr h=>rw[aa] at h;cases h
   | map h=>rw[aa] at h;cases h
   | nest h=>rw[aa] at h;cases h;exact ⟨rfl,rfl⟩
  obtain ⟨rfl,j6⟩:=rq
  simp only[iW,Gg]
  have hq:q.length<3:=by rw[dD,List.length_singleton] at hp3;omega
  refine .row k1 (j6.trans hb) (by simpa using hq) ?_ ht hc
  match q.length,hq with
  | 0,_=>rfl
  | 1,_=>rfl
  | 2,_=>rfl
 | cI j cs c=>cases hr
 | w4 k n=>cases hr
 | dG t=>
  cases x<;>simp only at hr<;>first|(cases hr;done)|skip
  obtain ⟨h1,h2⟩:=aQ hr
  cases hv with
  | dG=>exact qc h2 rfl fun _ _ _ _=> .dG
 | cd t j=>
  cases x<;>simp only at hr<;>first|(cases hr;done)|skip
  rename_i t' id
  obtain ⟨h1,h2⟩:=aQ hr
  rw[aX] at h1
  subst h1
  obtain ⟨j5,a,b,c⟩:=vq (P:=P) (w:=w) (I:=I) (β:=β) h2 []
  refine ⟨_,_,[],[],a,by simpa using c,rfl,fun I' μ hp0 i1 i2 ρ m dL dd rest=> ?_⟩
  obtain ⟨blk,k1,k2⟩:=dd j _ (by rw[dL];exact o6 b)
  exact ab1 hv k2 k1 rfl
 | list e=>
  obtain ⟨⟨y,u⟩,l1,l2,h1,h2⟩:=lh hr
  cases y<;>simp only at h2<;>first|(cases h2;done)|skip
  rename_i e' es
  obtain ⟨h3,h4⟩:=aQ h2
  rw[aX] at h3
  subst h3
  obtain ⟨p1,p2⟩:=Fz S.h.rel h1 hv
  exact ⟨_,_,[.list e es],u,h4,⟨rfl,rfl,p1,⟨[],by simp⟩,id⟩,rfl,fun I' μ hp0 i1 i2 _ _ _ _ rest=> .list (p2 I' i1 i2)⟩
 | whole e j=>
  cases x<;>simp only at hr<;>first|(cases hr;done)|skip
  ·rename_i e' id
   obtain ⟨h1,h2⟩:=aQ hr
   rw[aX] at h1
   subst h1
   obtain ⟨j5,a,b,c⟩:=vq (P:=P) (w:=w) (I:=I) (β:=β) h2 []
   refine ⟨_,_,[],[],a,by simpa using c,rfl,fun I' μ hp0 i1 i2 ρ m dL dd rest=> ?_⟩
   obtain ⟨blk,k1,k2⟩:=dd j _ (by rw[dL];exact o6 b)
   exact ab0 hv k2 k1 rfl
  ·rename_i e' id ver path
   obtain ⟨h1,h2⟩:=aQ hr
   rw[aX] at h1
   subst h1
   obtain ⟨j5,a,b,c⟩:=vq (P:=P) (w:=w) (I:=I) (β:=β) h2 []
   refine ⟨_,_,[],[],a,by simpa using c,rfl,fun I' μ hp0 i1 i2 ρ m dL dd rest=> ?_⟩
   obtain ⟨blk,k1,k2⟩:=dd j _ (by rw[dL];exact o6 b)
   exact ab4 S hv k2 k1 rfl
 | sub e j=>
  cases x<;>simp only at hr<;>first|(cases hr;done)|skip
  rename_i e' id o n
  obtain ⟨h1,h2⟩:=aQ hr
  rw[aX] at h1
  subst h1
  obtain ⟨j5,a,b,c⟩:=vq (P:=P) (w:=w) (I:=I) (β:=β) h2 [ew o,ew n]
  refine ⟨_,_,[ew o,ew n],[],a,c,rfl,fun I' μ hp0 i1 i2 ρ m dL dd rest=> ?_⟩
  obtain ⟨blk,k1,k2⟩:=dd j _ (by rw[dL];exact o6 b)
  simpa[iW,V.nth] using ab2 (I':=I') hv k2 k1 rfl
 | ptr j=>
  cases x<;>simp only at hr<;>first|(cases hr;done)|skip
  rename_i id i c
  obtain ⟨j5,a,b,c'⟩:=vq (P:=P) (w:=w) (I:=I) (β:=β) hr [ew i,ew c]
  refine ⟨_,_,[ew i,ew c],[],a,c',rfl,fun I' μ hp0 i1 i2 ρ m dL dd rest=> ?_⟩
  obtain ⟨blk,k1,k2⟩:=dd j _ (by rw[dL];exact o6 b)
  simpa[iW,V.nth] using RN (I':=I') hv k2 k1 rfl
 | ei j i c=>
  cases x<;>simp only at hr<;>first|(cases hr;done)|skip
  rename_i id i' c'
  obtain ⟨h1,h2⟩:=aQ hr
  simp only[aS,aX] at h1
  obtain ⟨rfl,rfl⟩:=h1
  obtain ⟨j5,a,b,c'⟩:=vq (P:=P) (w:=w) (I:=I) (β:=β) h2 []
  refine ⟨_,_,[],[],a,by simpa using c',rfl,fun I' μ hp0 i1 i2 ρ m dL dd rest=> ?_⟩
  obtain ⟨blk,k1,k2⟩:=dd j _ (by rw[dL];exact o6 b)
  exact RN hv k2 k1 rfl
end
section
variable {P:Program} {A:cJ} {w w':World} {I I' I2:Nat→Prop} {μ β au:Nat→Option Nat} {hp hp' hp0:Nat→Option ak} {C:ae} {B:Nat} {M:Nat→Prop} {w0:Start}
def mV (P:Program) (w:World) (I:Nat→Prop) (β:Nat→Option Nat) (hp:Nat→Option ak) (h':Hand) (u:List (Nat × ak)) (K:(Nat→Prop)→(Nat→Option Nat)→(Nat→Option ak)→Prop):Prop:=
 ∀(I':Nat→Prop) (μ:Nat→Option Nat) (hp0:Nat→Option ak),(∀b,I b→I' b)→(∀q∈u,∀b,tz P w β hp q.1 b→I' b)→∀ρ m,ρ=h'.pl++m→Be P w β hp ρ μ hp0→K I' μ hp0
theorem mV.later {h h':Hand} {d:List V} {u u':List (Nat × ak)} {K:(Nat→Prop)→(Nat→Option Nat)→(Nat→Option ak)→Prop} (t:mV P w I β hp h u K) (e:Ext P w I β hp h h' d u'):mV P w I β hp h' (u++u') K:=by
 obtain ⟨m1,e1⟩:=e.pl
 exact fun I' μ hp0 i1 i2 ρ m dL dd=>t I' μ hp0 i1 (fun q hq=>i2 q (er.2 (.inl hq))) ρ (m1++m) (by rw[dL,e1,cY]) dd
theorem mV.more {h:Hand} {u u':List (Nat × ak)} {K:(Nat→Prop)→(Nat→Option Nat)→(Nat→Option ak)→Prop} (t:mV P w I β hp h u K):mV P w I β hp h (u'++u) K:=
 fun I' μ hp0 i1 i2 ρ m dL dd=>t I' μ hp0 i1 (fun q hq=>i2 q (er.2 (.inr hq))) ρ m dL dd
theorem Gj (S:aP P w I β hp B M w0) {α:Type}: ∀{ls:List LS} {xs:List V} {h:Hand} {k:Hand→Rd α} {r:α} {rd:List Nat} {vs:List Value},(xd P ls xs h k).run C hp=some (r,rd)→vs.length=xs.length→
  (∀(j:Nat) v x,vs[j]? =some v→xs[j]? =some x→an P w I β hp v x)→
  ∃h' fk d u,(k h').run C hp=some (r,fk)∧Ext P w I β hp h h' d u∧d.length=kE ls∧ls.length=xs.length∧
   mV P w I β hp h' u fun I' μ hp0=> ∀rest,(iw ls (d++rest)).length=xs.length∧∀(j:Nat) v y,vs[j]? =some v→(iw ls (d++rest))[j]? =some y→an P w I' μ hp0 v y
 | [],[],h,k,r,rd,vs,hr,hl,hv=>⟨h,rd,[],[],hr,Ext.refl h,rfl,rfl,fun I' μ hp0 _ _ _ _ _ _ rest=>⟨rfl,fun j v y _ hy=>by simp[iw] at hy⟩⟩
 | [],_::_,h,k,r,rd,vs,hr,hl,hv=>by cases hr
 | _::_,[],h,k,r,rd,vs,hr,hl,hv=>by cases hr
 | l::ls,x::xs,h,k,r,rd,vs,hr,hl,hv=>by
  cases vs with
  | nil=>simp at hl
  | cons v vs=>
   simp only[xd] at hr
   obtain ⟨h1,jH,d1,u1,a1,a2,a3,a4⟩:=RO S hr (hv 0 v x rfl rfl)
   obtain ⟨h2,tJ,d2,u2,b1,b2,b3,b5,b4⟩:=Gj S a1 (by simpa using hl) (vs:=vs) (fun j v x hj hx=>hv (j+1) v x (by simpa using hj) (by simpa using hx))
   have a4':mV P w I β hp h1 u1 fun I' μ hp0=> ∀rest,an P w I' μ hp0 v (iW l (d1++rest)):=a4
   refine ⟨h2,tJ,d1++d2,u1++u2,b1,a2.trans b2,by simp only[dD,kE];omega,by simp[b5],fun I' μ hp0 i1 i2 ρ m dL dd rest=> ?_⟩
   have k1:=(a4'.later b2) I' μ hp0 i1 i2 ρ m dL dd (d2++rest)
   obtain ⟨k2,k3⟩:=b4.more I' μ hp0 i1 i2 ρ m dL dd rest
   simp only[iw]
   rw[show (d1++d2++rest).drop l.size=d2++rest by rw[cY];exact n9 a3,cY]
   refine ⟨by simp[k2],fun j v' y hj hy=> ?_⟩
   cases j with
   | zero=>simp at hj hy;subst hj;subst hy;exact k1
   | succ j=>exact k3 j v' y (by simpa using hj) (by simpa using hy)
theorem ab6 (S:aP P w I β hp B M w0) {α:Type} {s:VS} {x:V} {h:Hand} {k:Hand→Rd α} {r:α} {rd:List Nat} {v:Value} (hr:(Ak P s x h k).run C hp=some (r,rd)) (hv:an P w I β hp v x):
  ∃h' fk d u,(k h').run C hp=some (r,fk)∧Ext P w I β hp h h' d u∧d.length=s.size∧
   mV P w I β hp h' u fun I' μ hp0=> ∀rest,an P w I' μ hp0 v (ld s (d++rest)):=by
 cases s with
 | one l=>
  simp only[Ak] at hr
  obtain ⟨h1,jH,d1,u1,a1,a2,a3,a4⟩:=RO S hr hv
  exact ⟨h1,jH,d1,u1,a1,a2,a3,a4⟩
 | agg ls=>
  cases x<;>simp only[Ak] at hr<;>first|(cases hr;done)|skip
  rename_i xs
  obtain ⟨cs,rfl,e1,e2⟩:=hv.lj
  obtain ⟨h1,jH,d1,u1,a1,a2,a3,a5,a4⟩:=Gj S hr (vs:=cs.toList) (by simpa using e1) (fun j v x hj hx=>e2 j v x (by simpa using hj) hx)
  refine ⟨h1,jH,d1,u1,a1,a2,a3,fun I' μ hp0 i1 i2 ρ m dL dd rest=> ?_⟩
  obtain ⟨k1,k2⟩:=a4 I' μ hp0 i1 i2 ρ m dL dd rest
  exact .agg (by rw[k1];exact e1) fun j v y hj hy=>k2 j v y (by simpa using hj) hy
 | bm ls=>cases x<;>cases hr
 | pref ts ls=>cases x<;>cases hr
 | fn f a b=>
  cases x<;>simp only[Ak] at hr<;>first|(cases hr;done)|skip
  rename_i f' xs ys
  obtain ⟨hc,o7⟩:=aQ hr
  clear hr
  rw[aX] at hc
  subst hc
  cases hv with
  | @fn _ fs cs _ _ q1 q2 q3 q4=>
   obtain ⟨h1,jH,d1,u1,a1,a2,a3,a5,a4⟩:=Gj S o7 (vs:=fs.toList) (by simpa using q1) (fun j v x hj hx=>q2 j v x (by simpa using hj) hx)
   obtain ⟨h2,tJ,d2,u2,b1,b2,b3,b5,b4⟩:=Gj S a1 (vs:=cs.toList) (by simpa using q3) (fun j v x hj hx=>q4 j v x (by simpa using hj) hx)
   refine ⟨h2,tJ,d1++d2,u1++u2,b1,a2.trans b2,by simp only[dD,VS.size];omega,fun I' μ hp0 i1 i2 ρ m dL dd rest=> ?_⟩
   obtain ⟨k1,k2⟩:=(a4.later b2) I' μ hp0 i1 i2 ρ m dL dd (d2++rest)
   obtain ⟨k3,k4⟩:=b4.more I' μ hp0 i1 i2 ρ m dL dd rest
   simp only[ld]
   rw[show (d1++d2++rest).drop (kE a)=d2++rest by rw[cY];exact n9 a3,cY]
   exact .fn (by rw[k1];exact q1) (fun j v y hj hy=>k2 j v y (by simpa using hj) hy) (by rw[k3];exact q3) (fun j v y hj hy=>k4 j v y (by simpa using hj) hy)
theorem K4 (S:aP P w I β hp B M w0) {α:Type}: ∀{ls:List VS} {xs:List V} {h:Hand} {k:Hand→Rd α} {r:α} {rd:List Nat} {vs:List Value},(Al P ls xs h k).run C hp=some (r,rd)→vs.length=xs.length→
  (∀(j:Nat) v x,vs[j]? =some v→xs[j]? =some x→an P w I β hp v x)→
  ∃h' fk d u,(k h').run C hp=some (r,fk)∧Ext P w I β hp h h' d u∧d.length=tp ls∧ls.length=xs.length∧
   mV P w I β hp h' u fun I' μ hp0=> ∀rest,(fR ls (d++rest)).length=xs.length∧∀(j:Nat) v y,vs[j]? =some v→(fR ls (d++rest))[j]? =some y→an P w I' μ hp0 v y
 | [],[],h,k,r,rd,vs,hr,hl,hv=>⟨h,rd,[],[],hr,Ext.refl h,rfl,rfl,fun I' μ hp0 _ _ _ _ _ _ rest=>⟨rfl,fun j v y _ hy=>by simp[fR] at hy⟩⟩
 | [],_::_,h,k,r,rd,vs,hr,hl,hv=>by cases hr
 | _::_,[],h,k,r,rd,vs,hr,hl,hv=>by cases hr
 | l::ls,x::xs,h,k,r,rd,vs,hr,hl,hv=>by
  cases vs with
  | nil=>simp at hl
  | cons v vs=>
   simp only[Al] at hr
   obtain ⟨h1,jH,d1,u1,a1,a2,a3,a4⟩:=ab6 S hr (hv 0 v x rfl rfl)
   obtain ⟨h2,tJ,d2,u2,b1,b2,b3,b5,b4⟩:=K4 S a1 (by simpa using hl) (vs:=vs) (fun j v x hj hx=>hv (j+1) v x (by simpa using hj) (by simpa using hx))
   refine ⟨h2,tJ,d1++d2,u1++u2,b1,a2.trans b2,by simp only[dD,tp];omega,by simp[b5],fun I' μ hp0 i1 i2 ρ m dL dd rest=> ?_⟩
   have k1:=(a4.later b2) I' μ hp0 i1 i2 ρ m dL dd (d2++rest)
   obtain ⟨k2,k3⟩:=b4.more I' μ hp0 i1 i2 ρ m dL dd rest
   simp only[fR]
   rw[show (d1++d2++rest).drop l.size=d2++rest by rw[cY];exact n9 a3,cY]
   refine ⟨by simp[k2],fun j v' y hj hy=> ?_⟩
   cases j with
   | zero=>simp at hj hy;subst hj;subst hy;exact k1
   | succ j=>exact k3 j v' y (by simpa using hj) (by simpa using hy)
def Gk:List BS→Nat
 | []=>0
 | b::l=>b.size+Gk l
theorem RP: ∀{b:Nat} {e e':TypeId} {es:List V} {v:V},(∀q b' e' m,At P w b e es q b' e' m→jD P w I b' e' m)→∀(path:Path),kC P e path=some e'→iU P e es path=some v→0<v.toList.length→
  ∃b1,At P w b e es path b1 e' v.toList
 | b,e,e',es,v,cA,[],ht,hv,hl=>by
  simp only[kC,dO] at ht
  simp only[iU,dO] at hv
  subst ht;subst hv
  exact ⟨b,.here⟩
 | b,e,e',es,v,cA,(i,c)::q,ht,hv,hl=>by
  simp only[kC] at ht
  simp only[iU] at hv
  obtain ⟨x,hx,hv⟩:=bind_some hv
  cases K5:(kC.Ab P e)[c]? with
  | none=>rw[K5] at ht;cases ht
  | some t=>
   rw[K5] at ht
   simp only at ht
   have Gl:(a9 P e)[c]? =some t:=K5
   cases hu:P.underlying t with
   | none=>rw[hu] at ht;cases ht
   | some d=>
    rw[hu] at ht
    cases d<;>simp only at ht<;>first|(cases ht;done)|skip
    rename_i e1
    rw[nP Gl] at hv
    have hR:=cA _ _ _ _ .here
    obtain ⟨Ca,c1,c2,c3⟩:=hR.cells
    have u5:c<P.cellsOf e:=by rw[←fU hR.ok];exact (bA.1 Gl).1
    obtain ⟨u,d1,d2⟩:=c3 i c x t hx Gl u5
    rw[d2.tB] at hv
    generalize hy:bS P e x c=y at d2 hv
    cases d2 with
    | gn a p=>unfold gj at a;rw[hu] at a;cases a
    | @emp e2 a cap qd ha=>
     rw[hu] at qd;cases qd
     simp only at hv
     cases q with
     | nil=>simp only[iU,dO] at hv;subst hv;simp[V.toList] at hl
     | cons a q=>simp[iU] at hv
    | @row e2 cm b2 cap qd mJ ba cp oV=>
     rw[hu] at qd;cases qd
     simp only at hv
     have mL: ∀{q b' e' aT},At P w b2 e1 cm q b' e' aT→At P w b e es ((i,c)::q) b' e' aT:=fun h=> .step c1 hx Gl hu hy mJ d1 h
     obtain ⟨b1,jZ⟩:=RP (fun q b' e' m h=>cA _ _ _ _ (mL h)) q ht hv hl
     exact ⟨b1,mL jZ⟩
theorem RQ (S:aP P w I β hp B M w0) {α:Type}: ∀{bs:List BS} {j:Nat} {h:Hand} {k:Hand→Rd α} {r:α} {rd:List Nat},(qY P bs j h k).run C hp=some (r,rd)→
  ∃h' fk d u,(k h').run C hp=some (r,fk)∧Ext P w I β hp h h' d u∧d.length=Gk bs∧
   ∀rest,(eX bs (d++rest)).length=bs.length∧∃o:Nat→Option Nat,
    (∀(i:Nat) blk,(eX bs (d++rest))[i]? =some blk→∃p,ey h'.pl (j+i)=some p∧en P w β hp p (o i) blk)∧
    mV P w I β hp h' u fun I' μ hp0=> ∀(i:Nat) blk,(eX bs (d++rest))[i]? =some blk→(∀b,bG P w (o i) blk b→¬I' b)→ej P w I' μ hp0 (o i) blk
 | [],j,h,k,r,rd,hr=>⟨h,rd,[],[],hr,Ext.refl h,rfl,fun rest=>⟨rfl,fun _=>none,fun i blk hb=>by simp[eX] at hb,fun I' μ hp0 _ _ _ _ _ _ i blk hb=>by simp[eX] at hb⟩⟩
 | b::bs,j,h,k,r,rd,hr=>by
  simp only[qY] at hr
  have fin: ∀{h1:Hand} {jH:List Nat} {d1:List V} {u1:List (Nat × ak)} {o1:Option Nat} {p:Place},(qY P bs (j+1) h1 k).run C hp=some (r,jH)→Ext P w I β hp h h1 d1 u1→d1.length=b.size→ey h.pl j=some p→
    (∀rest,en P w β hp p o1 (gk b (d1++rest)))→(∀rest,mV P w I β hp h1 u1 fun I' μ hp0=>(∀bb,bG P w o1 (gk b (d1++rest)) bb→¬I' bb)→ej P w I' μ hp0 o1 (gk b (d1++rest)))→
    ∃h' fk d u,(k h').run C hp=some (r,fk)∧Ext P w I β hp h h' d u∧d.length=Gk (b::bs)∧
     ∀rest,(eX (b::bs) (d++rest)).length=(b::bs).length∧∃o:Nat→Option Nat,
      (∀(i:Nat) blk,(eX (b::bs) (d++rest))[i]? =some blk→∃p,ey h'.pl (j+i)=some p∧en P w β hp p (o i) blk)∧
      mV P w I β hp h' u fun I' μ hp0=> ∀(i:Nat) blk,(eX (b::bs) (d++rest))[i]? =some blk→(∀b,bG P w (o i) blk b→¬I' b)→ej P w I' μ hp0 (o i) blk:=by
   intro h1 jH d1 u1 o1 p hk he hd bB hl ht
   obtain ⟨h2,tJ,d2,u2,b1,b2,b3,b4⟩:=RQ S hk
   refine ⟨h2,tJ,d1++d2,u1++u2,b1,he.trans b2,by simp only[dD,Gk];omega,fun rest=> ?_⟩
   obtain ⟨c1,o,c2,c3⟩:=b4 rest
   simp only[eX]
   rw[show (d1++d2++rest).drop b.size=d2++rest by rw[cY];exact n9 hd,cY]
   refine ⟨by simp[c1],fun i=>match i with|0=>o1|i+1=>o i,fun i blk hb=> ?_,fun I' μ hp0 i1 i2 ρ m dL dd i blk hb cO=> ?_⟩
   ·cases i with
    | zero=>
     simp at hb
     subst hb
     exact ⟨p,b2.look (he.look bB),hl _⟩
    | succ i=>
     obtain ⟨q,e1,e2⟩:=c2 i blk (by simpa using hb)
     exact ⟨q,by rw[show j+(i+1)=j+1+i by omega];exact e1,e2⟩
   ·cases i with
    | zero=>
     simp at hb
     subst hb
     exact ((ht _).later b2) I' μ hp0 i1 i2 ρ m dL dd cO
    | succ i=>exact c3.more I' μ hp0 i1 i2 ρ m dL dd i blk (by simpa using hb) cO
  cases bB:ey h.pl j with
  | none=>rw[bB] at hr;cases hr
  | some p=>
   rw[bB] at hr
   cases p with
   | blk id=>
    obtain ⟨l1,hr⟩:=run_get hr
    cases aa:hp id with
    | none=>rw[aa] at hr;cases hr
    | some blk=>
     rw[aa] at hr
     cases blk with
     | dead=>cases hr
     | var T0 cs=>
      cases b<;>simp only at hr<;>first|(cases hr;done)|skip
      rename_i T1 ss
      obtain ⟨hT,hr1⟩:=aQ hr
      clear hr
      rw[aX] at hT
      subst hT
      have cK:=S.h.rel id _ aa
      generalize ho:β id=o at cK
      cases cK with
      | @var _ bb Ca T hb hh hs hI hx gJ=>
       obtain ⟨h1,jH,d1,u1,a1,a2,a3,a5,a4⟩:=K4 S hr1 (vs:=Ca.toList) (by simpa using hs) (fun j v x hj cD=>hx j v x (by simpa using hj) cD)
       refine fin (o1:=β id) a1 a2 a3 bB (fun rest=> .var aa) fun rest I' μ hp0 i1 i2 ρ m dL dd cO=> ?_
       obtain ⟨k1,k2⟩:=a4 I' μ hp0 i1 i2 ρ m dL dd rest
       exact .var (ho.trans hb) hh (by rw[k1];exact hs) (cO _ (.root (by simp[gk]) (ho.trans hb))) (fun i v y hi hy=>k2 i v y (by simpa using hi) hy) gJ
     | arr e' es fz=>
      cases fz with
      | true=>cases hr
      | false=>
       cases b with
       | arr e fz=>
        cases fz with
        | true=>cases hr
        | false=>
         obtain ⟨hc,o7⟩:=aQ hr
         clear hr
         rw[aX] at hc
         subst hc
         refine fin (d1:=[.list e es]) (o1:=β id) o7 (Ext.leaf h _) rfl bB (fun rest=>en.arr aa) fun rest I' μ hp0 i1 i2 ρ m dL dd cO=> ?_
         change ej P w I' μ hp0 (β id) (.arr e es false)
         have cK:=S.h.rel id _ aa
         generalize ho:β id=o at cK cO⊢
         cases cK with
         | dZ hb=>exact .dZ hb
         | arr a1 a2 a3 a4 a5 a6 a7=>
          refine .arr a1 a2 a3 a4 (fun h=>by cases h) (fun _=>cO _ (.root (by simp[gk]) a2)) fun i j x t' y1 y2 y3=> ?_
          obtain ⟨v,z1,z2⟩:=a7 i j x t' y1 y2 y3
          exact ⟨v,z1,z2.mono i1 fun _ _=>rfl⟩
       | _=>cases hr
     | nest e' es aq=>
      cases b with
      | nest e=>
       obtain ⟨hc,o7⟩:=aQ hr
       clear hr
       rw[aX] at hc
       subst hc
       refine fin (d1:=[.list e es]) (o1:=β id) o7 (Ext.leaf h _) rfl bB (fun rest=>en.nest aa) fun rest I' μ hp0 i1 i2 ρ m dL dd cO=> ?_
       have RR: ∀bb,bG P w (β id) (.nest e es [0,0,0]) bb→¬I' bb:=cO
       change ej P w I' μ hp0 (β id) (.nest e es [0,0,0])
       have cK:=S.h.rel id _ aa
       generalize ho:β id=o at cK RR⊢
       cases cK with
       | nest hb cA oY=>
        refine .nest hb (fun q b' e1 m1 hq=> ?_) oY
        obtain ⟨ok,⟨Ca,c1,c2,c3⟩,nI⟩:=cA q b' e1 m1 hq
        refine ⟨ok,⟨Ca,c1,c2,fun i j x t' y1 y2 y3=> ?_⟩,RR _ (.row hb hq)⟩
        obtain ⟨v,z1,z2⟩:=c3 i j x t' y1 y2 y3
        exact ⟨v,z1,z2.mono i1 (fun _ _=>rfl) fun _ _ _ _ _=>rfl⟩
      | _=>cases hr
     | map t' es=>
      cases b with
      | map t=>
       obtain ⟨hc,o7⟩:=aQ hr
       clear hr
       rw[aX] at hc
       subst hc
       refine fin (d1:=[.list t es]) (o1:=β id) o7 (Ext.leaf h _) rfl bB (fun rest=>en.map aa) fun rest I' μ hp0 i1 i2 ρ m dL dd cO=> ?_
       change ej P w I' μ hp0 (β id) (.map t es)
       have cK:=S.h.rel id _ aa
       generalize ho:β id=o at cK cO⊢
       cases cK with
       | map a1 a2 a3 a4 a5 a6 a7=>exact .map a1 a2 a3 a4 (cO _ (.root (by simp[gk]) a2)) a6 a7
      | _=>cases hr
   | row id ver path=>
    obtain ⟨e0,es,aq,l1,k1,k2,k3,k4,k5⟩:=oU hr
    obtain ⟨e',vv,m1,m2,m3⟩:=xl k5
    cases b with
    | arr e fz=>
     cases fz with
     | true=>cases m3
     | false=>
      obtain ⟨hc,m4⟩:=aQ m3
      clear m3
      simp only[aS,aX,ku] at hc
      obtain ⟨rfl,Bf,mJ⟩:=hc
      have cK:=S.h.rel id _ k1
      cases hb:β id with
      | none=>
       rw[hb] at cK
       cases cK with
       | nest aH _ _=>cases aH
      | some b0=>
       rw[hb] at cK
       cases cK with
       | nest aH cA oY=>
        cases aH
        obtain ⟨b1,dx⟩:=RP cA path m1 m2 mJ
        refine fin (d1:=[.list e vv.toList]) (o1:=some b1) m4 (Ext.leaf h _) rfl bB (fun rest=>en.row k1 hb dx Bf k2 k3 k4 mJ) fun rest I' μ hp0 i1 i2 ρ m dL dd cO=> ?_
        change ej P w I' μ hp0 (some b1) (.arr e vv.toList false)
        obtain ⟨ok,⟨Ca,c1,c2,c3⟩,nI⟩:=cA _ _ _ _ dx
        refine .arr ok rfl c1 c2 (fun h=>by cases h) (fun _=>cO _ (.root (by simp[gk]) rfl)) fun i j x t' y1 y2 y3=> ?_
        obtain ⟨v,z1,z2⟩:=c3 i j x t' y1 y2 y3
        refine ⟨v,z1,?_⟩
        generalize bS P e x j=y at z2⊢
        cases z2 with
        | gn _ p=>exact p.mono i1 fun _ _=>rfl
        | emp hu _=>exact absurd hu (RS Bf y2 _)
        | row hu _ _ _ _=>exact absurd hu (RS Bf y2 _)
    | _=>cases m3
where
 RS {e t:TypeId} {j:Nat} (h:Ag P e=true) (ht:(a9 P e)[j]? =some t) (e':TypeId):P.underlying t≠some (.slice e'):=by
  intro hu
  have h2:=fO.1 h t (jv ht)
  rw[hu] at h2
  cases h2
end
end Go.AM
