/-
  Functions of the program, lifted to plain data.
-/
import Derived.Great.BuildSlice
import Derived.Maps.Keyed
import Derived.WideKeyArr
import Derived.MapKept
import Derived.ChangeMaps4
import Derived.Carry
import Derived.Lib.AppendStr
import Derived.Laws.BytesString
import Derived.Lib.Builder
import Derived.Lib.UnsafeStr
import Derived.Test.YtppefogdkedaiaaGreatDoorP1
set_option linter.unusedVariables false
set_option linter.unusedSimpArgs false
namespace Go.AM
section
variable {P:Program} {w w':World} {I I':Nat→Prop} {β β':Nat→Option Nat} {hp hp':Nat→Option an} {C:ae} {B:Nat} {M:Nat→Prop} {w0:Start}
theorem abd (S:aH P w I β hp B M w0) {t:TypeId} {a v:Value} {xa x:V} {r:R} {rd:List Nat} (ha:ao P w I β hp a xa) (hv:ao P w I β hp v x)
  (h:(JF P t xa x).run C hp=some (r,rd)):pX P ((Instr.storeAt t a v).run P w) w I β hp B M w0 r:=by
 unfold JF at h
 obtain ⟨h0,h⟩:=aK h
 simp only[aO,a9] at h0
 obtain ⟨ht,hn⟩:=h0
 cases xa with
 | ptr id i c=>
  obtain ⟨l,h⟩:=run_get h
  cases ab:hp id with
  | none=>rw[ab] at h;cases h
  | some blk=>
   rw[ab] at h
   cases blk with
   | dead=>cases h
   | var T0 cs=>
    obtain ⟨QD,h⟩:=aK h
    have mM:pO P T0=true→0<c:=fun bM=>by
     rw[bM] at QD
     simpa using QD
    obtain ⟨b,hb,rfl⟩:=ha.hX ab (by simp)
    simp only[an.sz,Nat.mul_zero,gV]
    cases pW:(AA P t cs&&eG P t x) with
    | true=>
     dsimp only at h
     rw[pW] at h
     simp only[cond_true] at h
     obtain ⟨hc,h⟩:=aK h
     obtain rfl:=aU h
     simp only[aO,jP] at hc pW
     obtain ⟨o1,o2⟩:=Qw hv pW.2
     have lZ:=aaX pW.2
     refine Qu S ab hb ht hn (by rw[o2,lZ];rfl) mM (fun j u y hu hy=> ?_) (by rw[o2];simp[o1]) (by rw[lZ];simp;omega) (Qt _ _ _ _) (fun j y hy hj u hu=> ?_) (fun j y hy hj u hu=> ?_)
     ·rw[o2] at hu
      rw[lZ] at hy
      cases j with
      | zero=>simp at hu hy;subst hu;subst hy;exact hv
      | succ j=>simp at hy
     ·rw[Kh] at hy
      cases xQ:cs[j]? with
      | none=>rw[xQ] at hy;cases hy
      | some y0=>
       rw[xQ] at hy
       simp only[Option.map_some,ed] at hy
       rw[lZ] at hj
       simp only[List.length_singleton] at hj
       have bD:Nat.beq c (0+j)=false:=by
        cases hq:Nat.beq c (0+j) with
        | false=>rfl
        | true=>rw[a9] at hq;omega
       rw[bD] at hy
       have:=Qi (c:=false) hv (hu y0 xQ)
       rw[←hy]
       simpa using this
     ·rw[lZ] at hj hu
      have hj0:j=0:=by simpa using hj
      subst hj0
      rw[Kh] at hy
      cases xQ:cs[c+0]? with
      | none=>rw[xQ] at hy;cases hy
      | some y0=>
       rw[xQ] at hy
       simp only[Option.map_some,ed] at hy
       have heq:Nat.beq c (0+(c+0))=true:=by rw[a9];omega
       rw[heq] at hy
       have U:ao P w I β hp u x:=hu x rfl
       have:sS true x y0=x:=aaY x y0
       rw[←hy,this]
       exact U
    | false=>
     dsimp only at h
     rw[pW] at h
     simp only[cond_false] at h
     obtain ⟨hc,h⟩:=aK h
     simp only[aO,ej] at hc
     obtain ⟨e1,e2⟩:=Kf hv h
     obtain ⟨h1,l2,h⟩:=FF h (vs:=v.cells.toList) (by simpa using e1) (fun j u y a b=>e2 j u y (by simpa using a) b)
     obtain rfl:=aU h
     refine Qu S ab hb ht hn e1 mM e2 h1 hc.2 (A9 _ _ _ hc.2) (fun j y hy hj u hu=> ?_) (fun j y hy hj u hu=> ?_)
     ·unfold fV at hy
      rw[nQ _ _ _ _ hc.2] at hy
      rcases hj with hj|hj
      ·rw[ag hj] at hy;exact hu y hy
      ·rw[ah (by omega),ah (by omega)] at hy;exact hu y hy
     ·unfold fV at hy
      rw[nQ _ _ _ _ hc.2,ah (by omega),ag (by omega)] at hy
      rw[show c+j-c=j by omega] at hy
      exact hu y hy
   | arr e es fz=>
    cases fz with
    | true=>cases h
    | false=>
    obtain ⟨b,hb,rfl⟩:=ha.hX ab (by simp)
    obtain ⟨ay,h⟩:=aK h
    obtain ⟨⟨ys,fr⟩,l1,l2,bx,h⟩:=lu h
    obtain ⟨hc,h⟩:=aK h
    obtain ⟨x0,rL,h⟩:=lX h
    obtain rfl:=aU h
    simp only[aO,lQ,ej] at hc
    obtain ⟨dQ,hc3,jb⟩:=hc
    have pY:v.cells.size=x.cells.length∧∀(j:Nat) u y,v.cells.toList[j]? =some u→x.cells[j]? =some y→ao P w I β hp u y:=by
     cases x with
     | agg xs=>
      obtain ⟨cs,rfl,h1,U⟩:=hv.ly
      exact ⟨h1,fun j u y a b=>U j u y (by simpa[Value.cells] using a) b⟩
     | _=>
      simp only[V.cells] at bx jb⊢
      simp only[sR] at bx
      obtain ⟨⟨y1,u1⟩,l3,l4,hq,bx⟩:=lu bx
      obtain ⟨q1,q2⟩:=Ft S.h.rel hq hv
      obtain ⟨⟨y2,u2⟩,l5,l6,Bh,bx⟩:=lu bx
      cases Bh
      have:=aU bx
      cases this
      obtain ⟨tl,tg⟩:=uW jb
      have fM:=tg 0 _ y1 (bH (by rw[tl];exact Nat.one_pos)) rfl
      have cb:=q2 (jd P w I β hp u1) (fun _ h=> .inl h) (fun p hp b h=> .inr ⟨p,hp,h⟩)
      have ho:=cb.pure fM
      have Kv:v.cells= #[v]:=by cases ho<;>rfl
      rw[Kv]
      refine ⟨rfl,fun j u y hu hy=> ?_⟩
      cases j with
      | zero=>simp at hu hy;subst hu;subst hy;exact hv
      | succ j=>simp at hy
    obtain ⟨k1,k2,k3⟩:=J8 S.h.rel bx (vs:=v.cells.toList) (by simpa using pY.1) pY.2
    obtain ⟨rJ,S1⟩:=A3 S k2
    have Bg:bP hp fr id=some (.arr e es false):=by
     rcases uP (hp:=hp) (l:=fr) (id:=id) with h|⟨b',hm,_⟩
     ·exact h.trans ab
     ·exfalso
      have abe:ky (fr.map (·.1)) id=true:=xK (ey.2 ⟨_,hm,rfl⟩)
      rw[abe] at dQ;cases dQ
    have QE:=k3 (jd P w I β hp fr) (fun _ h=> .inl h) (fun p hp b h=> .inr ⟨p,hp,h⟩)
    obtain ⟨tl,tg⟩:=uW jb
    have ta:=(kG ay).1
    have uZ:ys.length=v.cells.size:=by rw[k1,pY.1]
    have hcn:c+v.cells.size≤P.cellsOf e:=by rw[pY.1];exact hc3
    have hr:=S1.h.rel id _ Bg
    cases hr with
    | dP aB=>simp at rL
    | @arr _ _ _ b' Ca Ke aB hh hs hf ep hx=>
     rw[hb] at aB
     cases aB
     have l7:i<es.length:=(bw.1 rL).1
     have hbound:i*P.cellsOf e+P.cellsOf e≤Ca.size:=by
      have:(i+1)*P.cellsOf e≤es.length*P.cellsOf e:=dL _ l7
      rw[dA] at this
      omega
     simp only[an.sz]
     have te:i*P.cellsOf e+c+v.cells.size≤Ca.size:=by omega
     have cV: ¬jd P w I β hp fr b:=ep rfl
     have h1: ∀u∈v.cells.toList,u.oneCell'=true:=by
      intro u hu
      obtain ⟨j,hj⟩:=sL hu
      have cp:j<ys.length:=by rw[uZ];simpa using (bw.1 hj).1
      have mO:j<(((flat P e).drop c).take x.cells.length).length:=by rw[tl];exact cp
      exact (QE j u ys[j] hj (bH cp)).one (tg j _ ys[j] (bH mO) (bH cp))
     have c8:=Kg (t:=t) (o:=i*P.cellsOf e+c) (v:=v) ht (by rw[pY.1];exact hn.symm) hh te h1
     have hlen:(Ca.toList.take (i*P.cellsOf e+c)++(v.cells.toList++Ca.toList.drop (i*P.cellsOf e+c+v.cells.toList.length))).length=Ca.size:=by
      rw[A9 _ _ _ (by simpa using te)];simp
     have cb:(parts P e x0).length=P.cellsOf e:=by rw[xH];exact fL ay
     have Ba:=FG S1 (blk':= .arr e (es.set i (cA P e (fV (parts P e x0) c ys))) false)
      (Cb:=(Ca.toList.take (i*P.cellsOf e+c)++(v.cells.toList++Ca.toList.drop (i*P.cellsOf e+c+v.cells.toList.length))).toArray) Bg (by simp) ⟨rfl,by simp⟩ hb cV (by simp) hh (by simpa using hlen)
      (fun hle e8=> .arr ay rfl e8 (by simp only[qW,ny];omega) (fun h=>by cases h) (fun _=>cV) fun i' j z t' hz mO hj=>by
       simp only[nw]
       rw[nQ _ _ _ _ (by simpa using te)]
       simp only[Array.length_toList]
       rw[Al] at hz
       by_cases jh:i=i'
       ·subst jh
        rw[ag rfl,ag l7] at hz
        cases hz
        have FP:j<(parts P e x0).length:=by omega
        have u0:(fV (parts P e x0) c ys)[j]? =if j<c then (parts P e x0)[j]? else if j<c+ys.length then ys[j-c]? else (parts P e x0)[j]? :=by
         unfold fV;exact nQ _ _ _ _ (by omega)
        by_cases rE:j<c
        ·rw[ag (by omega)]
         rw[ag rE] at u0
         obtain ⟨u,t2,a1,a2,a3⟩:=FC hx ay rL (bH FP)
         rw[mO] at a1;cases a1
         refine ⟨u,by simpa using a2,?_⟩
         rw[rF (u0.trans (bH FP)) mO]
         exact a3.mono hle.dq hle.cm
        ·rw[ah rE] at u0
         by_cases gv:j<c+ys.length
         ·rw[ag gv] at u0
          rw[ah (by omega),ag (by omega)]
          have pZ:j-c<ys.length:=by omega
          have QF:j-c<v.cells.toList.length:=by simp;omega
          have anZ:j-c<v.cells.size:=by omega
          refine ⟨v.cells.toList[j-c],?_,?_⟩
          ·rw[show i*P.cellsOf e+j-(i*P.cellsOf e+c)=j-c by omega]
           exact bH QF
          ·rw[rF (u0.trans (bH pZ)) mO]
           have hft:(((flat P e).drop c).take x.cells.length)[j-c]? =some t':=by
            rw[ff (by omega),iy,show c+(j-c)=j by omega,←s9]
            exact mO
           exact ((QE (j-c) _ ys[j-c] (bH QF) (bH pZ)).pure (tg (j-c) t' ys[j-c] hft (bH pZ))).mono hle.dq hle.cm
         ·rw[ah gv] at u0
          rw[ah (by omega),ah (by omega)]
          obtain ⟨u,t2,a1,a2,a3⟩:=FC hx ay rL (bH FP)
          rw[mO] at a1;cases a1
          refine ⟨u,by simpa using a2,?_⟩
          rw[rF (u0.trans (bH FP)) mO]
          exact a3.mono hle.dq hle.cm
       ·rw[ah jh] at hz
        obtain ⟨u,a2,a3⟩:=hx i' j z t' hz mO hj
        have bD:i'*P.cellsOf e+j<i*P.cellsOf e+c∨i*P.cellsOf e+c+v.cells.size≤i'*P.cellsOf e+j:=by
         rcases pJ i' i with aQ|p5
         ·left
          have:(i'+1)*P.cellsOf e≤i*P.cellsOf e:=dL _ aQ
          rw[dA] at this
          omega
         ·right
          have:(i+1)*P.cellsOf e≤i'*P.cellsOf e:=dL _ (by omega)
          rw[dA] at this
          omega
        refine ⟨u,?_,a3.mono hle.dq hle.cm⟩
        rcases bD with bD|bD
        ·rw[ag bD];simpa using a2
        ·rw[ah (by omega),ah (by omega)];simpa using a2)
     exact ⟨_,_,_,c8,rJ.trans Ba.1,Ba.2,rfl⟩
   | map _ _=>cases h
   | nest e es aq=>
    obtain ⟨b,hb,rfl⟩:=ha.hX ab (by simp)
    exact QC S ht hn hv ab hb .here h
 | cJ id ver path i c=>
  obtain ⟨e0,es,aq,l,ab,h1,U,h3,h⟩:=oX h
  obtain ⟨b,b1,e1,l1,hb,dr,rfl⟩:=ha.Qf ab h1 U h3
  exact QC S ht hn hv ab hb dr h
 | _=>cases h
end
section
variable {P:Program} {w w':World} {I I':Nat→Prop} {β β':Nat→Option Nat} {hp hp':Nat→Option an} {C:ae} {B:Nat} {M:Nat→Prop} {w0:Start}
theorem Kw: ∀{ts:List TypeId} {vs:List Value} {j:Nat} {y:V},(jy P ts vs)[j]? =some y→∃t v,ts[j]? =some t∧vs[j]? =some v∧y=pN P t v
 | [],vs,j,y,h=>by simp[jy] at h
 | _::_,[],j,y,h=>by simp[jy] at h
 | t::ts,v::vs,0,y,h=>by simp[jy] at h;exact ⟨t,v,rfl,rfl,h.symm⟩
 | t::ts,v::vs,j+1,y,h=>by
  simp only[jy,List.getElem?_cons_succ] at h
  obtain ⟨t',v',a,b,c⟩:=Kw h
  exact ⟨t',v',by simpa using a,by simpa using b,c⟩
theorem QG: ∀{ts:List TypeId} {vs:List Value},ts.length=vs.length→(jy P ts vs).length=vs.length
 | [],[],_=>rfl
 | [],_::_,h=>by simp at h
 | _::_,[],h=>by simp at h
 | t::ts,v::vs,h=>by simp[jy,QG (ts:=ts) (vs:=vs) (by simpa using h)]
theorem kK {e:TypeId} (h:cX P e=true): ∃i z,P.info? e=some i∧i.zero=some z∧i.size=P.cellsOf e∧z.cells.size=P.cellsOf e∧zeroCells P e=jy P (flat P e) z.cells.toList:=by
 unfold cX at h
 simp only[aO,a9,jP] at h
 obtain ⟨h1,U,_,h3⟩:=h
 cases hi:P.info? e with
 | none=>rw[hi] at h3;cases h3
 | some i=>
  rw[hi] at h3
  simp only[Option.bind_some] at h3
  cases hz:i.zero with
  | none=>rw[hz] at h3;cases h3
  | some z=>
   rw[hz] at h3
   simp only[a9] at h3
   exact ⟨i,z,rfl,hz,by simp[Program.cellsOf,hi],h3,by simp[zeroCells,hi,hz]⟩
theorem QH {e:TypeId} (h:cX P e=true): ∃i z,P.info? e=some i∧i.zero=some z∧z.cells.size=(zeroCells P e).length∧z.cells.size=P.cellsOf e∧
  ∀(j:Nat) v x,z.cells[j]? =some v→(zeroCells P e)[j]? =some x→ao P w I β hp v x:=by
 obtain ⟨i,z,h1,U,h3,h4,h5⟩:=kK h
 have hl:(flat P e).length=z.cells.toList.length:=by rw[(kG h).1];simpa using h4.symm
 refine ⟨i,z,h1,U,?_,h4,fun j v x hv hx=> ?_⟩
 ·rw[h5,QG hl];simp
 ·rw[h5] at hx
  obtain ⟨t,v',_,xI,rfl⟩:=Kw hx
  have:v'=v:=by
   have e1:z.cells[j]? =some v':=by simpa using xI
   rw[hv] at e1;exact (cT e1).symm
  subst this
  exact ao.const t v'
theorem nS {nb:Nat} {b:an} {v:V} {upd:List (Nat × an)} {r:R} {rd:List Nat} (h:(jz nb b v upd).run C hp=some (r,rd)):hp nb=none∧r=⟨v,(nb,b)::upd⟩:=by
 obtain ⟨l,h⟩:=run_get h
 cases hn:hp nb with
 | none=>rw[hn] at h;exact ⟨rfl,(aU h).symm⟩
 | some x=>rw[hn] at h;cases h
theorem QI (S:aH P w I β hp B M w0) {nb:Nat} {xs:List V} {C0:Array Value} {T:TypeId} (hn:hp nb=none) (hs:C0.size=xs.length)
  (hx: ∀(j:Nat) v x,C0[j]? =some v→xs[j]? =some x→ao P w I β hp v x) (gu:Qa P w.heap.size T C0):
  Le P w I β hp (w.alloc (.cells C0 T)) I (aM β nb (some w.heap.size)) (aM hp nb (some (.var T xs)))∧aH P (w.alloc (.cells C0 T)) I (aM β nb (some w.heap.size)) (aM hp nb (some (.var T xs))) B M w0∧
  ao P (w.alloc (.cells C0 T)) I (aM β nb (some w.heap.size)) (aM hp nb (some (.var T xs))) (.pointer (some ⟨w.heap.size,0,none⟩)) (.ptr nb 0 0):=by
 obtain ⟨h1,U⟩:=Ka S (blk:= .var T xs) (c:=C0) (T:=T) hn (fun b' h=>(cT (h.flat (by simp))).symm) (fun hle e8 cV=> .var rfl e8 hs cV (fun j v x a b=>(hx j v x a b).mono hle) gu)
 refine ⟨h1,U,?_⟩
 have:=ao.ptr (P:=P) (w:=w.alloc (.cells C0 T)) (I:=I) (β:=aM β nb (some w.heap.size)) (hp:=aM hp nb (some (.var T xs))) (i:=0) (c:=0) (blk:= .var T xs) (c7 _ _ _) (by simp) (c7 _ _ _)
 simpa using this
theorem abf (S:aH P w I β hp B M w0) {e:TypeId} {nb:Nat} {r:R} {rd:List Nat}
  (h:(Rd.aE (cX P e&&(!(pO P e)||P5 (zeroCells P e))) (jz nb (.var e (zeroCells P e)) (.ptr nb 0 0) [])).run C hp=some (r,rd)):db P ((Instr.alloc e true (.tuple #[])).run P w) w I β hp B M w0 r:=by
 obtain ⟨ay,h⟩:=aK h
 rw[aO] at ay
 obtain ⟨ay,mM⟩:=ay
 obtain ⟨hn,rfl⟩:=nS h
 obtain ⟨i,z,h1,U,h3,h4,h5⟩:=QH (w:=w) (I:=I) (β:=β) (hp:=hp) ay
 obtain ⟨a,b,c⟩:=QI S (T:=e) hn h3 h5 fun bM=>by
  rw[bM,qX,Bool.false_or] at mM
  cases hz:zeroCells P e with
  | nil=>rw[hz] at mM;cases mM
  | cons y l=>
   rw[hz] at mM h3 h5
   cases y<;>first|(cases mM;done)|skip
   have aQ:0<z.cells.size:=by rw[h3];simp
   have:=h5 0 z.cells[0] .dB (lh aQ) rfl
   left
   rw[lh aQ]
   generalize z.cells[0]=u at this
   cases this;rfl
 exact ⟨_,_,_,_,by simp[Instr.alloc,zeroValue,typeInfo,h1,U,newVar,newRow],a,b,c⟩
theorem abg (S:aH P w I β hp B M w0) {e:TypeId} {nb:Nat} {x:V} {v:Value} {r:R} {rd:List Nat} (hv:ao P w I β hp v x)
  (h:(Rd.aE (!(pO P e)) <| lS x.cells (jz nb (.var e x.cells) (.ptr nb 0 0) [])).run C hp=some (r,rd)):db P ((Instr.box e v).run P w) w I β hp B M w0 r:=by
 obtain ⟨mM,h⟩:=aK h
 obtain ⟨e1,e2⟩:=Kf hv h
 obtain ⟨_,l,h⟩:=FF h (vs:=v.cells.toList) (by simpa using e1) (fun j u y a b=>e2 j u y (by simpa using a) b)
 obtain ⟨hn,rfl⟩:=nS h
 obtain ⟨a,b,c⟩:=QI S (T:=e) hn e1 e2 fun bM=>by rw[bM] at mM;cases mM
 exact ⟨_,_,_,_,by simp[Instr.box,newVar,newRow],a,b,c⟩
theorem foldl_set (off:Nat): ∀(vs:List Value) (k:Nat) (cs:Array Value) (i:Nat),off+k+vs.length≤cs.size→
  ((vs.zipIdx k).foldl (fun cs p=>cs.setIfInBounds (off+p.2) p.1) cs)[i]? =if i<off+k then cs[i]? else if i<off+k+vs.length then vs[i-(off+k)]? else cs[i]?
 | [],k,cs,i,h=>by simp;intro h1 U;omega
 | v::vs,k,cs,i,h=>by
  simp only[List.zipIdx_cons,List.foldl_cons]
  simp only[List.length_cons] at h⊢
  rw[foldl_set off vs (k+1) _ i (by simp;omega)]
  by_cases h1:i<off+k
  ·rw[ag (by omega),ag h1]
   rw[EH (by omega)]
  ·rw[ah h1]
   by_cases U:i=off+k
   ·subst U
    rw[ag (by omega),ag (by omega)]
    rw[JC (by omega)]
    simp
   ·rw[ah (by omega)]
    by_cases h3:i<off+k+(vs.length+1)
    ·rw[ag (by omega),ag h3,show i-(off+k)=(i-(off+(k+1)))+1 by omega]
     simp
    ·rw[ah (by omega),ah h3,EH (by omega)]
theorem QJ (off:Nat): ∀(vs:List Value) (k:Nat) (cs:Array Value),((vs.zipIdx k).foldl (fun cs p=>cs.setIfInBounds (off+p.2) p.1) cs).size=cs.size
 | [],k,cs=>rfl
 | v::vs,k,cs=>by
  simp only[List.zipIdx_cons,List.foldl_cons]
  rw[QJ off vs (k+1)]
  simp
theorem QK {cells:Array Value} {off:Nat} {v:Value} (h:off+v.cells.size≤cells.size) (i:Nat):
  (v.cells.zipIdx.foldl (fun cs (p:Value × Nat)=>cs.setIfInBounds (off+p.2) p.1) cells)[i]? =if i<off then cells[i]? else if i<off+v.cells.size then v.cells[i-off]? else cells[i]? :=by
 have:=foldl_set off v.cells.toList 0 cells i (by simpa using h)
 rw[←EI]
 simpa[Array.toList_zipIdx] using this
theorem QL {cells:Array Value} {off:Nat} {v:Value}:(v.cells.zipIdx.foldl (fun cs (p:Value × Nat)=>cs.setIfInBounds (off+p.2) p.1) cells).size=cells.size:=by
 have:=QJ off v.cells.toList 0 cells
 rw[←EI]
 simpa[Array.toList_zipIdx] using this
inductive xR (P:Program) (w:World) (I:Nat→Prop) (β:Nat→Option Nat) (hp:Nat→Option an):List (Nat × Value)→List (Nat × V)→Prop
 | nil:xR P w I β hp [] []
 | cons {i:Nat} {v:Value} {x:V} {vs:List (Nat × Value)} {xs:List (Nat × V)}:v.cells.size=x.cells.length→(∀(j:Nat) u y,v.cells[j]? =some u→x.cells[j]? =some y→ao P w I β hp u y)→
   xR P w I β hp vs xs→xR P w I β hp ((i,v)::vs) ((i,x)::xs)
theorem QM (place:Nat→Option (Nat × Nat)): ∀{vs:List (Nat × Value)} {px:List (Nat × V)} {cells:Array Value} {xs ys:List V},xR P w I β hp vs px→cells.size=xs.length→
  (∀(j:Nat) v x,cells[j]? =some v→xs[j]? =some x→ao P w I β hp v x)→uC place xs px=some ys→
  ∃p6:Array Value,Instr.fill place cells vs=some p6∧p6.size=ys.length∧∀(j:Nat) v x,p6[j]? =some v→ys[j]? =some x→ao P w I β hp v x
 | _,_,cells,xs,ys,.nil,hs,hx,h=>by
  simp only[uC,ed] at h
  subst h
  exact ⟨cells,by simp[Instr.fill],hs,hx⟩
 | _,_,cells,xs,ys,@xR.cons _ _ _ _ _ i v x vs px h1 U h3,hs,hx,h=>by
  simp only[uC] at h
  cases cb:place i with
  | none=>rw[cb] at h;cases h
  | some os=>
   obtain ⟨off,size⟩:=os
   rw[cb] at h
   simp only at h
   cases hc:(Nat.beq x.cells.length size&&Nat.ble (off+size) xs.length) with
   | false=>rw[hc] at h;cases h
   | true=>
    rw[hc] at h
    simp only[cond_true] at h
    simp only[aO,a9,ej] at hc
    have hv:off+v.cells.size≤cells.size:=by omega
    have hb:off+x.cells.length≤xs.length:=by omega
    have hl:(fV xs off x.cells).length=xs.length:=A9 _ _ _ hb
    obtain ⟨p6,f1,f2,f3⟩:=QM place (cells:=v.cells.zipIdx.foldl (fun cs (p:Value × Nat)=>cs.setIfInBounds (off+p.2) p.1) cells) (xs:=fV xs off x.cells) h3 (by rw[QL,hl,hs])
     (fun j u y hu hy=>by
      rw[QK hv] at hu
      unfold fV at hy
      rw[nQ _ _ _ _ hb] at hy
      by_cases j1:j<off
      ·rw[ag j1] at hu hy;exact hx j u y hu hy
      ·rw[ah j1] at hu hy
       by_cases j2:j<off+x.cells.length
       ·rw[ag (by omega)] at hu
        rw[ag j2] at hy
        exact U (j-off) u y hu hy
       ·rw[ah (by omega)] at hu
        rw[ah j2] at hy
        exact hx j u y hu hy) h
    refine ⟨p6,?_,f2,f3⟩
    simp only[Instr.fill,cb]
    rw[ah (by simp;omega)]
    exact f1
theorem abh {t:TypeId} {parts:Array (Nat × Value)} {cells:Array Value} {z:Value} {i:TypeInfo} (hi:P.info? t=some i) (hz:i.zero=some z) (h:Instr.fill (placeOf P t) z.cells parts.toList=some cells) (ha:bO P t=true)
  (cb: ∀fs,P.underlying t=some (.struct fs)→(fs.toList.mapM fun f=>(P.info? f.type).map fun i=>(f.offset,i.size)).isSome=true) (rM: ∀n e,P.underlying t=some (.array n e)→(P.info? e).isSome=true):
  (Instr.build t parts).run P w= .ok (.agg cells) w:=by
 refine run_build w t parts cells ?_
 unfold Program.built
 unfold bO at ha
 rw[hi]
 split at ha
 ·rename_i fs hu
  have:=cb fs hu
  cases hm:fs.toList.mapM fun f=>(P.info? f.type).map fun i=>(f.offset,i.size) with
  | none=>rw[hm] at this;cases this
  | some places=>
   simp only[hu,hz,hm]
   have hq:placeOf P t=fun i=>places[i]? :=by simp[placeOf,hu,hm]
   rw[hq] at h
   simpa using h
 ·rename_i n e hu
  have:=rM n e hu
  cases j5:P.info? e with
  | none=>rw[j5] at this;cases this
  | some ie=>
   simp only[hu,hz,j5]
   have hq:placeOf P t=fun i=>some (i*ie.size,ie.size):=by simp[placeOf,hu,j5]
   rw[hq] at h
   exact h
 ·cases ha
theorem QN {α:Type}: ∀(xs ys:List V) (k:Rd α),lS (xs++ys) k=lS xs (lS ys k)
 | [],_,_=>rfl
 | x::xs,ys,k=>by simp only[List.cons_append,lS,QN xs ys k]
theorem QO {a:Act} {sl:Nat→V} (hs:lr P w I β hp a sl) {G:Nat→V} (hg:gE P G w I) (t:TypeId) {α:Type}: ∀{l:List (Nat × Operand)} {k:Rd α} {r:α} {rd:List Nat},
  (lS ((l.map fun p=>(aV P G t sl p.2).cells).flatten) k).run C hp=some (r,rd)→
  xR P w I β hp (l.map fun p=>(p.1,a.eval p.2)) (l.map fun p=>(p.1,aV P G t sl p.2))∧∃fa,k.run C hp=some (r,fa)
 | [],k,r,rd,h=>⟨.nil,rd,h⟩
 | (i,x)::l,k,r,rd,h=>by
  simp only[cr,List.flatten_cons,QN] at h
  obtain ⟨e1,e2⟩:=Kf (hs.ev hg t x) h
  obtain ⟨_,l1,h⟩:=FF h (vs:=(a.eval x).cells.toList) (by simpa using e1) (fun j u y a b=>e2 j u y (by simpa using a) b)
  obtain ⟨h1,U⟩:=QO hs hg t h
  exact ⟨.cons e1 e2 h1,U⟩
theorem abi (S:aH P w I β hp B M w0) {a:Act} {sl:Nat→V} (hs:lr P w I β hp a sl) {G:Nat→V} (hg:gE P G w I) {t ty:TypeId} {ps:Array (Nat × Operand)} {r:R} {rd:List Nat}
  (h:(Rd.aE (cX P t&&(bO P t&&Fb P t)) (lS ((ps.toList.map fun p=>(aV P G ty sl p.2).cells).flatten)
   (xo (uC (placeOf P t) (zeroCells P t) (ps.toList.map fun p=>(p.1,aV P G ty sl p.2))) fun cs=> .ret ⟨.agg cs,[]⟩))).run C hp=some (r,rd)):
  db P ((Instr.build t (ps.map fun (i,x)=>(i,a.eval x))).run P w) w I β hp B M w0 r:=by
 obtain ⟨ay,h⟩:=aK h
 simp only[aO] at ay
 obtain ⟨h1,l,h⟩:=QO hs hg ty h
 cases hf:uC (placeOf P t) (zeroCells P t) (ps.toList.map fun p=>(p.1,aV P G ty sl p.2)) with
 | none=>rw[hf] at h;cases h
 | some cs=>
  rw[hf] at h
  obtain rfl:=aU h
  obtain ⟨i,z,hi,hz,h3,h4,h5⟩:=QH (w:=w) (I:=I) (β:=β) (hp:=hp) ay.1
  obtain ⟨cells,f1,f2,f3⟩:=QM (placeOf P t) h1 h3 h5 hf
  have QP:=ay.2.2
  refine .same S (v:= .agg cells) (abh hi hz (by simpa using f1) ay.2.1 (fun fs hu=> ?_) (fun n e hu=> ?_)) (.agg f2 f3)
  ·simpa[Fb,hu] using QP
  ·simpa[Fb,hu] using QP
theorem abj (cL: ∀id blk,hp id=some blk→ee P w I β hp (β id) blk) {x:V} {v:Value} {ys:List V} {fr:List (Nat × an)} {rd:List Nat} {ts:List TypeId} (hv:ao P w I β hp v x)
  (h:(sR P x.cells).run C hp=some ((ys,fr),rd)) (ht:ra P ts ys=true):
  v.cells.size=x.cells.length∧∀(j:Nat) u y,v.cells.toList[j]? =some u→x.cells[j]? =some y→ao P w I β hp u y:=by
 cases x with
 | agg xs=>
  obtain ⟨cs,rfl,h1,U⟩:=hv.ly
  exact ⟨h1,fun j u y a b=>U j u y (by simpa[Value.cells] using a) b⟩
 | _=>
  simp only[V.cells] at h⊢
  simp only[sR] at h
  obtain ⟨⟨y1,u1⟩,l3,l4,hq,h⟩:=lu h
  obtain ⟨q1,q2⟩:=Ft cL hq hv
  obtain ⟨⟨y2,u2⟩,l5,l6,Bh,h⟩:=lu h
  cases Bh
  have:=aU h
  cases this
  obtain ⟨tl,tg⟩:=uW ht
  have fM:=tg 0 _ y1 (bH (by rw[tl];exact Nat.one_pos)) rfl
  have cb:=q2 (jd P w I β hp u1) (fun _ h=> .inl h) (fun p hp b h=> .inr ⟨p,hp,h⟩)
  have ho:=cb.pure fM
  have Kv:v.cells= #[v]:=by cases ho<;>rfl
  rw[Kv]
  refine ⟨rfl,fun j u y hu hy=> ?_⟩
  cases j with
  | zero=>simp at hu hy;subst hu;subst hy;exact hv
  | succ j=>simp at hy
def xS (P:Program) (w:World) (I:Nat→Prop) (e:TypeId) (cells:Array Value) (es:List V):Prop:=
 cells.size=es.length*P.cellsOf e∧∀(i j:Nat) (x:V) (t':TypeId),es[i]? =some x→(bc P e)[j]? =some t'→j<P.cellsOf e→∃v,cells[i*P.cellsOf e+j]? =some v∧Pure P w I t' v (bQ P e x j)
theorem xS.set {e:TypeId} {cells:Array Value} {es ys:List V} {i:Nat} {v:Value} (h:xS P w I e cells es) (hi:i<es.length) (hv:v.cells.size=P.cellsOf e) (hy:ys.length=P.cellsOf e)
  (hr: ∀(j:Nat) (t':TypeId) (u:Value) (y:V),(bc P e)[j]? =some t'→v.cells[j]? =some u→ys[j]? =some y→Pure P w I t' u y):
  xS P w I e (v.cells.zipIdx.foldl (fun cs (p:Value × Nat)=>cs.setIfInBounds (i*P.cellsOf e+p.2) p.1) cells) (es.set i (cA P e ys)):=by
 obtain ⟨h1,U⟩:=h
 have hb:i*P.cellsOf e+v.cells.size≤cells.size:=by
  have:(i+1)*P.cellsOf e≤es.length*P.cellsOf e:=dL _ hi
  rw[dA] at this
  omega
 refine ⟨by rw[QL,ny,h1],fun i' j x t' hx ht hj=> ?_⟩
 rw[QK hb]
 rw[Al] at hx
 by_cases jh:i=i'
 ·subst jh
  rw[ag rfl,ag hi] at hx
  cases hx
  rw[ah (by omega),ag (by omega),show i*P.cellsOf e+j-i*P.cellsOf e=j by omega]
  have h3:j<v.cells.size:=by omega
  have h4:j<ys.length:=by omega
  refine ⟨v.cells[j],lh h3,?_⟩
  rw[rF (bH h4) ht]
  exact hr j t' _ _ ht (lh h3) (bH h4)
 ·rw[ah jh] at hx
  have bD:i'*P.cellsOf e+j<i*P.cellsOf e∨i*P.cellsOf e+v.cells.size≤i'*P.cellsOf e+j:=by
   rcases pJ i' i with aQ|p5
   ·left
    have:(i'+1)*P.cellsOf e≤i*P.cellsOf e:=dL _ aQ
    rw[dA] at this
    omega
   ·right
    have:(i+1)*P.cellsOf e≤i'*P.cellsOf e:=dL _ (by omega)
    rw[dA] at this
    omega
  rcases bD with bD|bD
  ·rw[ag bD];exact U i' j x t' hx ht hj
  ·rw[ah (by omega),ah (by omega)];exact U i' j x t' hx ht hj
theorem abk {t':TypeId} {v:Value} (fM:eG P t' (xi (pN P t' v))=true):Pure P w I t' v (xi (pN P t' v)):=by
 have hc:=ao.const (P:=P) (w:=w) (I:=I) (β:=fun _=>none) (hp:=fun _=>none) t' v
 cases u3:pN P t' v<;>rw[u3] at fM hc<;>simp only[xi] at fM⊢
 case int k n=>rw[hc.dY];exact Plain.pure (v:= .int k n) (y:= .int k n) rfl fM
 case bool b=>rw[hc.kH];exact Plain.pure (v:= .bool b) (y:= .bool b) rfl fM
 case str l=>obtain ⟨s,e1,e2⟩:=hc.mL;rw[e1];exact Plain.pure (v:= .string s) (y:= .str l) ⟨s,rfl,e2⟩ fM
 case nilS e'=>
  cases hc
  exact Plain.pure (y:= .list e' []) (ja.any fun _=>rfl) fM
 case list e' es=>
  cases hc with
  | list hp=>exact Plain.pure (y:= .list e' es) hp fM
 all_goals (unfold eG at fM;split at fM<;>simp_all)
theorem Bi {e:TypeId} (h:mF P e=true): ∃i z,P.info? e=some i∧i.zero=some z∧i.size=P.cellsOf e∧z.cells.size=P.cellsOf e∧
  ∀(j:Nat) (t':TypeId),(bc P e)[j]? =some t'→j<P.cellsOf e→∃v,z.cells[j]? =some v∧Pure P w I t' v (bQ P e (cA P e (eL P e)) j):=by
 unfold mF at h
 simp only[aO] at h
 obtain ⟨i,z,h1,U,h3,h4,h5⟩:=kK h.1
 refine ⟨i,z,h1,U,h3,h4,fun j t' ht hj=> ?_⟩
 obtain ⟨tl,tg⟩:=uW h.2
 have cp:j<(eL P e).length:=by rw[←tl,(kG h.1).1];exact hj
 have hz:=bH cp
 have fM:=tg j t' _ (by rw[←s9];exact ht) hz
 refine ⟨z.cells[j],lh (by omega),?_⟩
 rw[rF hz ht]
 have u4:(eL P e)[j]=xi (pN P t' z.cells[j]):=by
  have:(eL P e)[j]? =((zeroCells P e)[j]?).map xi:=by simp[eL]
  rw[hz] at this
  cases hc:(zeroCells P e)[j]? with
  | none=>rw[hc] at this;cases this
  | some y=>
   rw[hc] at this
   simp only[Option.map_some,ed] at this
   rw[h5] at hc
   obtain ⟨t2,v2,a1,a2,rfl⟩:=Kw hc
   have ht2:t2=t':=by
    rw[←s9,ht] at a1;exact (cT a1).symm
   have ry:v2=z.cells[j]:=by
    have hjz:j<z.cells.size:=by omega
    have:z.cells.toList[j]? =some z.cells[j]:=by simp[hjz]
    rw[this] at a2;exact (cT a2).symm
   rw[this,ht2,ry]
 rw[u4] at fM⊢
 exact abk fM
end
section
variable {P:Program} {w w':World} {I I':Nat→Prop} {β β':Nat→Option Nat} {hp hp':Nat→Option an} {C:ae} {B:Nat} {M:Nat→Prop} {w0:Start}
theorem xT (S:aH P w I β hp B M w0) {nb cap:Nat} {e:TypeId} {es:List V} {C0:Array Value} (ay:cX P e=true) (hn:hp nb=none) (hs:C0.size=cap*P.cellsOf e) (hl:es.length≤cap) (hm:cap≤maxLen)
  (hx: ∀(i j:Nat) (x:V) (t':TypeId),es[i]? =some x→(bc P e)[j]? =some t'→j<P.cellsOf e→∃v,C0[i*P.cellsOf e+j]? =some v∧Pure P w I t' v (bQ P e x j)):
  Le P w I β hp (w.alloc (.cells C0 e)) I (aM β nb (some w.heap.size)) (aM hp nb (some (.arr e es false)))∧aH P (w.alloc (.cells C0 e)) I (aM β nb (some w.heap.size)) (aM hp nb (some (.arr e es false))) B M w0∧
  ao P (w.alloc (.cells C0 e)) I (aM β nb (some w.heap.size)) (aM hp nb (some (.arr e es false))) (.slice (some ⟨w.heap.size,0,none⟩) es.length cap) (.whole e nb):=by
 obtain ⟨h1,U⟩:=Ka S (blk:= .arr e es false) (c:=C0) (T:=e) hn (fun b' h=>(cT (h.flat (by simp))).symm) (fun hle e8 cV=> .arr ay rfl e8 (by rw[hs];exact dL _ hl) (fun h=>by cases h) (fun _=>cV) fun i j x t' a b c=>by
  obtain ⟨v,hv,hp⟩:=hx i j x t' a b c
  exact ⟨v,hv,hp.mono hle.dq hle.cm⟩)
 refine ⟨h1,U,.whole (c7 _ _ _) (c7 _ _ _) ?_ hl hm⟩
 rw[nK (heap_alloc_new w (.cells C0 e)),hs]
theorem At.only {b b':Nat} {e e':TypeId} {es aR:List V} {q:Path} (hz: ∀(i j:Nat) x t' e1 l,es[i]? =some x→(bc P e)[j]? =some t'→bQ P e x j= .list e1 l→l=[])
  (h:At P w b e es q b' e' aR):q=[]∧b'=b∧e'=e∧aR=es:=by
 cases h with
 | here=>exact ⟨rfl,rfl,rfl,rfl⟩
 | step h1 U h3 h4 h5 h6=>have:=hz _ _ _ _ _ _ U h3 h5;subst this;simp at h6
theorem mK.rr {t:TypeId} {v:Value} {x:V} (h:Pure P w I t v x) (hz: ∀e1 l,x= .list e1 l→l=[]):mK P w I t v x:=by
 cases h with
 | int h=>exact .fZ (by unfold fW;rw[h]) (.int h)
 | bool h=>exact .fZ (by unfold fW;rw[h]) (.bool h)
 | str h hl=>exact .fZ (by unfold fW;rw[h]) (.str h hl)
 | nil h=>exact .emp h fun _=>rfl
 | emp h=>exact .emp h fun h=>by cases h
 | list g hu hl _ _ _ _=>
  have:=hz _ _ rfl
  subst this
  simp at hl
  subst hl
  exact .emp hu fun h=>by cases h
theorem abl (S:aH P w I β hp B M w0) {nb cap:Nat} {e:TypeId} {es:List V} {C0:Array Value} (ay:cX P e=true) (hn:hp nb=none) (hs:C0.size=cap*P.cellsOf e) (hl:es.length≤cap) (hm:cap≤maxLen)
  (hx: ∀(i j:Nat) (x:V) (t':TypeId),es[i]? =some x→(bc P e)[j]? =some t'→j<P.cellsOf e→∃v,C0[i*P.cellsOf e+j]? =some v∧Pure P w I t' v (bQ P e x j))
  (hz: ∀(i j:Nat) x t' e1 l,es[i]? =some x→(bc P e)[j]? =some t'→bQ P e x j= .list e1 l→l=[]):
  Le P w I β hp (w.alloc (.cells C0 e)) I (aM β nb (some w.heap.size)) (aM hp nb (some (.nest e es [0,0,0])))∧aH P (w.alloc (.cells C0 e)) I (aM β nb (some w.heap.size)) (aM hp nb (some (.nest e es [0,0,0]))) B M w0∧
  ao P (w.alloc (.cells C0 e)) I (aM β nb (some w.heap.size)) (aM hp nb (some (.nest e es [0,0,0]))) (.slice (some ⟨w.heap.size,0,none⟩) es.length cap) (.whole e nb):=by
 obtain ⟨h1,U⟩:=Ka S (blk:= .nest e es [0,0,0]) (c:=C0) (T:=e) hn (fun b' h=>by
   cases h with
   | root _ h=>exact (cT h).symm
   | row h ha=>cases h;exact (At.only hz ha).2.1)
  (fun hle e8 cV=> .nest rfl (fun q b' e' aR ha=>by
   obtain ⟨rfl,rfl,rfl,rfl⟩:=At.only hz ha
   refine ⟨ay,⟨C0,e8,by rw[hs];exact dL _ hl,fun i j x t' a b c=> ?_⟩,cV⟩
   obtain ⟨v,hv,hp⟩:=hx i j x t' a b c
   exact ⟨v,hv,.rr (hp.mono hle.dq hle.cm) fun e1 l h=>hz i j x t' e1 l a b h⟩)
   fun q1 q2 b' e1 cx e2 cf a1 a2=>(At.only hz a1).1.trans (At.only hz a2).1.symm)
 refine ⟨h1,U,.eC (c7 _ _ _) (c7 _ _ _) ?_ hl hm⟩
 rw[nK (heap_alloc_new w (.cells C0 e)),hs]
theorem QQ (cL: ∀id blk,hp id=some blk→ee P w I β hp (β id) blk) {a:Act} {sl:Nat→V} (hs:lr P w I β hp a sl) {G:Nat→V} (hg:gE P G w I) {e:TypeId} {len:Nat}: ∀{l:List (Nat × Operand)} {ps:List (Nat × V)} {upd:List (Nat × an)} {rd:List Nat},
  (AE P e len (l.map fun p=>(p.1,aV P G e sl p.2))).run C hp=some ((ps,upd),rd)→cX P e=true→(∀p∈upd,AY hp p)∧∀I':Nat→Prop,(∀b,I b→I' b)→(∀p∈upd,∀b,s8 P w β hp p.1 b→I' b)→
   ∀(cells:Array Value) (es:List V),es.length=len→xS P w I' e cells es→∃p6,Instr.fill (fun i=>some (i*P.cellsOf e,P.cellsOf e)) cells (l.map fun p=>(p.1,a.eval p.2))=some p6∧xS P w I' e p6 (AD es ps)∧(AD es ps).length=len
 | [],ps,upd,rd,h,_=>by
  cases h
  exact ⟨by simp,fun I' _ _ cells es hl he=>⟨cells,by simp[Instr.fill],he,hl⟩⟩
 | (i,x)::l,ps,upd,rd,h,ay=>by
  simp only[cr,AE] at h
  obtain ⟨⟨ys,u1⟩,l1,l2,h1,h⟩:=lu h
  obtain ⟨hc,h⟩:=aK h
  obtain ⟨⟨ps',u2⟩,l3,l4,U,h⟩:=lu h
  have:=aU h
  cases this
  simp only[aO,jP] at hc
  obtain ⟨hi,fM⟩:=hc
  obtain ⟨tl,tg⟩:=uW fM
  have xJ:=hs.ev hg e x
  obtain ⟨v1,v2⟩:=abj cL xJ h1 fM
  obtain ⟨k1,k2,k3⟩:=J8 cL h1 (vs:=(a.eval x).cells.toList) (by simpa using v1) v2
  obtain ⟨m1,m2⟩:=QQ cL hs hg U ay
  refine ⟨fun p hp=> ?_,fun I' i1 i2 cells es hl he=> ?_⟩
  ·rcases eJ.1 hp with h|h
   ·exact k2 p h
   ·exact m1 p h
  ·have cb:=k3 I' i1 (fun p hp=>i2 p (eJ.2 (.inl hp)))
   have bd:=(kG ay).1
   have uZ:ys.length=P.cellsOf e:=by rw[←tl,bd]
   have Qv:(a.eval x).cells.size=P.cellsOf e:=by rw[v1,←k1,uZ]
   have hY:=he.set (i:=i) (ys:=ys) (by omega) Qv uZ (fun j t' u y ht hu hy=>by
    exact (cb j u y (by simpa using hu) hy).pure (tg j t' y (by rw[←s9];exact ht) hy))
   obtain ⟨p6,f1,f2,f3⟩:=m2 I' i1 (fun p hp=>i2 p (eJ.2 (.inr hp))) _ (es.set i (cA P e ys)) (by simpa using hl) hY
   refine ⟨p6,?_,f2,f3⟩
   have hb:i*P.cellsOf e+P.cellsOf e≤cells.size:=by
    rw[he.1,hl]
    have:(i+1)*P.cellsOf e≤len*P.cellsOf e:=dL _ hi
    rw[dA] at this
    omega
   simp only[cr,Instr.fill]
   rw[ah (by simp;omega)]
   exact f1
theorem QR {z:Array Value} {n k:Nat} (hk:k<n) (hz:0<z.size):((Array.range n).map (z[· %z.size]!))[k]? =z[k %z.size]? :=by
 have hm:k %z.size<z.size:=xe _ hz
 simp[hk,hm]
theorem FQ {e:TypeId} (h:mF P e=true) {i:TypeInfo} {z:Value} (hi:P.info? e=some i) (hz:i.zero=some z) (n m:Nat) (jS:n≤m):
  ∀(k j:Nat) (x:V) (t':TypeId),(List.replicate n (cA P e (eL P e)))[k]? =some x→(bc P e)[j]? =some t'→j<P.cellsOf e→
   ∃v,((Array.range (m*P.cellsOf e)).map (z.cells[· %z.cells.size]!))[k*P.cellsOf e+j]? =some v∧Pure P w I t' v (bQ P e x j):=by
 intro k j x t' hx ht hj
 obtain ⟨i2,z2,h1,U,h3,h4,h5⟩:=Bi (w:=w) (I:=I) h
 rw[hi] at h1;cases h1
 rw[hz] at U;cases U
 rw[EJ] at hx
 split at hx
 ·rename_i hk
  cases hx
  obtain ⟨v,hv,hp⟩:=h5 j t' ht hj
  refine ⟨v,?_,hp⟩
  have hb:k*P.cellsOf e+j<m*P.cellsOf e:=by
   have:(k+1)*P.cellsOf e≤m*P.cellsOf e:=dL _ (by omega)
   rw[dA] at this
   omega
  rw[QR hb (by omega),h4,show (k*P.cellsOf e+j) %P.cellsOf e=j by rw[lj,Nat.mul_add_mod];exact Nat.mod_eq_of_lt hj]
  exact hv
 ·cases hx
theorem abm {P:Program} (w:World) (t e:TypeId) (len:Nat) (parts:Array (Nat × Value)) (cells:Array Value) (ie:TypeInfo) (z:Value)
  (hu:P.underlying t=some (.slice e)) (j5:P.info? e=some ie) (hz:ie.zero=some z) (abn: ¬len*ie.size>2^24)
  (h:Instr.fill (fun i=>some (i*ie.size,ie.size)) ((Array.range (len*ie.size)).map (z.cells[· %z.cells.size]!)) parts.toList=some cells):
  (Instr.buildSlice t len parts).run P w= .ok (.slice (some ⟨w.heap.size,0,none⟩) len len) (w.alloc (.cells cells e)):=by
 by_cases jS:len*ie.size=0
 ·have h0: ∀g:Nat→Value,(Array.range (len*ie.size)).map g= #[]:=by intro g;exact Array.eq_empty_of_size_eq_zero (by simp[jS])
  have hp: ∀(u:Array Value),(Pure.pure u:Sem (Array Value)).run P w= .ok u w:=fun _=>rfl
  rw[h0] at h
  simp only[Instr.buildSlice,Sem.run_bind,run_underlying hu,Result.andThen_ok,sizeOf,typeInfo,j5]
  have h1:(Array.range (len*ie.size)).map (fun _:Nat=>(default:Value))= #[]:=h0 _
  have hs: ¬16777216<len*ie.size:=by omega
  simp[j5,hs,jS]
  simp only[jS] at h1
  simp[h1,h,newRow]
 ·exact run_buildSlice w t e len parts cells ie z hu j5 hz abn jS h
theorem abo (S:aH P w I β hp B M w0) {a:Act} {sl:Nat→V} (hs:lr P w I β hp a sl) {G:Nat→V} (hg:gE P G w I) {t e:TypeId} {len nb:Nat} {ps:Array (Nat × Operand)} {r:R} {rd:List Nat} (hu:P.underlying t=some (.slice e))
  (h:(Rd.aE (mF P e&&Nat.ble (len*P.cellsOf e) (2^24)) ((AE P e len (ps.toList.map fun p=>(p.1,aV P G e sl p.2))).bind fun r=>
    jz nb (.arr e (AD (List.replicate len (cA P e (eL P e))) r.1) false) (.whole e nb) r.2)).run C hp=some (r,rd)):
  db P ((Instr.buildSlice t len (ps.map fun (i,x)=>(i,a.eval x))).run P w) w I β hp B M w0 r:=by
 obtain ⟨hc,h⟩:=aK h
 simp only[aO,ej] at hc
 obtain ⟨cY,xz⟩:=hc
 have ay:cX P e=true:=by
  unfold mF at cY;simp only[aO] at cY;exact cY.1
 obtain ⟨⟨pv,upd⟩,l1,l2,h1,h⟩:=lu h
 obtain ⟨hn,rfl⟩:=nS h
 obtain ⟨m1,m2⟩:=QQ S.h.rel hs hg h1 ay
 obtain ⟨rJ,S1⟩:=A3 S m1
 obtain ⟨i,z,hi,hz,h3,h4,_⟩:=Bi (w:=w) (I:=I) cY
 have jY:=(kG ay).2
 have h0:xS P w (jd P w I β hp upd) e ((Array.range (len*P.cellsOf e)).map (z.cells[· %z.cells.size]!)) (List.replicate len (cA P e (eL P e))):=
  ⟨by simp,FQ cY hi hz len len (bV _)⟩
 obtain ⟨cells,f1,f2,f3⟩:=m2 (jd P w I β hp upd) (fun _ h=> .inl h) (fun p hp b h=> .inr ⟨p,hp,h⟩) _ _ (by simp) h0
 have kL:bP hp upd nb=none:=by
  rcases uP (hp:=hp) (l:=upd) (id:=nb) with h|⟨b',hm,_⟩
  ·exact h.trans hn
  ·obtain ⟨e1,cx,_,h5⟩:=m1 _ hm
   simp only[hn] at h5
   rcases h5 with ⟨_,h5⟩|⟨_,h5⟩<;>cases h5
 have nO:len≤maxLen:=by
  have:len*1≤len*P.cellsOf e:=uq _ jY
  simp only[maxLen]
  omega
 obtain ⟨n1,n2,n3⟩:=xT S1 (cap:=len) ay kL (by rw[f2.1,f3]) (by rw[f3];exact bV _) nO f2.2
 have c8:=abm w t e len (ps.map fun (i,x)=>(i,a.eval x)) cells i z hu hi hz (by rw[h3];omega) (by rw[h3];simpa using f1)
 refine ⟨_,_,_,_,c8,rJ.trans n1,n2,?_⟩
 rw[f3] at n3
 exact n3
theorem QS (S:aH P w I β hp B M w0) {t e:TypeId} {nb:Nat} {kl kc:IntKind} {n m:Int} {r:R} {rd:List Nat} (hu:P.underlying t=some (.slice e))
  (h:(Rd.aE (mF P e&&(decide (0≤n)&&(decide (n≤m)&&Nat.ble (m.toNat*P.bytesOf e) cI)))
    (jz nb (.arr e (List.replicate n.toNat (cA P e (eL P e))) false) (.whole e nb) [])).run C hp=some (r,rd)):
  db P ((Instr.makeSlice t (.int kl n) (.int kc m)).run P w) w I β hp B M w0 r:=by
 obtain ⟨hc,h⟩:=aK h
 simp only[aO,ej,dX] at hc
 obtain ⟨cY,h0,jS,dZ⟩:=hc
 have ay:cX P e=true:=by
  unfold mF at cY;simp only[aO] at cY;exact cY.1
 obtain ⟨hn,rfl⟩:=nS h
 obtain ⟨i,z,hi,hz,h3,h4,_⟩:=Bi (w:=w) (I:=I) cY
 have lB:P.bytesOf e=i.bytes:=by simp[Program.bytesOf,hi]
 have Kx:m≤9223372036854775807:=by
  have h1:m.toNat*1≤m.toNat*P.bytesOf e:=uq _ (xB ay)
  simp only[cI] at dZ
  omega
 have c8:=run_make (P:=P) w t e i z hu hi hz kl kc n m h0 jS (by
  rw[lB] at dZ
  simp only[cI] at dZ
  have:(i.bytes:Int)*m=((m.toNat*i.bytes:Nat):Int):=by
   rw[Int.natCast_mul,Int.toNat_of_nonneg (by omega),Int.mul_comm]
  rw[this]
  omega) Kx
 have hlen:(List.replicate n.toNat (cA P e (eL P e))).length=n.toNat:=by simp
 obtain ⟨n1,n2,n3⟩:=xT S (cap:=m.toNat) (es:=List.replicate n.toNat (cA P e (eL P e))) (C0:=madeCells z.cells (m.toNat*i.size)) ay hn (by rw[size_madeCells,h3]) (by rw[hlen];omega) (by simp only[maxLen];omega)
  (by rw[h3];exact FQ cY hi hz n.toNat m.toNat (by omega))
 refine ⟨_,_,_,_,c8,n1,n2,?_⟩
 rw[hlen] at n3
 exact n3
theorem Ky: ∀{l:List V} {j:Nat} {e1:TypeId} {k:List V},AO l=true→V.nth l j= .list e1 k→k=[]
 | [],j,e1,k,_,h=>by cases j<;>cases h
 | x::l,0,e1,k,hn,h=>by
  simp only[V.nth] at h
  subst h
  cases k with
  | nil=>rfl
  | cons _ _=>cases hn
 | x::l,j+1,e1,k,hn,h=>by
  refine Ky (l:=l) (j:=j) ?_ h
  cases x with
  | list e2 k2=>
   cases k2 with
   | nil=>exact hn
   | cons _ _=>cases hn
  | _=>exact hn
theorem abp {e:TypeId} {n:Nat} (ay:cX P e=true) (h:AO (eL P e)=true):
  ∀(i j:Nat) x t' e1 l,(List.replicate n (cA P e (eL P e)))[i]? =some x→(bc P e)[j]? =some t'→bQ P e x j= .list e1 l→l=[]:=by
 intro i j x t' e1 l hx ht hl
 have:=List.eq_of_mem_replicate (jR hx)
 subst this
 unfold bQ cA at hl
 cases ha:bO P e with
 | true=>rw[ha] at hl;exact Ky h hl
 | false=>rw[ha] at hl;exact Ky h hl
theorem abq (S:aH P w I β hp B M w0) {t e:TypeId} {nb:Nat} {kl kc:IntKind} {n m:Int} {r:R} {rd:List Nat} (hu:P.underlying t=some (.slice e))
  (h:(Rd.aE (mF P e&&(decide (0≤n)&&(decide (n≤m)&&Nat.ble (m.toNat*P.bytesOf e) cI)))
    (Rd.aE (AO (eL P e)) (jz nb (.nest e (List.replicate n.toNat (cA P e (eL P e))) [0,0,0]) (.whole e nb) []))).run C hp=some (r,rd)):
  db P ((Instr.makeSlice t (.int kl n) (.int kc m)).run P w) w I β hp B M w0 r:=by
 obtain ⟨hc,h⟩:=aK h
 simp only[aO,ej,dX] at hc
 obtain ⟨cY,h0,jS,dZ⟩:=hc
 have ay:cX P e=true:=by
  unfold mF at cY;simp only[aO] at cY;exact cY.1
 obtain ⟨hnr,h⟩:=aK h
 obtain ⟨hn,rfl⟩:=nS h
 obtain ⟨i,z,hi,hz,h3,h4,_⟩:=Bi (w:=w) (I:=I) cY
 have lB:P.bytesOf e=i.bytes:=by simp[Program.bytesOf,hi]
 have Kx:m≤9223372036854775807:=by
  have h1:m.toNat*1≤m.toNat*P.bytesOf e:=uq _ (xB ay)
  simp only[cI] at dZ
  omega
 have c8:=run_make (P:=P) w t e i z hu hi hz kl kc n m h0 jS (by
  rw[lB] at dZ
  simp only[cI] at dZ
  have:(i.bytes:Int)*m=((m.toNat*i.bytes:Nat):Int):=by
   rw[Int.natCast_mul,Int.toNat_of_nonneg (by omega),Int.mul_comm]
  rw[this]
  omega) Kx
 have hlen:(List.replicate n.toNat (cA P e (eL P e))).length=n.toNat:=by simp
 obtain ⟨n1,n2,n3⟩:=abl S (cap:=m.toNat) (es:=List.replicate n.toNat (cA P e (eL P e))) (C0:=madeCells z.cells (m.toNat*i.size)) ay hn (by rw[size_madeCells,h3]) (by rw[hlen];omega) (by simp only[maxLen];omega)
  (by rw[h3];exact FQ cY hi hz n.toNat m.toNat (by omega))
  (abp ay hnr)
 refine ⟨_,_,_,_,c8,n1,n2,?_⟩
 rw[hlen] at n3
 exact n3
theorem Pure.one {t:TypeId} {v:Value} {x:V} (h:Pure P w I t v x):v.oneCell'=true:=by cases h<;>rfl
structure Row (P:Program) (w:World) (I:Nat→Prop) (e:TypeId) (v:Value) (xs:List V) (a:Addr) (c:Nat) (news:List Value):Prop where
 val:v= .slice (some a) xs.length c
 len:news.length=xs.length*P.cellsOf e
 cell: ∀(j:Nat) u,news[j]? =some u→w.cell? (a.add j)=some u
 el: ∀(i j:Nat) (x:V) (t':TypeId),xs[i]? =some x→(bc P e)[j]? =some t'→j<P.cellsOf e→∃u,news[i*P.cellsOf e+j]? =some u∧Pure P w I t' u (bQ P e x j)
theorem Row.one {e:TypeId} {v:Value} {xs:List V} {a:Addr} {c:Nat} {news:List Value} (h:Row P w I e v xs a c news) (ay:cX P e=true): ∀u∈news,u.oneCell'=true:=by
 intro u hu
 obtain ⟨k,hk⟩:=sL hu
 have iK:=(bw.1 hk).1
 have jY:=(kG ay).2
 rw[h.len] at iK
 have hi:k/P.cellsOf e<xs.length:=Nat.div_lt_of_lt_mul (by rw[lj];exact iK)
 have hj:k %P.cellsOf e<P.cellsOf e:=xe _ jY
 have gb:k %P.cellsOf e<(bc P e).length:=by rw[fL ay];exact hj
 obtain ⟨u',fv,hp⟩:=h.el (k/P.cellsOf e) (k %P.cellsOf e) _ _ (bH hi) (bH gb) hj
 rw[Nat.div_add_mod'] at fv
 rw[hk] at fv
 cases fv
 exact hp.one
theorem QT {e:TypeId} {es:List V} {b:Nat} {Ca:Array Value} {off len cap o:Nat} (hh:w.heap[b]? =some (.cells Ca e (0,0))) (hs:es.length*P.cellsOf e≤Ca.size)
  (hx: ∀(i j:Nat) (x:V) (t':TypeId),es[i]? =some x→(bc P e)[j]? =some t'→j<P.cellsOf e→∃v,Ca[i*P.cellsOf e+j]? =some v∧Pure P w I t' v (bQ P e x j))
  (lq:off+len≤es.length) (ho:0<len→o=off*P.cellsOf e):
  Row P w I e (.slice (some ⟨b,o,none⟩) len cap) ((es.drop off).take len) ⟨b,o,none⟩ cap ((Ca.toList.drop (off*P.cellsOf e)).take (len*P.cellsOf e)):=by
 have hlen:((es.drop off).take len).length=len:=by simp;omega
 have hb:(off+len)*P.cellsOf e≤Ca.size:=lg (dL _ lq) hs
 rw[dA] at hb
 refine ⟨by rw[hlen],by rw[hlen];simp;omega,fun j u hj=> ?_,fun i j x t' gG ht hj=> ?_⟩
 ·have cp:=(bw.1 hj).1
  have Kz:j<len*P.cellsOf e:=by
   rw[fT] at cp;omega
  have jZ:0<len:=by
   rcases Nat.eq_zero_or_pos len with h|h
   ·rw[h] at Kz;simp at Kz
   ·exact h
  rw[ff Kz,iy] at hj
  rw[nP,cell?_cells hh,ho jZ]
  simpa using hj
 ·have hi:i<len:=by rw[←hlen];exact (bw.1 gG).1
  rw[ff hi,iy] at gG
  obtain ⟨u,hu,hp⟩:=hx (off+i) j x t' gG ht hj
  refine ⟨u,?_,hp⟩
  have:i*P.cellsOf e+j<len*P.cellsOf e:=by
   have:(i+1)*P.cellsOf e≤len*P.cellsOf e:=dL _ hi
   rw[dA] at this
   omega
  rw[ff this,iy]
  rw[dA] at hu
  rw[←oN]
  simpa using hu
theorem FR (cL: ∀id blk,hp id=some blk→ee P w I β hp (β id) blk) {e:TypeId} {v:Value} {x:V} {k:List V→Rd R} {r:R} {rd:List Nat} (ay:cX P e=true) (hv:ao P w I β hp v x)
  (h:(sW e x k).run C hp=some (r,rd)): ∃xs,(((∃a,v= .slice a 0 0)∧xs=[])∨∃a c news,Row P w I e v xs a c news)∧∃l,(k xs).run C hp=some (r,l):=by
 cases hv with
 | list hp'=>
  obtain ⟨hc,U⟩:=aK h
  clear h
  rw[a9] at hc
  subst hc
  cases hp' with
  | nil=>exact ⟨[],.inl ⟨⟨_,rfl⟩,rfl⟩,rd,U⟩
  | @emp a cap=>exact ⟨[],.inr ⟨a,cap,[],⟨rfl,by simp,fun j u hj=>by simp at hj,fun i j x t' hx _ _=>by simp at hx⟩⟩,rd,U⟩
  | @list b o len cap es g hl ch hI gr hx=>
   refine ⟨_,.inr ⟨⟨b,o,none⟩,cap,(List.range (len*P.cellsOf e)).map fun k=>g (k/P.cellsOf e) (k %P.cellsOf e),⟨by rw[hl],by rw[hl];simp,fun j u hj=> ?_,fun i j x t' gG ht hj=> ?_⟩⟩,rd,U⟩
   ·obtain ⟨cp,iI⟩:=bw.1 hj
    simp at cp iI
    have jY:=(kG ay).2
    have hi:j/P.cellsOf e<len:=Nat.div_lt_of_lt_mul (by rw[lj];exact cp)
    have gv:j %P.cellsOf e<P.cellsOf e:=xe _ jY
    rw[nP,←iI]
    have:=gr (j/P.cellsOf e) (j %P.cellsOf e) hi gv
    rwa [Nat.div_add_mod'] at this
   ·have hi:i<len:=by rw[←hl];exact (bw.1 gG).1
    have hb:i*P.cellsOf e+j<len*P.cellsOf e:=by
     have:(i+1)*P.cellsOf e≤len*P.cellsOf e:=dL _ hi
     rw[dA] at this
     omega
    refine ⟨g i j,?_,hx i j x t' gG ht⟩
    have e1:(i*P.cellsOf e+j)/P.cellsOf e=i:=by
     rw[lj,Nat.mul_add_div (kG ay).2,Nat.div_eq_of_lt hj,Nat.add_zero]
    have e2:(i*P.cellsOf e+j) %P.cellsOf e=j:=by
     rw[lj,Nat.mul_add_mod];exact Nat.mod_eq_of_lt hj
    simp[hb,e1,e2]
 | nilS=>
  obtain ⟨hc,h⟩:=aK h
  exact ⟨[],.inl ⟨⟨_,rfl⟩,rfl⟩,rd,h⟩
 | dO ab hb=>
  obtain ⟨l,h⟩:=run_get h
  simp only[ab] at h
  obtain ⟨hc,h⟩:=aK h
  exact ⟨[],.inl ⟨⟨_,rfl⟩,rfl⟩,l,h⟩
 | @whole e' id es fz b cap ab hb bd ch hm=>
  obtain ⟨l,h⟩:=run_get h
  simp only[ab] at h
  obtain ⟨hc,U⟩:=aK h
  clear h
  simp only[aO,a9] at hc
  obtain ⟨rfl,_⟩:=hc
  have hr:=cL _ _ ab
  cases hr with
  | dP aB=>rw[aB] at hb;cases hb
  | arr Ke aB hh hs hf ep hx=>
   rw[hb] at aB;cases aB
   have:=QT (cap:=cap) (off:=0) (len:=es.length) (o:=0) hh hs hx (by omega) (fun _=>by simp)
   exact ⟨es,.inr ⟨_,_,_,by simpa using this⟩,l,U⟩
 | ga ab hb=>
  obtain ⟨l,h⟩:=run_get h
  simp only[ab] at h
  obtain ⟨hc,h⟩:=aK h
  exact ⟨[],.inl ⟨⟨_,rfl⟩,rfl⟩,l,by simpa using h⟩
 | @sub e' id off len es fz b o cap ab hb lq ch ho=>
  obtain ⟨l,h⟩:=run_get h
  simp only[ab] at h
  obtain ⟨hc,U⟩:=aK h
  clear h
  simp only[aO,a9] at hc
  obtain ⟨rfl,_⟩:=hc
  have hr:=cL _ _ ab
  cases hr with
  | dP aB=>rw[aB] at hb;cases hb
  | arr Ke aB hh hs hf ep hx=>
   rw[hb] at aB;cases aB
   exact ⟨_,.inr ⟨_,_,_,QT (cap:=cap) hh hs hx lq ho⟩,l,U⟩
 | eo ab=>
  obtain ⟨l,h⟩:=run_get h
  simp only[ab] at h
  cases h
 | gq ab=>
  obtain ⟨l,h⟩:=run_get h
  simp only[ab] at h
  cases h
 | undef=>cases h
 | int=>cases h
 | bool=>cases h
 | str=>cases h
 | agg=>cases h
 | bn=>cases h
 | dB=>cases h
 | fn=>cases h
 | pref=>cases h
 | kE=>cases h
 | ptr=>cases h
 | jV=>cases h
 | jW=>cases h
 | row=>cases h
 | cJ=>cases h
 | dE=>cases h
 | iH=>cases h
 | cE=>cases h
 | eC ab=>
  obtain ⟨l,h⟩:=run_get h
  simp only[ab] at h
  cases h
theorem QU {t ty e:TypeId} {i:TypeInfo} (ht:P.underlying t=some (.slice e)) (hi:P.info? e=some i) (a:Option Addr) (n cap:Nat) (x:Value) (hx: ∃a c,x= .slice a 0 c) (hn:n≤cap):
  (Builtin.append_ #[t,t] ty #[.slice a n cap,x]).run P w= .ok (.slice a n cap) w:=by
 obtain ⟨a',c,rfl⟩:=hx
 cases a' with
 | none=>cases a<;>simp[Builtin.append_,run_underlying ht,sizeOf,typeInfo,hi,Builtin.lenOf,Builtin.firstCells,hn,storeCells]
 | some a'=>cases a<;>simp[Builtin.append_,run_underlying ht,sizeOf,typeInfo,hi,Builtin.lenOf,Builtin.firstCells,hn,storeCells,loadCells,loadCellsFrom]
theorem FT {e:TypeId} {es xs:List V} {n:Nat} {c:List Value} {news:List Value} (hn:es.length=n)
  (h1: ∀(i j:Nat) (x:V) (t':TypeId),es[i]? =some x→(bc P e)[j]? =some t'→j<P.cellsOf e→∃v,c[i*P.cellsOf e+j]? =some v∧Pure P w I t' v (bQ P e x j))
  (U: ∀(i j:Nat) (x:V) (t':TypeId),xs[i]? =some x→(bc P e)[j]? =some t'→j<P.cellsOf e→∃v,news[i*P.cellsOf e+j]? =some v∧Pure P w I t' v (bQ P e x j))
  (hb:n*P.cellsOf e≤c.length) (rest:List Value):
  ∀(i j:Nat) (x:V) (t':TypeId),(es++xs)[i]? =some x→(bc P e)[j]? =some t'→j<P.cellsOf e→∃v,(c.take (n*P.cellsOf e)++news++rest)[i*P.cellsOf e+j]? =some v∧Pure P w I t' v (bQ P e x j):=by
 intro i j x t' hx ht hj
 have hl:(c.take (n*P.cellsOf e)).length=n*P.cellsOf e:=by simp;omega
 by_cases hi:i<n
 ·rw[iT (by omega)] at hx
  obtain ⟨v,hv,hp⟩:=h1 i j x t' hx ht hj
  have:i*P.cellsOf e+j<n*P.cellsOf e:=by
   have:(i+1)*P.cellsOf e≤n*P.cellsOf e:=dL _ hi
   rw[dA] at this
   omega
  exact ⟨v,by rw[cw,iT (by omega),ff this];exact hv,hp⟩
 ·rw[iU (by omega),hn] at hx
  obtain ⟨v,hv,hp⟩:=U (i-n) j x t' hx ht hj
  have ia:i-n<xs.length:=(bw.1 hx).1
  have e1:i*P.cellsOf e+j-n*P.cellsOf e=(i-n)*P.cellsOf e+j:=by
   rw[Nat.sub_mul]
   have:n*P.cellsOf e≤i*P.cellsOf e:=dL _ (by omega)
   omega
  have h3:(i-n)*P.cellsOf e+j<news.length:=(bw.1 hv).1
  refine ⟨v,?_,hp⟩
  have h4:n*P.cellsOf e≤i*P.cellsOf e+j:=by
   have:n*P.cellsOf e≤i*P.cellsOf e:=dL _ (by omega)
   omega
  rw[cw,iU (by omega),hl,e1,iT h3]
  exact hv
theorem Pure.drew {t:TypeId} {v:Value} {x:V} (h:Pure P w I t v x):Pure P w.drew I t v x:=Pure.mono (w:=w) (w':=w.drew) (fun _ h=>h) (fun _ _=>rfl) h
theorem abr (w:World) (t ty e:TypeId) (i:TypeInfo) (z:Value) (ht:P.underlying t=some (.slice e)) (hi:P.info? e=some i) (hz:i.zero=some z)
  (a0:Option Addr) (a:Addr) (n c:Nat) (news:List Value) (hl:news.length=n*i.size) (FU: ∀j v,news[j]? =some v→w.cell? (a.add j)=some v)
  (h0:0<n) (FV:(n:Int)≤9223372036854775807) (FW:n*i.bytes≤281474976710656):
  (Builtin.append_ #[t,t] ty #[.slice a0 0 0,.slice (some a) n c]).run P w=
   .ok (.slice (some ⟨w.heap.size,0,none⟩) n (grownCap w n 0 e)) (w.drew.alloc (.cells (news.toArray++Builtin.zeroCells z.cells (grownCap w n 0 e-n)) e)):=by
 cases a0 with
 | none=>exact run_append_nil w t ty e i z ht hi hz a n c news hl FU h0 FV FW
 | some b=>
  have:=run_append_grow (P:=P) w t ty e i z ht hi hz b 0 0 [] (by simp) (by simp) a n c news hl FU (by omega) (by omega) (by rw[gV,nextslicecap_zero h0];omega)
  simpa using this
theorem KA (S:aH P w I β hp B M w0) {t ty e:TypeId} {nb:Nat} {x:Value} {xs:List V} (hu:P.underlying t=some (.slice e)) (ay:cX P e=true) (hn:hp nb=none)
  (dZ:xs.length*P.bytesOf e≤cI) {a0:Option Addr} (hx:((∃a,x= .slice a 0 0)∧xs=[])∨∃a c news,Row P w I e x xs a c news):
  ∃v w' β',(Builtin.append_ #[t,t] ty #[.slice a0 0 0,x]).run P w= .ok v w'∧Le P w I β hp w' I β' (aM hp nb (some (.arr e xs false)))∧aH P w' I β' (aM hp nb (some (.arr e xs false))) B M w0∧
   ao P w' I β' (aM hp nb (some (.arr e xs false))) v (.whole e nb):=by
 obtain ⟨i,z,hi,hz,h3,h4,_⟩:=kK ay
 have u5:=xB ay
 have lB:P.bytesOf e=i.bytes:=by simp[Program.bytesOf,hi]
 have hlen:xs.length≤2^45:=by
  have:xs.length*1≤xs.length*P.bytesOf e:=uq _ u5
  simp only[cI] at dZ
  omega
 have empty:xs=[]→(∃a c,x= .slice a 0 c)→∃v w' β',(Builtin.append_ #[t,t] ty #[.slice a0 0 0,x]).run P w= .ok v w'∧Le P w I β hp w' I β' (aM hp nb (some (.arr e xs false)))∧aH P w' I β' (aM hp nb (some (.arr e xs false))) B M w0∧
   ao P w' I β' (aM hp nb (some (.arr e xs false))) v (.whole e nb):=by
  intro gI KC
  subst gI
  obtain ⟨a1,a2⟩:=Fv S e hn
  exact ⟨_,_,_,QU hu hi a0 0 0 x KC (bV _),a1,a2,.dO (c7 _ _ _) (c7 _ _ _)⟩
 rcases hx with ⟨⟨_,rfl⟩,rfl⟩|⟨a,c,news,hr⟩
 ·exact empty rfl ⟨_,_,rfl⟩
 ·by_cases h0:xs.length=0
  ·have gI:xs=[]:=lO h0
   refine empty gI ⟨some a,c,?_⟩
   rw[hr.val,h0]
  ·have c8:=abr (P:=P) w t ty e i z hu hi hz a0 a xs.length c news (by rw[hr.len,h3]) hr.cell (by omega) (by omega) (by rw[←lB];simp only[cI] at dZ;omega)
   have p5:=grownCap_ge w xs.length 0 e
   have u6:grownCap w xs.length 0 e≤maxLen:=grownCap_le_maxLen w xs.length 0 e (by simp only[maxLen];omega)
   obtain ⟨n1,n2,n3⟩:=xT S.drew (nb:=nb) (cap:=grownCap w xs.length 0 e) (es:=xs) (C0:=news.toArray++Builtin.zeroCells z.cells (grownCap w xs.length 0 e-xs.length)) ay hn
    (by simp only[EK,qW,size_zeroCells,h4,hr.len,←dA];congr 1;omega) p5 u6
    (fun i' j y t' hy ht hj=>by
     obtain ⟨u,fv,hp⟩:=hr.el i' j y t' hy ht hj
     have aQ:=(bw.1 fv).1
     refine ⟨u,?_,Pure.drew hp⟩
     rw[Array.getElem?_append_left (by simpa using aQ)]
     simpa using fv)
   rw[hr.val]
   exact ⟨_,_,_,c8,(Le.drew w I β hp).trans n1,n2,n3⟩
theorem abt (S:aH P w I β hp B M w0) {t ty e:TypeId} {nb:Nat} {s x:Value} {sv xv:V} {r:R} {rd:List Nat} (hu:P.underlying t=some (.slice e)) (hs:ao P w I β hp s sv) (hx:ao P w I β hp x xv)
  (h:(xn P nb e sv xv).run C hp=some (r,rd)):db P ((Builtin.append_ #[t,t] ty #[s,x]).run P w) w I β hp B M w0 r:=by
 unfold xn at h
 obtain ⟨ay,h⟩:=aK h
 obtain ⟨xs,ma,l0,h⟩:=FR S.h.rel ay hx h
 cases sv with
 | nilS e'=>
  obtain ⟨hc,h⟩:=aK h
  simp only[aO,a9,ej] at hc
  obtain ⟨hn,rfl⟩:=nS h
  obtain ⟨a0,rfl⟩: ∃a0,s= .slice a0 0 0:=by cases hs;exact ⟨_,rfl⟩
  obtain ⟨v,w',β',a1,a2,a3,a4⟩:=KA (ty:=ty) S hu ay hn hc.2 ma
  exact ⟨v,w',I,β',a1,a2,a3,a4⟩
 | whole e' id=>
  obtain ⟨l,h⟩:=run_get h
  cases ab:hp id with
  | none=>rw[ab] at h;cases h
  | some blk=>
   rw[ab] at h
   cases blk with
   | dead=>cases h
   | var _=>cases h
   | nest _ _ _=>cases h
   | map _ _=>cases h
   | arr dM es fz=>
    cases fz with
    | true=>cases h
    | false=>
     obtain ⟨hc,h⟩:=aK h
     obtain ⟨hn,rfl⟩:=nS h
     simp only[aO,a9,ej] at hc
     obtain ⟨KD,KE,dZ⟩:=hc
     subst KD
     subst KE
     have bD:nb≠id:=fun e=>by rw[e,ab] at hn;cases hn
     obtain ⟨k1,k2⟩:=Fw S ab
     have kL:aM hp id (some an.dead) nb=none:=by rw[er _ _ bD];exact hn
     cases hs with
     | eo hd=>rw[ab] at hd;cases hd
     | eC hd=>rw[ab] at hd;cases hd
     | dO hd hb=>
      rw[ab] at hd
      cases hd
      simp only[List.length_nil,gV] at dZ
      have abu:((∃a,x= .slice a 0 0)∧xs=[])∨∃a c news,Row P w I e x xs a c news:=ma
      obtain ⟨v,w',β',a1,a2,a3,a4⟩:=KA (ty:=ty) k2 hu ay kL dZ abu
      exact ⟨v,w',I,β',a1,k1.trans a2,a3,a4⟩
     | @whole _ _ aR nF b cap hd hb bd ch hm=>
      rw[ab] at hd
      cases hd
      have hr:=S.h.rel id _ ab
      cases hr with
      | dP aB=>rw[aB] at hb;cases hb
      | @arr _ _ _ b' Ca _ aB hh p7 hf ep mP=>
       rw[hb] at aB
       cases aB
       obtain ⟨i,z,hi,hz,h3,h4,_⟩:=kK ay
       have u5:=xB ay
       have lB:P.bytesOf e=i.bytes:=by simp[Program.bytesOf,hi]
       have hlen:es.length+xs.length≤2^45:=by
        have:(es.length+xs.length)*1≤(es.length+xs.length)*P.bytesOf e:=uq _ u5
        simp only[cI] at dZ
        omega
       rw[nK hh] at bd
       have rB: ∀aG blk',aM hp id (some an.dead) aG=some blk'→¬bC P w (β aG) blk' b:=by
        intro aG blk' h1 U
        by_cases jh:aG=id
        ·subst jh;rw[c7] at h1;cases h1;exact U.alive rfl
        ·rw[er _ _ jh] at h1
         exact jh (S.h.inj aG id blk' _ b h1 ab U (.root (by simp) hb))
       have KF:=S.h.s6 id _ b ab (by simp) hb
       have room: ∀(C':Array Value) (w':World) (ys:List V),w'.heap[b]? =some (.cells C' e (0,0))→C'.size=Ca.size→(∀b',b'≠b→w'.heap[b']? =w.heap[b']?)→w.heap.size≤w'.heap.size→(w'.os=w.os∧w'.output=w.output)→ys.length≤cap→
         (∀(i j:Nat) (y:V) (t':TypeId),ys[i]? =some y→(bc P e)[j]? =some t'→j<P.cellsOf e→∃v,C'[i*P.cellsOf e+j]? =some v∧Pure P w I t' v (bQ P e y j))→
         Le P w I β hp w' I (aM β nb (some b)) (aM (aM hp id (some .dead)) nb (some (.arr e ys false)))∧aH P w' I (aM β nb (some b)) (aM (aM hp id (some .dead)) nb (some (.arr e ys false))) B M w0∧
         ao P w' I (aM β nb (some b)) (aM (aM hp id (some .dead)) nb (some (.arr e ys false))) (.slice (some ⟨b,0,none⟩) ys.length cap) (.whole e nb):=by
        intro C' w' ys hC o4 hw' hwz abv uZ hy
        obtain ⟨a1,a2⟩:=A4 k2 (blk:= .arr e ys false) (w':=w') kL rB (ep rfl) (fun b' h _=>hw' b' h) hwz abv KF
         (fun b' h=>(cT (h.flat (by simp))).symm) (fun hle=> .arr ay rfl hC (by rw[o4,←bd];exact dL _ uZ) (fun h=>by cases h) (fun _=>ep rfl) fun i j y t' a b c=>by
          obtain ⟨v,hv,hp⟩:=hy i j y t' a b c
          exact ⟨v,hv,hp.mono hle.dq hle.cm⟩)
        refine ⟨k1.trans a1,a2,.whole (c7 _ _ _) (c7 _ _ _) ?_ uZ hm⟩
        rw[nK hC,o4,bd]
       have same:xs=[]→(∃a c,x= .slice a 0 c)→db P ((Builtin.append_ #[t,t] ty #[.slice (some ⟨b,0,none⟩) es.length cap,x]).run P w) w I β hp B M w0 ⟨.whole e nb,[(nb,.arr e (es++xs) false),(id,.dead)]⟩:=by
        intro gI KC
        subst gI
        rw[dy]
        obtain ⟨a1,a2,a3⟩:=room Ca w es hh rfl (fun _ _=>rfl) (bV _) ⟨rfl,rfl⟩ ch mP
        exact ⟨_,_,_,_,QU hu hi _ _ _ x KC ch,a1,a2,a3⟩
       rcases ma with ⟨⟨_,rfl⟩,rfl⟩|⟨a,c,news,cM⟩
       ·exact same rfl ⟨_,_,rfl⟩
       ·have h1:=cM.one ay
        have l9:es.length*P.cellsOf e≤Ca.toList.length:=by simpa using p7
        by_cases ti:es.length+xs.length≤cap
        ·have Bj:es.length*P.cellsOf e+news.length≤Ca.size:=by rw[cM.len,←dA,←bd];exact dL _ ti
         have c8:=run_append_room (P:=P) w t ty e i hu hi b es.length cap Ca hh a xs.length c news (by rw[cM.len,h3]) cM.cell h1 ti (by rw[h3];exact Bj)
         rw[h3] at c8
         have cY:=FT (P:=P) (w:=w) (I:=I) (n:=es.length) (c:=Ca.toList) rfl (fun i j y t' a b c=>by
          obtain ⟨v,hv,hp⟩:=mP i j y t' a b c
          exact ⟨v,by simpa using hv,hp⟩) cM.el l9 (Ca.toList.drop (es.length*P.cellsOf e+news.length))
         obtain ⟨a1,a2,a3⟩:=room (Ca.toList.take (es.length*P.cellsOf e)++news++Ca.toList.drop (es.length*P.cellsOf e+news.length)).toArray (w.setRow b _) (es++xs)
          (setRow_heap w b Ca _ e _ hh) (by simp;omega) (fun b' aB=>setRow_other w b b' _ aB) (by simp) ⟨rfl,rfl⟩ (by simpa using ti)
          (fun i j y t' a b c=>by
           obtain ⟨v,hv,hp⟩:=cY i j y t' a b c
           exact ⟨v,by simpa using hv,hp⟩)
         rw[cM.val]
         rw[cB] at a3
         exact ⟨_,_,_,_,c8,a1,a2,a3⟩
        ·have hold: ∀(j:Nat) v,(Ca.toList.take (es.length*P.cellsOf e))[j]? =some v→w.cell? ((⟨b,0,none⟩:Addr).add j)=some v:=by
          intro j v hj
          have cp:=(bw.1 hj).1
          have gv:j<es.length*P.cellsOf e:=by rw[fT] at cp;omega
          rw[ff gv] at hj
          rw[nP,cell?_cells hh,gV]
          simpa using hj
         have c8:=run_append_grow (P:=P) w t ty e i z hu hi hz ⟨b,0,none⟩ es.length cap (Ca.toList.take (es.length*P.cellsOf e)) (by rw[h3];simp;omega) hold a xs.length c news (by rw[cM.len,h3]) cM.cell (by omega) (by omega)
          (growslice_fits (by omega) (by rw[←lB];simp only[cI] at dZ;omega))
         have p5:=grownCap_ge w (es.length+xs.length) cap e
         have u6:grownCap w (es.length+xs.length) cap e≤maxLen:=grownCap_le_maxLen w _ cap e (by simp only[maxLen];omega)
         have cY:=FT (P:=P) (w:=w) (I:=I) (n:=es.length) (c:=Ca.toList) rfl (fun i j y t' a b c=>by
          obtain ⟨v,hv,hp⟩:=mP i j y t' a b c
          exact ⟨v,by simpa using hv,hp⟩) cM.el l9 (Builtin.zeroCells z.cells (grownCap w (es.length+xs.length) cap e-(es.length+xs.length))).toList
         obtain ⟨n1,n2,n3⟩:=xT k2.drew (nb:=nb) (cap:=grownCap w (es.length+xs.length) cap e) (es:=es++xs)
          (C0:=(Ca.toList.take (es.length*P.cellsOf e)).toArray++news.toArray++Builtin.zeroCells z.cells (grownCap w (es.length+xs.length) cap e-(es.length+xs.length))) ay kL
          (by
           have e1:(Ca.toList.take (es.length*P.cellsOf e)).length=es.length*P.cellsOf e:=by simp;omega
           simp only[EK,qW,size_zeroCells,h4,cM.len,e1,←dA];congr 1;omega) (by simpa using p5) u6
          (fun i j y t' a b c=>by
           obtain ⟨v,hv,hp⟩:=cY i j y t' a b c
           refine ⟨v,?_,Pure.drew hp⟩
           rw[←sM]
           simpa using hv)
         rw[cM.val]
         rw[cB] at n3
         exact ⟨_,_,_,_,c8,(k1.trans (Le.drew w I β _)).trans n1,n2,n3⟩
 | _=>cases h
end
section
variable {P:Program} {w w':World} {I I':Nat→Prop} {β β':Nat→Option Nat} {hp hp':Nat→Option an} {C:ae} {B:Nat} {M:Nat→Prop} {w0:Start}
theorem run_copy_none (w:World) {dT sT ty elem:TypeId} {i:TypeInfo} (a0:Option Addr) (QV abw:Nat) (a1:Option Addr) (QW abx:Nat) (hu:P.underlying dT=some (.slice elem)) (hi:P.info? elem=some i) (h0:Nat.min QW QV=0):
  (Builtin.copy_ #[dT,sT] ty #[.slice a0 QV abw,.slice a1 QW abx]).run P w= .ok (goInt 0) w:=by
 cases a0<;>cases a1<;>simp[Builtin.copy_,run_underlying hu,Builtin.lenOf,Builtin.firstCells,sizeOf,typeInfo,hi,h0,storeCells,loadCells,loadCellsFrom]
theorem aby (S:aH P w I β hp B M w0) {t u ty e:TypeId} {s x:Value} {sv xv:V} {r:R} {rd:List Nat} (hu:P.underlying t=some (.slice e)) (hs:ao P w I β hp s sv) (hx:ao P w I β hp x xv)
  (h:(JM P e sv xv).run C hp=some (r,rd)):db P ((Builtin.copy_ #[t,u] ty #[s,x]).run P w) w I β hp B M w0 r:=by
 unfold JM at h
 obtain ⟨ay,h'⟩:=aK h
 clear h
 simp only[aO,a9] at ay
 obtain ⟨ay,h1⟩:=ay
 obtain ⟨xs,ma,l0,h⟩:=FR S.h.rel ay hx h'
 obtain ⟨i,z,hi,hz,bd,_⟩:=kK ay
 cases sv<;>simp only at h<;>first|(cases h;done)|skip
 rename_i e' id
 obtain ⟨l,U⟩:=run_get h
 clear h
 cases ab:hp id with
 | none=>rw[ab] at U;cases U
 | some blk=>
  rw[ab] at U
  cases blk<;>simp only at U<;>first|(cases U;done)|skip
  rename_i e2 es fz
  cases fz with
  | true=>cases U
  | false=>
  obtain ⟨hc,h3⟩:=aK U
  simp only[aO,a9] at hc
  obtain ⟨rfl,rfl⟩:=hc
  obtain rfl:=aU h3
  have nT:min xs.length es.length=0→(Builtin.copy_ #[t,u] ty #[s,x]).run P w= .ok (goInt 0) w→db P ((Builtin.copy_ #[t,u] ty #[s,x]).run P w) w I β hp B M w0 ⟨.int .i64 (min xs.length es.length:Nat),[(id,.arr e (xs.take es.length++es.drop xs.length) false)]⟩:=by
   intro h0 hr
   have he:xs.take es.length++es.drop xs.length=es:=by
    rcases Nat.le_total xs.length es.length with hl|hl
    ·have:xs=[]:=lO (by omega)
     simp[this]
    ·have:es=[]:=lO (by omega)
     simp[this]
   have gu:bP hp [(id,.arr e (xs.take es.length++es.drop xs.length) false)]=hp:=by
    rw[he];exact JV hp id _ ab
   refine ⟨goInt 0,w,I,β,hr,?_⟩
   simp only[gu,h0]
   exact ⟨Le.refl w I β hp,S,.int⟩
  cases hs with
  | eo hd=>rw[ab] at hd;cases hd
  | eC hd=>rw[ab] at hd;cases hd
  | @dO _ _ fz a hd hb=>
   rw[ab] at hd
   cases hd
   refine nT (by simp) ?_
   rcases ma with ⟨⟨a',rfl⟩,rfl⟩|⟨a',c,news,cM⟩
   ·exact run_copy_none w _ _ _ _ _ _ hu hi (by simp)
   ·rw[cM.val];exact run_copy_none w _ _ _ _ _ _ hu hi (by simp)
  | @whole _ _ aR nF b cap hd hb Bk ch hm=>
   have eN:=hd
   rw[ab] at hd
   cases hd
   rcases ma with ⟨⟨a',rfl⟩,rfl⟩|⟨a',c,news,cM⟩
   ·exact nT (by simp) (run_copy_none w _ _ _ _ _ _ hu hi (by simp))
   have hr:=S.h.rel id _ ab
   cases hr with
   | dP aB=>rw[aB] at hb;cases hb
   | @arr _ _ _ b' Ca _ aB hh p7 hf ep mP=>
    rw[hb] at aB
    cases aB
    have kJ:news.length=xs.length:=by rw[cM.len,h1,nz]
    rw[h1,nz] at p7
    have kM:(news.take es.length).length=Nat.min xs.length es.length:=by
     rw[fT,kJ,Nat.min_comm]
    have FX:Nat.min xs.length es.length=min xs.length es.length:=rfl
    have c8:=run_copy_row (P:=P) w t u ty e b 0 es.length cap a' xs.length c Ca e (news.take es.length) hu (by rw[hi];simp[bd,h1]) hh kM
     (fun j v hj=>cM.cell j v (by
      have:=(bw.1 hj).1
      rw[fT] at this
      rwa [ff (by omega)] at hj)) (by rw[kM,FX];omega) (fun v hv=>cM.one ay v (List.mem_of_mem_take hv))
    rw[cM.val]
    have hq:(goInt (news.take es.length).length)= .int .i64 ((min xs.length es.length:Nat):Int):=by rw[kM];rfl
    have jE:(xs.take es.length++es.drop xs.length).length=es.length:=by simp;omega
    have o4:(Ca.toList.take 0++news.take es.length++Ca.toList.drop (0+(news.take es.length).length)).toArray.size=Ca.size:=by
     simp only[qW,cB,ur,fT,kM,FX]
     simp
     omega
    obtain ⟨a1,a2⟩:=FG S (blk':= .arr e (xs.take es.length++es.drop xs.length) false) (Cb:=(Ca.toList.take 0++news.take es.length++Ca.toList.drop (0+(news.take es.length).length)).toArray) ab (by simp) ⟨rfl,jE.symm⟩ hb (ep rfl) (by simp) hh o4
     (fun hle e8=> .arr ay rfl e8 (by rw[o4,jE,h1,nz];exact p7) (fun h=>by cases h) (fun _=>ep rfl) fun i j y t' hy ht hj=>by
      rw[h1] at hj⊢
      obtain rfl:j=0:=by omega
      rw[nz,Nat.add_zero]
      have rN:=(bw.1 hy).1
      rw[jE] at rN
      by_cases cC:i<xs.length
      ·rw[iT (by rw[fT];omega),ff rN] at hy
       obtain ⟨u',k1,k2⟩:=cM.el i 0 y t' hy ht (by omega)
       rw[h1,nz,Nat.add_zero] at k1
       refine ⟨u',?_,k2.mono hle.dq hle.cm⟩
       simp only[List.take_zero,List.nil_append,nw]
       rw[iT (by rw[fT];omega),ff rN]
       exact k1
      ·have e1:(xs.take es.length).length=xs.length:=by rw[fT];omega
       rw[iU (by omega),e1,iy,show xs.length+(i-xs.length)=i by omega] at hy
       obtain ⟨u',k1,k2⟩:=mP i 0 y t' hy ht (by omega)
       rw[h1,nz,Nat.add_zero] at k1
       refine ⟨u',?_,k2.mono hle.dq hle.cm⟩
       simp only[List.take_zero,List.nil_append,nw,gV]
       have e2:(news.take es.length).length=xs.length:=by rw[fT];omega
       rw[iU (by omega),e2,iy,show xs.length+(i-xs.length)=i by omega]
       simpa using k1)
    exact ⟨_,_,_,_,c8,a1,a2,by rw[hq];exact .int⟩
theorem abz (S:aH P w I β hp B M w0) {t ty e:TypeId} {x:Value} {xv:V} {r:R} {rd:List Nat} (hu:P.underlying t=some (.slice e)) (hx:ao P w I β hp x xv)
  (h:(JL P e xv).run C hp=some (r,rd)):db P ((Builtin.clear_ #[t] ty #[x]).run P w) w I β hp B M w0 r:=by
 unfold JL at h
 obtain ⟨cY,h'⟩:=aK h
 clear h
 have ay:cX P e=true:=by
  unfold mF at cY;simp only[aO] at cY;exact cY.1
 obtain ⟨i,z,hi,hz,bd,Bl,hzp⟩:=Bi (w:=w) (I:=I) cY
 have jY:=(kG ay).2
 cases xv<;>simp only at h'<;>first|(cases h';done)|skip
 rename_i e' id off len
 obtain ⟨l,U⟩:=run_get h'
 clear h'
 cases ab:hp id with
 | none=>rw[ab] at U;cases U
 | some blk=>
  rw[ab] at U
  cases blk<;>simp only at U<;>first|(cases U;done)|skip
  rename_i e2 es fz
  cases fz with
  | true=>cases U
  | false=>
  obtain ⟨hc,h3⟩:=aK U
  simp only[aO,a9] at hc
  obtain ⟨rfl,rfl⟩:=hc
  obtain rfl:=aU h3
  have nT:len=0→(Builtin.clear_ #[t] ty #[x]).run P w= .ok (.tuple #[]) w→db P ((Builtin.clear_ #[t] ty #[x]).run P w) w I β hp B M w0 ⟨.bn [],[(id,.arr e (es.take off++(List.replicate len (cA P e (eL P e))++es.drop (off+len))) false)]⟩:=by
   intro h0 hr
   subst h0
   have gu:bP hp [(id,.arr e (es.take off++(List.replicate 0 (cA P e (eL P e))++es.drop (off+0))) false)]=hp:=by
    simp only[List.replicate_zero,List.nil_append,Nat.add_zero,EL]
    exact JV hp id _ ab
   refine ⟨.tuple #[],w,I,β,hr,?_⟩
   simp only[gu]
   exact ⟨Le.refl w I β hp,S,.bn rfl fun j v x hj hx=>by simp at hx⟩
  cases hx with
  | gq hd=>rw[ab] at hd;cases hd
  | @ga _ _ _ a0 hd hb=>exact nT rfl (by cases a0<;>simp[Builtin.clear_,run_underlying hu])
  | @sub _ _ _ _ aR nF b o cap hd hb lq ch ho=>
   by_cases hlen:len=0
   ·refine nT hlen ?_
    subst hlen
    simp[Builtin.clear_,run_underlying hu]
   have abA:0<len:=by omega
   have eN:=hd
   rw[ab] at hd
   cases hd
   have hr:=S.h.rel id _ ab
   cases hr with
   | dP aB=>rw[aB] at hb;cases hb
   | @arr _ _ _ b' Ca _ aB hh p7 hf ep mP=>
    rw[hb] at aB
    cases aB
    have ho:=ho abA
    subst ho
    have u4:(Builtin.zeroCells z.cells len).toList.length=len*P.cellsOf e:=by rw[Array.length_toList,size_zeroCells,Bl]
    have hmul:off*P.cellsOf e+len*P.cellsOf e≤es.length*P.cellsOf e:=by rw[←dA];exact dL _ lq
    have rK: ∀v∈(Builtin.zeroCells z.cells len).toList,v.oneCell'=true:=by
     intro v hv
     obtain ⟨k,hk⟩:=sL hv
     have iK:=(bw.1 hk).1
     rw[u4] at iK
     have hzg:(Builtin.zeroCells z.cells len)[k]? =z.cells[k %z.cells.size]? :=QR (z:=z.cells) (n:=len*z.cells.size) (by rw[Bl];exact iK) (by rw[Bl];exact jY)
     rw[sM,hzg] at hk
     have hm:k %z.cells.size<P.cellsOf e:=by rw[Bl];exact xe _ jY
     have htl:k %z.cells.size<(bc P e).length:=by rw[fL ay];exact hm
     obtain ⟨v',xI,hp'⟩:=hzp (k %z.cells.size) _ (bH htl) hm
     rw[hk] at xI
     cases xI
     generalize bQ P e (cA P e (eL P e)) (k %z.cells.size)=y at hp'
     cases hp'<;>rfl
    have bM:=run_storeCells_at P b (off*P.cellsOf e) e (Builtin.zeroCells z.cells len).toList 0 Ca w hh (by rw[u4];omega) rK
    simp only[Nat.add_zero] at bM
    have c8:(Builtin.clear_ #[t] ty #[.slice (some ⟨b,off*P.cellsOf e,none⟩) len cap]).run P w= .ok (.tuple #[]) (w.setRow b (Ca.toList.take (off*P.cellsOf e)++(Builtin.zeroCells z.cells len).toList++Ca.toList.drop (off*P.cellsOf e+(Builtin.zeroCells z.cells len).toList.length)).toArray):=by
     obtain ⟨n,rfl⟩: ∃n,len=n+1:=⟨len-1,by omega⟩
     simp[Builtin.clear_,run_underlying hu,zeroValue,typeInfo,hi,hz,bM]
    have jE:(es.take off++(List.replicate len (cA P e (eL P e))++es.drop (off+len))).length=es.length:=by simp;omega
    have o4:(Ca.toList.take (off*P.cellsOf e)++(Builtin.zeroCells z.cells len).toList++Ca.toList.drop (off*P.cellsOf e+(Builtin.zeroCells z.cells len).toList.length)).toArray.size=Ca.size:=by
     simp only[qW,cB,ur,fT,u4,Array.length_toList]
     omega
    obtain ⟨a1,a2⟩:=FG S (blk':= .arr e (es.take off++(List.replicate len (cA P e (eL P e))++es.drop (off+len))) false) ab (by simp) ⟨rfl,jE.symm⟩ hb (ep rfl) (by simp) hh o4
     (fun hle e8=> .arr ay rfl e8 (by rw[o4,jE];exact p7) (fun h=>by cases h) (fun _=>ep rfl) fun i' j y t' hy ht hj=>by
      have ib:=nQ es (List.replicate len (cA P e (eL P e))) off i' (by simp;omega)
      rw[uu] at ib
      rw[ib] at hy
      have hC:(Ca.toList.take (off*P.cellsOf e)++(Builtin.zeroCells z.cells len).toList++Ca.toList.drop (off*P.cellsOf e+(Builtin.zeroCells z.cells len).toList.length)).toArray[i'*P.cellsOf e+j]? =
        if i'*P.cellsOf e+j<off*P.cellsOf e then Ca.toList[i'*P.cellsOf e+j]? else if i'*P.cellsOf e+j<off*P.cellsOf e+len*P.cellsOf e then (Builtin.zeroCells z.cells len).toList[i'*P.cellsOf e+j-off*P.cellsOf e]? else Ca.toList[i'*P.cellsOf e+j]? :=by
       have:=nQ Ca.toList (Builtin.zeroCells z.cells len).toList (off*P.cellsOf e) (i'*P.cellsOf e+j) (by rw[u4,Array.length_toList];omega)
       rw[nw,cw,this,u4]
      by_cases KG:i'<off
      ·rw[ag KG] at hy
       have:(i'+1)*P.cellsOf e≤off*P.cellsOf e:=dL _ KG
       rw[dA] at this
       rw[ag (by omega)] at hC
       obtain ⟨u,k1,k2⟩:=mP i' j y t' hy ht hj
       exact ⟨u,hC.trans (by simpa using k1),k2.mono hle.dq hle.cm⟩
      ·rw[ah KG] at hy
       have h1:off*P.cellsOf e≤i'*P.cellsOf e:=dL _ (by omega)
       rw[ah (by omega)] at hC
       by_cases ia:i'<off+len
       ·rw[ag ia] at hy
        have:(i'+1)*P.cellsOf e≤(off+len)*P.cellsOf e:=dL _ ia
        rw[dA,dA] at this
        rw[ag (by omega)] at hC
        obtain ⟨v,k1,k2⟩:=FQ (w:=w) (I:=I) cY hi hz len len (bV _) (i'-off) j y t' hy ht hj
        refine ⟨v,hC.trans ?_,k2.mono hle.dq hle.cm⟩
        rw[show i'*P.cellsOf e+j-off*P.cellsOf e=(i'-off)*P.cellsOf e+j by rw[Nat.sub_mul];omega,sM]
        unfold Builtin.zeroCells
        rw[Bl] at k1⊢
        exact k1
       ·rw[ah ia] at hy
        have:(off+len)*P.cellsOf e≤i'*P.cellsOf e:=dL _ (by omega)
        rw[dA] at this
        rw[ah (by omega)] at hC
        obtain ⟨u,k1,k2⟩:=mP i' j y t' hy ht hj
        exact ⟨u,hC.trans (by simpa using k1),k2.mono hle.dq hle.cm⟩)
    exact ⟨_,_,_,_,c8,a1,a2,.bn rfl fun j v x hj hx=>by simp at hx⟩
end
section
variable {P:Program} {w w':World} {I I':Nat→Prop} {β β':Nat→Option Nat} {hp hp':Nat→Option an} {C:ae} {B:Nat} {M:Nat→Prop} {w0:Start}
theorem abB (S:aH P w I β hp B M w0) {s:TypeId} {f:Nat} {v:Value} {x:V} {r:R} {rd:List Nat} (hv:ao P w I β hp v x)
  (h:(JP P s f x).run C hp=some (r,rd)):db P ((Instr.field s v f).run P w) w I β hp B M w0 r:=by
 unfold JP E2 at h
 split at h
 ·rename_i fs hu
  cases hf:fs[f]? with
  | none=>rw[hf] at h;cases h
  | some fd=>
   rw[hf] at h
   simp only[xo] at h
   obtain ⟨ht,h⟩:=aK h
   obtain ⟨d,u7⟩:=A8 ht
   obtain ⟨i,hi⟩:=xG u7
   have bd:i.size=P.cellsOf fd.type:=by simp[Program.cellsOf,hi]
   cases x with
   | agg xs=>
    obtain ⟨cs,rfl,h1,U⟩:=hv.ly
    dsimp only at h
    cases ha:bO P fd.type with
    | true=>
     rw[ha] at h
     simp only[cond_true] at h
     obtain ⟨hc,h⟩:=aK h
     obtain rfl:=aU h
     rw[ej] at hc
     refine .same S (v:= .agg (cs.extract fd.offset (fd.offset+P.cellsOf fd.type))) ?_ (.agg (by simp;omega) fun j u y fv hy=> ?_)
     ·simp[Instr.field,run_underlying hu,hf,part,Kc u7,ha,asAgg,sizeOf,typeInfo,hi,bd]
     ·have hj:j<P.cellsOf fd.type:=by
       have:=(iz.1 fv).1
       simp at this;omega
      rw[ff hj,iy] at hy
      refine U (fd.offset+j) u y ?_ hy
      rw[Array.getElem?_extract] at fv
      split at fv
      ·exact fv
      ·cases fv
    | false=>
     rw[ha] at h
     simp only[cond_false] at h
     obtain ⟨y,hy,h⟩:=lX h
     obtain rfl:=aU h
     have aQ:fd.offset<cs.size:=by rw[h1];exact (bw.1 hy).1
     refine .same S (v:=cs[fd.offset]) ?_ (U _ _ _ (lh aQ) hy)
     simp[Instr.field,run_underlying hu,hf,part,Kc u7,ha,asAgg,aQ]
   | _=>cases h
 ·cases h
theorem abC (S:aH P w I β hp B M w0) {i:Nat} {v:Value} {xs:List V} {r:R} {rd:List Nat} (hv:ao P w I β hp v (.bn xs))
  (h:(Rd.opt xs[i]? fun v=> .ret ⟨v,[]⟩).run C hp=some (r,rd)):db P ((Instr.extract v i).run P w) w I β hp B M w0 r:=by
 obtain ⟨cs,rfl,h1,U⟩:=hv.uS
 obtain ⟨y,hy,h⟩:=lX h
 obtain rfl:=aU h
 have aQ:i<cs.size:=by rw[h1];exact (bw.1 hy).1
 exact .same S (v:=cs[i]) (by simp[Instr.extract,aQ]) (U _ _ _ (lh aQ) hy)
theorem abD (S:aH P w I β hp B M w0) {t:TypeId} {s:ByteArray} {l:List UInt8} {k:IntKind} {i:Int} {r:R} {rd:List Nat} (hu:P.underlying t=some .string) (hs:s.data.toList=l)
  (h:(Rd.opt (bif decide (0≤i) then (l[i.toNat]?).map fun b=>V.int .u8 b.toNat else none) fun v=> .ret ⟨.int .u8 v.toInt,[]⟩).run C hp=some (r,rd)):
  db P ((Instr.index t (.string s) (.int k i)).run P w) w I β hp B M w0 r:=by
 obtain ⟨v,hv,h⟩:=lX h
 obtain rfl:=aU h
 cases hc:decide (0≤i) with
 | false=>rw[hc] at hv;cases hv
 | true=>
  rw[hc] at hv
  simp only[cond_true] at hv
  have h0:0≤i:=by simpa using hc
  cases hb:l[i.toNat]? with
  | none=>rw[hb] at hv;cases hv
  | some b=>
   rw[hb] at hv
   simp only[Option.map_some,ed] at hv
   subst hv
   have hsb:s[i.toNat]? =some b:=by
    subst hs
    obtain ⟨aQ,he⟩:=bw.1 hb
    have KH:i.toNat<s.size:=by simpa using aQ
    rw[getElem?_pos s i.toNat KH]
    congr 1
   refine .same S (v:= .int .u8 b.toNat) ?_ .int
   simp[Instr.index,asIntOf,run_underlying hu,h0,hsb]
theorem KI (S:aH P w I β hp B M w0) (mx:Bool): ∀{vs:List Value} {xs:List V} {v:Value} {x:V} {r:R} {rd:List Nat},ao P w I β hp v x→vs.length=xs.length→
  (∀(j:Nat) u y,vs[j]? =some u→xs[j]? =some y→ao P w I β hp u y)→(xp mx x xs).run C hp=some (r,rd)→
  db P ((vs.foldlM (if mx then Builtin.max2 else Builtin.min2) v).run P w) w I β hp B M w0 r
 | [],[],v,x,r,rd,hv,_,_,h=>by
  have:r=⟨x,[]⟩:=by
   cases x<;>(simp only[xp] at h;exact (aU h).symm)
  subst this
  exact .same S (by simp) hv
 | [],_::_,v,x,r,rd,hv,hl,_,h=>by simp at hl
 | _::_,[],v,x,r,rd,hv,hl,_,h=>by simp at hl
 | u::vs,y::xs,v,x,r,rd,hv,hl,hx,h=>by
  cases x<;>cases y<;>simp only[xp] at h<;>first|(cases h;done)|skip
  rename_i k a k' b
  obtain ⟨hc,h4⟩:=aK h
  clear h
  obtain rfl:k=k':=by simpa using hc
  have hu:=hx 0 u _ rfl rfl
  rw[hv.dY,hu.dY]
  have ih:=KI S mx (vs:=vs) (xs:=xs) (v:= .int k (bif mx then (if b>a then b else a) else (if b<a then b else a))) .int (by simpa using hl)
   (fun j u y h1 U=>hx (j+1) u y (by simpa using h1) (by simpa using U)) h4
  cases mx with
  | true=>simpa[List.foldlM_cons,Builtin.max2] using ih
  | false=>simpa[List.foldlM_cons,Builtin.min2] using ih
theorem rO {n cap:Nat} {isS:Bool} {lo hi:Option V} {lov hiv:Option Value} {k:Nat→Nat→Rd R} {r:R} {rd:List Nat} (hn:n≤cap)
  (ji: ∀x,lo=some x→∃v,lov=some v∧ao P w I β hp v x) (ic: ∀x,hi=some x→∃v,hiv=some v∧ao P w I β hp v x) (nU:lo=none→lov=none) (o5:hi=none→hiv=none)
  (h:(sX n lo hi k).run C hp=some (r,rd)): ∃l u,l≤u∧u≤n∧(Instr.sliceBounds isS n cap lov hiv none).run P w= .ok (l,u,cap) w∧(k l u).run C hp=some (r,rd):=by
 have ok: ∀(kk:IntKind) (i:Int) (y:Nat) (c:BoundsCode),0≤i→i≤y→(Instr.sliceBound (.int kk i) y c).run P w= .ok i.toNat w:=by
  intro kk i y c h1 U
  simp[Instr.sliceBound,asIntOf,h1,U]
 unfold sX at h
 cases lo with
 | none=>
  rw[nU rfl]
  cases hi with
  | none=>
   rw[o5 rfl]
   exact ⟨0,n,lf _,bV _,by simp[Instr.sliceBounds],h⟩
  | some x=>
   obtain ⟨v,rfl,hv⟩:=ic x rfl
   cases x<;>simp only at h<;>first|(cases h;done)|skip
   rename_i kk u
   obtain ⟨hc,h⟩:=aK h
   simp only[aO,dX] at hc
   rw[hv.dY]
   have:=ok kk u cap (if isS then .sliceAcap else .sliceAlen) hc.1 (by omega)
   exact ⟨0,u.toNat,lf _,by omega,by simp[Instr.sliceBounds,this],h⟩
 | some x=>
  obtain ⟨v,rfl,hv⟩:=ji x rfl
  cases hi with
  | none=>
   rw[o5 rfl]
   cases x<;>simp only at h<;>first|(cases h;done)|skip
   rename_i kk l
   obtain ⟨hc,h⟩:=aK h
   simp only[aO,dX] at hc
   rw[hv.dY]
   have:=ok kk l n .sliceB hc.1 (by omega)
   exact ⟨l.toNat,n,by omega,bV _,by simp[Instr.sliceBounds,this],h⟩
  | some y=>
   obtain ⟨v2,rfl,ry⟩:=ic y rfl
   cases x<;>cases y<;>simp only at h<;>first|(cases h;done)|skip
   rename_i kk l kk2 u
   obtain ⟨hc,h⟩:=aK h
   simp only[aO,dX] at hc
   rw[hv.dY,ry.dY]
   have h1:=ok kk2 u cap (if isS then .sliceAcap else .sliceAlen) (by omega) (by omega)
   have U:=ok kk l u.toNat .sliceB hc.1 (by omega)
   exact ⟨l.toNat,u.toNat,by omega,by omega,by simp[Instr.sliceBounds,h1,U],h⟩
theorem FY {a:Option Addr} {t e:TypeId} {i:TypeInfo} (hu:P.underlying t=some (.slice e)) (hi:P.info? e=some i) {lov hiv:Option Value}
  (hb:(Instr.sliceBounds true 0 0 lov hiv none).run P w= .ok (0,0,0) w):(Instr.sliceAt t (.slice a 0 0) lov hiv none).run P w= .ok (.slice a 0 0) w:=by
 cases a<;>simp[Instr.sliceAt,Instr.slice,run_underlying hu,hb,sizeOf,typeInfo,hi]
theorem KJ {t e:TypeId} {i:TypeInfo} {b o len cap l u:Nat} (hu:P.underlying t=some (.slice e)) (hi:P.info? e=some i) {lov hiv:Option Value} (huc:u≤cap)
  (hb:(Instr.sliceBounds true len cap lov hiv none).run P w= .ok (l,u,cap) w): ∃o',(0<u-l→o'=o+l*i.size)∧(Instr.sliceAt t (.slice (some ⟨b,o,none⟩) len cap) lov hiv none).run P w= .ok (.slice (some ⟨b,o',none⟩) (u-l) (cap-l)) w:=by
 by_cases hc:cap=l
 ·subst hc
  refine ⟨o,fun h=>by omega,?_⟩
  ·simp[Instr.sliceAt,Instr.slice,run_underlying hu,hb,sizeOf,typeInfo,hi]
 ·refine ⟨o+l*i.size,fun _=>rfl,?_⟩
  simp[Instr.sliceAt,Instr.slice,run_underlying hu,hb,sizeOf,typeInfo,hi,hc,nP]
theorem abE (s:ByteArray) (l:List UInt8) (h:s.data.toList=l) (a b:Nat):(s.extract a b).data.toList=(l.drop a).take (b-a):=by
 subst h
 simp[ByteArray.data_extract]
theorem abF (S:aH P w I β hp B M w0) {t:TypeId} {v:Value} {x:V} {lo hi:Option V} {lov hiv:Option Value} {r:R} {rd:List Nat} (hv:ao P w I β hp v x)
  (ji: ∀x,lo=some x→∃v,lov=some v∧ao P w I β hp v x) (ic: ∀x,hi=some x→∃v,hiv=some v∧ao P w I β hp v x) (nU:lo=none→lov=none) (o5:hi=none→hiv=none)
  (h:(E8 P t x lo hi).run C hp=some (r,rd)):db P ((Instr.sliceAt t v lov hiv none).run P w) w I β hp B M w0 r:=by
 unfold E8 at h
 cases hu:P.underlying t with
 | none=>rw[hu] at h;cases h
 | some d=>
  rw[hu] at h
  cases d<;>simp only at h<;>first|(cases h;done)|skip
  case string=>
   cases x<;>simp only at h<;>first|(cases h;done)|skip
   rename_i l
   obtain ⟨s,rfl,hs⟩:=hv.mL
   have bd:l.length=s.size:=by rw[←hs];simp
   obtain ⟨a,u,h1,U,h3,h4⟩:=rO (isS:=false) (cap:=s.size) (by omega) ji ic nU o5 h
   obtain rfl:=aU h4
   rw[bd] at h3
   refine .same S (v:= .string (s.extract a u)) ?_ (.str (abE s l hs a u))
   simp[Instr.sliceAt,Instr.slice,run_underlying hu,h3]
  case slice e=>
   cases x<;>simp only at h<;>first|(cases h;done)|skip
   case list e' es=>
    obtain ⟨hc,h⟩:=aK h
    simp only[aO,a9] at hc
    obtain ⟨dQ,ay⟩:=hc
    obtain ⟨i,z,ef,_,bd,_⟩:=kK ay
    cases hv with
    | list hp'=>
     cases hp' with
     | nil=>
      obtain ⟨a,u,h1,U,h3,h4⟩:=rO (n:=0) (isS:=true) (cap:=0) (bV _) ji ic nU o5 h
      obtain rfl:=aU h4
      obtain rfl:u=0:=by omega
      obtain rfl:a=0:=by omega
      exact .same S (FY hu ef h3) (by simpa using ao.list ja.nil)
     | @emp ad cap=>
      obtain ⟨a,u,h1,U,h3,h4⟩:=rO (n:=0) (isS:=true) (cap:=cap) (lf _) ji ic nU o5 h
      obtain rfl:=aU h4
      obtain rfl:u=0:=by omega
      obtain rfl:a=0:=by omega
      refine .same S (v:= .slice (some ad) 0 cap) ?_ (by simpa using ao.list ja.emp)
      by_cases hc:cap=0
      ·subst hc
       simp[Instr.sliceAt,Instr.slice,run_underlying hu,h3,sizeOf,typeInfo,ef]
      ·simp[Instr.sliceAt,Instr.slice,run_underlying hu,h3,sizeOf,typeInfo,ef,hc,Addr.add]
     | @list b o len cap _ g hl ch hI gr hx=>
      obtain ⟨a,u,h1,U,h3,h4⟩:=rO (isS:=true) (cap:=cap) (by omega) ji ic nU o5 h
      obtain rfl:=aU h4
      rw[hl] at U h3
      obtain ⟨o',jD,c8⟩:=KJ (b:=b) (o:=o) hu ef (by omega) h3
      have gJ:e=e':=dQ
      refine .same S c8 (.list ?_)
      rw[←gJ]
      rw[←gJ] at gr hx hI
      have hlen:((es.drop a).take (u-a)).length=u-a:=by simp;omega
      refine .list (fun i j=>g (a+i) j) hlen (by omega) (fun h=>hI (oK h (dL _ (by omega)))) (fun i j hi hj=> ?_) (fun i j y t' hy ht=> ?_)
      ·have:=gr (a+i) j (by omega) hj
       rw[dA,oN,←oN o] at this
       rw[jD (by omega),bd]
       exact this
      ·have hi:i<u-a:=by rw[←hlen];exact (bw.1 hy).1
       rw[ff hi,iy] at hy
       exact hx (a+i) j y t' hy ht
   case whole e' id=>
    obtain ⟨l,h⟩:=run_get h
    cases ab:hp id with
    | none=>rw[ab] at h;cases h
    | some blk=>
     rw[ab] at h
     cases blk<;>simp only at h<;>first|(cases h;done)|skip
     rename_i dM es fz
     obtain ⟨hc,h9⟩:=aK h
     clear h
     simp only[aO,a9] at hc
     obtain ⟨dQ,jb,ay⟩:=hc
     obtain ⟨i,z,ef,_,bd,_⟩:=kK ay
     cases hv with
     | eo hd=>rw[ab] at hd;cases hd
     | eC hd=>rw[ab] at hd;cases hd
     | dO hd hb=>
      rw[ab] at hd
      cases hd
      obtain ⟨a,u,h1,U,h3,h4⟩:=rO (n:=0) (isS:=true) (cap:=0) (bV _) ji ic nU o5 h9
      obtain rfl:=aU h4
      obtain rfl:u=0:=by omega
      obtain rfl:a=0:=by omega
      exact .same S (FY hu ef h3) (.ga ab hb)
     | @whole _ _ aR nF b cap hd hb Bk ch hm=>
      have eN:=hd
      rw[ab] at hd
      cases hd
      obtain ⟨a,u,h1,U,h3,h4⟩:=rO (isS:=true) (cap:=cap) ch ji ic nU o5 h9
      obtain rfl:=aU h4
      obtain ⟨o',jD,c8⟩:=KJ (b:=b) (o:=0) hu ef (by omega) h3
      have gJ:e=e':=dQ
      exact .same S c8 (.sub eN hb (by omega) (by omega) (fun h=>by rw[jD h,bd,gJ,gV]))
   case sub e' id off len=>
    obtain ⟨l,h⟩:=run_get h
    cases ab:hp id with
    | none=>rw[ab] at h;cases h
    | some blk=>
     rw[ab] at h
     cases blk<;>simp only at h<;>first|(cases h;done)|skip
     rename_i dM es fz
     obtain ⟨hc,h⟩:=aK h
     simp only[aO,a9] at hc
     obtain ⟨dQ,jb,ay⟩:=hc
     obtain ⟨i,z,ef,_,bd,_⟩:=kK ay
     cases hv with
     | gq hd=>rw[ab] at hd;cases hd
     | ga hd hb=>
      have eN:=hd
      obtain ⟨a,u,h1,U,h3,h4⟩:=rO (isS:=true) (cap:=0) (bV _) ji ic nU o5 h
      obtain rfl:=aU h4
      obtain rfl:u=0:=by omega
      obtain rfl:a=0:=by omega
      exact .same S (FY hu ef h3) (.ga eN hb)
     | @sub _ _ _ _ aR nF b o cap hd hb lq ch ho=>
      have eN:=hd
      obtain ⟨a,u,h1,U,h3,h4⟩:=rO (isS:=true) (cap:=cap) ch ji ic nU o5 h
      obtain rfl:=aU h4
      obtain ⟨o',jD,c8⟩:=KJ (b:=b) (o:=o) hu ef (by omega) h3
      have gJ:e=e':=dQ
      exact .same S c8 (.sub eN hb (by omega) (by omega) (fun h=>by rw[jD h,bd,ho (by omega),gJ,dA]))
theorem abG (S:aH P w I β hp B M w0) {t:TypeId} {v:Value} {x:V} {lo hi mx:Option V} {lov hiv QX:Option Value} {r:R} {rd:List Nat} (hv:ao P w I β hp v x)
  (ji:lo=none→lov=none) (ic: ∀y,hi=some y→∃u,hiv=some u∧ao P w I β hp u y) (nO: ∀y,mx=some y→∃u,QX=some u∧ao P w I β hp u y)
  (h:(JN P t x lo hi mx).run C hp=some (r,rd)):db P ((Instr.sliceAt t v lov hiv QX).run P w) w I β hp B M w0 r:=by
 unfold JN at h
 cases hu:P.underlying t with
 | none=>rw[hu] at h;cases h
 | some d=>
  rw[hu] at h
  cases d<;>(try (cases h;done))
  rename_i e
  cases lo<;>(try (cases h;done))
  cases hi<;>(try (cases h;done))
  rename_i xU
  cases xU<;>(try (cases h;done))
  cases mx<;>(try (cases h;done))
  rename_i mv1
  cases mv1<;>(try (cases h;done))
  obtain ⟨hc,h9⟩:=aK h
  clear h
  have h:=h9
  clear h9
  simp only[aO,dX] at hc
  obtain ⟨rfl,rfl,ay⟩:=hc
  obtain ⟨i,z,ef,_,_,_⟩:=kK ay
  obtain ⟨u1,rfl,k1⟩:=ic _ rfl
  obtain ⟨u2,rfl,k2⟩:=nO _ rfl
  rw[k1.dY,k2.dY,ji rfl]
  have run: ∀{k k2:IntKind} (a:Option Addr) (len cap:Nat),(Instr.sliceAt t (.slice a len cap) none (some (.int k 0)) (some (.int k2 0))).run P w= .ok (.slice a 0 0) w:=by
   intro k k2 a len cap
   cases a<;>simp[Instr.sliceAt,Instr.slice,Instr.sliceBounds,Instr.sliceBound,asIntOf,run_underlying hu,sizeOf,typeInfo,ef]
  cases x<;>(try (cases h;done))
  ·simp only at h
   obtain rfl:=aU h
   cases hv with
   | list hp'=>cases hp'<;>exact .same S (run _ _ _) .nilS
  ·simp only at h
   obtain rfl:=aU h
   cases hv
   exact .same S (run _ _ _) .nilS
  ·rename_i e' id
   simp only at h
   obtain ⟨l,h⟩:=run_get h
   cases ab:hp id with
   | none=>rw[ab] at h;cases h
   | some blk=>
    rw[ab] at h
    cases blk<;>simp only at h<;>first|(cases h;done)|skip
    all_goals
     obtain rfl:=aU h
     cases hv with
     | eo hd=>rw[ab] at hd;cases hd
     | eC hd=>exact .same S (run _ _ _) .nilS
     | dO hd hb=>exact .same S (run _ _ _) .nilS
     | whole hd=>exact .same S (run _ _ _) .nilS
theorem abH (S:aH P w I β hp B M w0) {t:TypeId} {v ix:Value} {x y:V} {r:R} {rd:List Nat} (hv:ao P w I β hp v x) (hy:ao P w I β hp ix y)
  (h:(JQ P t x y).run C hp=some (r,rd)):db P ((Instr.indexAt t v ix).run P w) w I β hp B M w0 r:=by
 unfold JQ at h
 cases hu:P.underlying t with
 | none=>rw[hu] at h;cases h
 | some d=>
  rw[hu] at h
  cases y<;>(try (cases d<;>cases h;done))
  rename_i k i
  rw[hy.dY]
  cases d<;>simp only at h<;>first|(cases h;done)|skip
  case slice e=>
   have run: ∀(b o len cap:Nat) (ie:TypeInfo),P.info? e=some ie→0≤i→i<(len:Int)→(Instr.indexAt t (.slice (some ⟨b,o,none⟩) len cap) (.int k i)).run P w= .ok (.pointer (some ⟨b,o+i.toNat*ie.size,none⟩)) w:=by
    intro b o len cap ie j5 h0 h1
    simp[Instr.indexAt,asIntOf,run_underlying hu,h0,h1,sizeOf,typeInfo,j5,nP]
   cases x<;>simp only at h<;>first|(cases h;done)|skip
   case list e' es=>
    obtain ⟨hc,h⟩:=aK h
    simp only[aO,a9] at hc
    obtain ⟨dQ,ay⟩:=hc
    have gJ:e=e':=dQ
    obtain ⟨ie,z,ef,_,bd,_⟩:=kK ay
    obtain ⟨el,cY,h⟩:=lX h
    obtain rfl:=aU h
    unfold idx at cY
    cases h0:decide (0≤i) with
    | false=>rw[h0] at cY;cases cY
    | true=>
     rw[h0] at cY
     simp only[cond_true] at cY
     have xV:0≤i:=by simpa using h0
     have aQ:i.toNat<es.length:=(bw.1 cY).1
     cases hv with
     | list hp'=>
      cases hp' with
      | nil=>simp at aQ
      | emp=>simp at aQ
      | @list b o len cap _ g hl ch hI gr hx=>
       rw[←gJ] at gr hx hI
       refine .same S (run b o len cap ie ef xV (by omega)) ?_
       have cb:=xH (P:=P) e el
       have KK:=fL ay
       have QY:(bif bO P e then flat P e else [e])=bc P e:=rfl
       rw[QY]
       refine .pref (by rw[cb]) (fun _=>hI ?_) (fun j t' y' ht A5=> ?_)
       ·have:=xb (show 0<len by omega) (kG ay).2
        exact this
       ·obtain ⟨t2,a1,a2⟩:=Kd A5
        rw[ht] at a1;cases a1
        have hj:j<P.cellsOf e:=by rw[←KK];exact (bw.1 ht).1
        have g9:=hx i.toNat j el t' cY ht
        refine ⟨g i.toNat j,?_,?_⟩
        ·rw[bd,oN];exact gr i.toNat j (by omega) hj
        ·rw[a2,g9.tc];exact g9
   case whole e' id=>
    obtain ⟨l,h⟩:=run_get h
    cases ab:hp id with
    | none=>rw[ab] at h;cases h
    | some blk=>
     rw[ab] at h
     cases blk<;>simp only at h<;>first|(cases h;done)|skip
     rename_i dM es fz
     obtain ⟨hc,h⟩:=aK h
     simp only[aO,a9] at hc
     obtain ⟨dQ,jb⟩:=hc
     obtain ⟨eO,h⟩:=aK h
     simp only[aO,dX] at eO
     obtain rfl:=aU h
     cases hv with
     | eo hd=>rw[ab] at hd;cases hd
     | eC hd=>rw[ab] at hd;cases hd
     | dO hd hb=>rw[ab] at hd;cases hd;simp at eO;omega
     | @whole _ _ aR nF b cap hd hb Bk ch hm=>
      have eN:=hd
      rw[ab] at hd
      cases hd
      have hr:=S.h.rel id _ ab
      cases hr with
      | dP aB=>rw[aB] at hb;cases hb
      | arr ay aB hh hs hf ep hx=>
       have gJ:e=e':=dQ
       obtain ⟨ie,z,ef,_,bd,_⟩:=kK ay
       rw[←gJ] at ef bd
       refine .same S (run b 0 _ cap ie ef eO.1 eO.2) ?_
       have:=ao.ptr (P:=P) (w:=w) (I:=I) (i:=i.toNat) (c:=0) eN (by simp) hb
       simp only[an.sz] at this
       rw[gV,bd,gJ]
       simpa using this
     rename_i dM es aq
     obtain ⟨hc,h⟩:=aK h
     simp only[aO,a9] at hc
     obtain ⟨dQ,jb⟩:=hc
     obtain ⟨eO,h⟩:=aK h
     simp only[aO,dX] at eO
     obtain rfl:=aU h
     cases hv with
     | eo hd=>rw[ab] at hd;cases hd
     | dO hd hb=>rw[ab] at hd;cases hd
     | whole hd=>rw[ab] at hd;cases hd
     | @eC _ _ aR vers' b cap hd hb Bk ch hm=>
      have eN:=hd
      rw[ab] at hd
      cases hd
      have ay:=(S.rows eN hb .here).ok
      have gJ:e=e':=dQ
      obtain ⟨ie,z,ef,_,bd,_⟩:=kK ay
      rw[←gJ] at ef bd
      refine .same S (run b 0 _ cap ie ef eO.1 eO.2) ?_
      have:=ao.ptr (P:=P) (w:=w) (I:=I) (i:=i.toNat) (c:=0) eN (by simp) hb
      simp only[an.sz] at this
      rw[gV,bd,gJ]
      simpa using this
   case row e' id ver path=>
    obtain ⟨e0,es,aq,l,ab,h1,U,h3,h⟩:=oX h
    obtain ⟨e2,v',k1,k2,h⟩:=xC h
    obtain ⟨hc,h⟩:=aK h
    simp only[aO,a9] at hc
    obtain ⟨dQ,jb⟩:=hc
    obtain ⟨eO,h⟩:=aK h
    simp only[aO,dX] at eO
    obtain rfl:=aU h
    cases hv with
    | jV hd hp'=>rw[ab] at hd;cases hd;exact absurd hp' (xD h1 U h3)
    | @row v _ e0 t1 _ ver b i1 c1 q es l1 aq hd hb hq Kr ht gr=>
     have abI:=gr
     obtain ⟨b',e3,aR,Ca,T,f,x,m1,m2,m3,m4,m5,m6⟩:=gr
     have je:=hd
     rw[ab] at je
     cases je
     obtain ⟨n1,n2⟩:=Fs m1 m3 m4 ht m5
     rw[n2] at k2
     cases k2
     simp only[V.toList] at eO
     have hR:=S.rows hd hb m1
     obtain ⟨C1,c2,c3,c4⟩:=hR.cells
     rw[m2] at c2
     cases c2
     have hj:c1<P.cellsOf e3:=by
      rw[←fL hR.ok];exact (bw.1 m4).1
     obtain ⟨v2,d1,d2⟩:=c4 _ _ _ _ m3 m4 hj
     rw[m6] at d1
     cases d1
     rw[m5] at d2
     cases d2 with
     | fZ a _=>unfold fW at a;rw[ht] at a;cases a
     | emp _ _=>simp at eO;omega
     | @row _ _ b1 cap _ hl _ _ _=>
      have ay:=(S.rows hd hb (m1.snoc m2 m3 m4 ht m5 hl m6)).ok
      have gJ:e=e':=dQ
      obtain ⟨ie,z,ef,_,bd,_⟩:=kK ay
      rw[←gJ] at ef bd
      refine .same S (run b1 0 _ cap ie ef eO.1 eO.2) ?_
      have:=ao.cJ (P:=P) (I:=I) (i:=i.toNat) (c:=0) hd hb hq Kr ht hl abI
      rw[gV,bd,gJ]
      simpa using this
   case sub e' id off len=>
    obtain ⟨l,h⟩:=run_get h
    cases ab:hp id with
    | none=>rw[ab] at h;cases h
    | some blk=>
     rw[ab] at h
     cases blk<;>simp only at h<;>first|(cases h;done)|skip
     rename_i dM es fz
     obtain ⟨hc,h⟩:=aK h
     simp only[aO,a9] at hc
     obtain ⟨dQ,jb⟩:=hc
     obtain ⟨eO,h⟩:=aK h
     simp only[aO,dX] at eO
     obtain rfl:=aU h
     cases hv with
     | gq hd=>rw[ab] at hd;cases hd
     | ga hd hb=>simp at eO;omega
     | @sub _ _ _ _ aR nF b o cap hd hb lq ch ho=>
      have eN:=hd
      rw[ab] at hd
      cases hd
      have hr:=S.h.rel id _ ab
      cases hr with
      | dP aB=>rw[aB] at hb;cases hb
      | arr ay aB hh hs hf ep hx=>
       have gJ:e=e':=dQ
       obtain ⟨ie,z,ef,_,bd,_⟩:=kK ay
       rw[←gJ] at ef bd
       refine .same S (run b o _ cap ie ef eO.1 eO.2) ?_
       have:=ao.ptr (P:=P) (w:=w) (I:=I) (i:=off+i.toNat) (c:=0) eN (by simp) hb
       simp only[an.sz] at this
       rw[ho (by omega),bd,gJ,←dA]
       simpa using this
  case array n e=>
   have run: ∀(b o:Nat) (ie:TypeInfo),P.info? e=some ie→0≤i→i<(n:Int)→(Instr.indexAt t (.pointer (some ⟨b,o,none⟩)) (.int k i)).run P w= .ok (.pointer (some ⟨b,o+i.toNat*ie.size,none⟩)) w:=by
    intro b o ie j5 h0 h1
    simp[Instr.indexAt,asIntOf,run_underlying hu,h0,h1,sizeOf,typeInfo,j5,nP,Instr.sureAddr]
   cases x<;>simp only at h<;>first|(cases h;done)|skip
   case ptr id j c=>
    obtain ⟨⟨blk,ab,hd⟩,l,h⟩:=xF h
    obtain ⟨eO,h⟩:=aK h
    simp only[aO,dX] at eO
    obtain rfl:=aU h
    obtain ⟨b,hb,rfl⟩:=hv.hX ab hd
    obtain ⟨d,u7⟩:=A8 eO.1
    obtain ⟨ie,j5⟩:=xG u7
    have bd:ie.size=P.cellsOf e:=by simp[Program.cellsOf,j5]
    refine .same S (run b _ ie j5 eO.2.1 eO.2.2) ?_
    rw[bd,oN]
    exact .ptr ab hd hb
   case pref ts cs=>
    obtain ⟨eO,h⟩:=aK h
    simp only[aO,dX] at eO
    obtain rfl:=aU h
    obtain ⟨b,o,rfl,h1,U,h3⟩:=hv.FA
    obtain ⟨d,u7⟩:=A8 eO.1
    obtain ⟨ie,j5⟩:=xG u7
    have bd:ie.size=P.cellsOf e:=by simp[Program.cellsOf,j5]
    refine .same S (run b _ ie j5 eO.2.1 eO.2.2) ?_
    rw[bd]
    exact ao.Qk h1 U h3
end
end Go.AM
namespace Go.AM
open Go.Maps
section
variable {P:Program} {w w':World} {I I':Nat→Prop} {β β':Nat→Option Nat} {hp hp':Nat→Option an} {C:ae} {B:Nat} {M:Nat→Prop} {w0:Start}
theorem abJ (S:aH P w I β hp B M w0) {nb:Nat} {t:TypeId} {v:Value} {x:V} {lo hi:Option V} {lov hiv:Option Value} {r:R} {rd:List Nat} (hv:ao P w I β hp v x)
  (ic: ∀x,hi=some x→∃v,hiv=some v∧ao P w I β hp v x) (nU:lo=none→lov=none)
  (h:(E9 P nb t x lo hi).run C hp=some (r,rd)):db P ((Instr.sliceAt t v lov hiv none).run P w) w I β hp B M w0 r:=by
 unfold E9 at h
 split at h
 case h_2=>cases h
 rename_i e e' id k hh hu
 obtain ⟨l,h1⟩:=run_get h
 cases ab:hp id with
 | none=>rw[ab] at h1;cases h1
 | some blk=>
  rw[ab] at h1
  cases blk<;>simp only at h1<;>first|(cases h1;done)|skip
  rename_i e2 es fz
  cases fz with
  | true=>cases h1
  | false=>
  obtain ⟨hc,U⟩:=aK h1
  simp only[aO,a9,dX] at hc
  obtain ⟨rfl,rfl,ay,QZ,Q0⟩:=hc
  obtain ⟨hn,rfl⟩:=nS U
  have ji:=nU rfl
  subst ji
  obtain ⟨KL,rfl,hhv⟩:=ic _ rfl
  obtain rfl:=hhv.dY
  obtain ⟨i,z,ef,_,bd,_⟩:=kK ay
  have bD:nb≠id:=fun e=>by rw[e,ab] at hn;cases hn
  obtain ⟨k1,k2⟩:=Fw S ab
  have kL:aM hp id (some an.dead) nb=none:=by rw[er _ _ bD];exact hn
  have Q1: ∀cap,es.length≤cap→(Instr.sliceBounds true es.length cap none (some (.int k hh)) none).run P w= .ok (0,hh.toNat,cap) w:=by
   intro cap ch
   have hb:(sX es.length none (some (.int k hh)) fun l u=> .aE (decide (l=0∧u=hh.toNat)) (.ret (⟨.undef,[]⟩:R))).run C hp=some (⟨.undef,[]⟩,[]):=by
    simp[sX,Rd.run,QZ,Q0]
   obtain ⟨l,u,b1,b2,b3,b4⟩:=rO (P:=P) (w:=w) (I:=I) (β:=β) (hp:=hp) (n:=es.length) (isS:=true) (cap:=cap) (lov:=none) (hiv:=some (.int k hh)) ch (by simp) (fun x hx=>by cases hx;exact ⟨_,rfl,.int⟩) (fun _=>rfl) (by simp) hb
   obtain ⟨b5,_⟩:=aK b4
   simp only[dX] at b5
   obtain ⟨rfl,rfl⟩:=b5
   exact b3
  cases hv with
  | eo hd=>rw[ab] at hd;cases hd
  | eC hd=>rw[ab] at hd;cases hd
  | @dO _ _ _ a0 hd hb=>
   rw[ab] at hd
   cases hd
   have Kj:hh=0:=by simpa using Int.le_antisymm Q0 QZ
   subst Kj
   have aB:=Q1 0 (bV _)
   obtain ⟨a1,a2⟩:=Fv k2 e kL
   refine ⟨_,w,I,_,FY hu ef aB,k1.trans a1,a2,.dO (c7 _ _ _) (c7 _ _ _)⟩
  | @whole _ _ aR nF b cap hd hb Bk ch hm=>
   have eN:=hd
   rw[ab] at hd
   cases hd
   have hr:=S.h.rel id _ ab
   cases hr with
   | dP aB=>rw[aB] at hb;cases hb
   | @arr _ _ _ b' Ca _ aB FZ p7 hf ep mP=>
    rw[hb] at aB
    cases aB
    have jE:(es.take hh.toNat).length=hh.toNat:=by rw[fT];omega
    have c8:(Instr.sliceAt t (.slice (some ⟨b,0,none⟩) es.length cap) none (some (.int k hh)) none).run P w= .ok (.slice (some ⟨b,0,none⟩) hh.toNat cap) w:=by
     have aB:=Q1 cap ch
     by_cases F0:cap=0
     ·subst F0
      simp[Instr.sliceAt,Instr.slice,run_underlying hu,aB,sizeOf,typeInfo,ef]
     ·simp[Instr.sliceAt,Instr.slice,run_underlying hu,aB,sizeOf,typeInfo,ef,F0,nP]
    have rB: ∀aG blk',aM hp id (some an.dead) aG=some blk'→¬bC P w (β aG) blk' b:=by
     intro aG blk' h1 U
     by_cases jh:aG=id
     ·subst jh;rw[c7] at h1;cases h1;exact U.alive rfl
     ·rw[er _ _ jh] at h1
      exact jh (S.h.inj aG id blk' _ b h1 ab U (.root (by simp) hb))
    obtain ⟨a1,a2⟩:=A4 k2 (blk:= .arr e (es.take hh.toNat) false) (w':=w) kL rB (ep rfl) (fun _ _ _=>rfl) (bV _) ⟨rfl,rfl⟩ (S.h.s6 id _ b ab (by simp) hb)
     (fun b' h=>(cT (h.flat (by simp))).symm) (fun hle=> .arr ay rfl FZ (by rw[jE];exact lg (dL _ (by omega)) p7) (fun h=>by cases h) (fun _=>ep rfl) fun i j y t' hy ht hj=>by
      have rN:=(bw.1 hy).1
      rw[jE] at rN
      rw[ff rN] at hy
      obtain ⟨v,hv,hp⟩:=mP i j y t' hy ht hj
      exact ⟨v,hv,hp.mono hle.dq hle.cm⟩)
    refine ⟨_,w,I,_,c8,k1.trans a1,a2,?_⟩
    have:=ao.whole (P:=P) (w:=w) (I:=I) (β:=aM β nb (some b)) (hp:=aM (aM hp id (some .dead)) nb (some (.arr e (es.take hh.toNat) false))) (cap:=cap) (c7 _ _ _) (c7 _ _ _) Bk (by rw[jE];omega) hm
    rw[jE] at this
    exact this
theorem rP {t:TypeId} {x:V} (h:pP P t x=true):
  (∃q n,P.underlying t=some (.int q)∧x= .int q n∧JI q n=true)∨(∃b,P.underlying t=some .bool∧x= .bool b)∨(∃s,P.underlying t=some .string∧x= .str s∧s.length≤maxLen):=by
 unfold pP at h
 split at h
 ·rename_i q q' n hu
  simp only[aO,dX] at h
  obtain ⟨rfl,h⟩:=h
  exact .inl ⟨_,_,hu,rfl,h⟩
 ·rename_i b hu
  exact .inr (.inl ⟨_,hu,rfl⟩)
 ·rename_i s hu
  exact .inr (.inr ⟨_,hu,rfl,by simpa using h⟩)
 ·cases h
theorem size_data (s:ByteArray):s.data.toList.length=s.size:=by simp
theorem abK {q:IntKind} {n:Int} (h:JI q n=true):(Lit.int q n).wf=true:=h
theorem Q2 {t:TypeId} {x:V} {v:Value} (h:pP P t x=true) (hv:jC v x): ∃l,mapKey P t v=some l∧∀d,P.keyLits (d+1) t [v]=some [l]:=by
 rcases rP h with ⟨q,n,hu,rfl,hn⟩|⟨b,hu,rfl⟩|⟨s,hu,rfl,hs⟩
 ·obtain rfl:v= .int q n:=hv
  have hw:=abK hn
  exact ⟨.int q n,by simp[mapKey,hu,hw],fun d=>by simp[Program.keyLits,hu,hw]⟩
 ·obtain rfl:v= .bool b:=hv
  exact ⟨.bool b,by simp[mapKey,hu],fun d=>by simp[Program.keyLits,hu]⟩
 ·obtain ⟨s',rfl,KM⟩:=hv
  have:s'.size≤maxLen:=by rw[←size_data,KM];exact hs
  exact ⟨.string s'.data.toList,by simp[mapKey,hu,this],fun d=>by simp[Program.keyLits,hu,this]⟩
theorem KN {t:TypeId}: ∀{xs:List V} {j:Nat} {x:V},rf P t xs=true→xs[j]? =some x→pP P t x=true
 | [],j,x,_,h=>by simp at h
 | y::ys,0,x,h,hx=>by
  simp only[rf,aO] at h
  simp at hx;subst hx;exact h.1
 | y::ys,j+1,x,h,hx=>by
  simp only[rf,aO] at h
  exact KN (j:=j) h.2 (by simpa using hx)
theorem mapM_some {α β:Type} {f:α→Option β}: ∀{l:List α},(∀a∈l,∃b,f a=some b)→∃bs,l.mapM f=some bs
 | [],_=>⟨[],rfl⟩
 | a::l,h=>by
  obtain ⟨b,hb⟩:=h a (sN ..)
  obtain ⟨bs,hU⟩:=mapM_some (l:=l) fun x hx=>h x (lP _ hx)
  exact ⟨b::bs,by simp[List.mapM_cons,hb,hU]⟩
inductive KO (P:Program) (t:TypeId) (x:V):Prop
 | one:pP P t x=true→x.cells=[x]→KO P t x
 | arr {n:Nat} {e:TypeId} {xs:List V}:x= .agg xs→WideMaps.ArrKey P t e n→xs.length=n→0<P.types.size→rf P e xs=true→KO P t x
theorem xW {t:TypeId} {x:V} (h:nE P t x=true):KO P t x:=by
 unfold nE at h
 split at h
 ·rename_i n e xs hu
  simp only[aO,a9] at h
  rw[jP] at h
  exact .arr rfl ⟨hu,h.2.2.2.1,h.2.1,h.2.2.1⟩ h.1 h.2.2.2.2.1 h.2.2.2.2.2
 ·refine .one h ?_
  rcases rP h with ⟨q,n,hu,rfl,hn⟩|⟨b,hu,rfl⟩|⟨s,hu,rfl,hs⟩<;>rfl
theorem rq.one {x:V} {v:Value} (h:rq v x) (hx:x.cells=[x]):jC v x:=by
 cases x<;>first|exact h|skip
 simp only[V.cells] at hx
 rename_i cs
 have:=congrArg List.length hx
 cases cs with
 | nil=>simp at hx
 | cons c cs=>
  simp only[List.cons.injEq] at hx
  have:=congrArg SizeOf.sizeOf hx.1
  simp at this
  omega
theorem F1 {t:TypeId} {x:V} {v:Value} (h:nE P t x=true) (hv:rq v x): ∃l,Go.keyOf P t v=some l:=by
 cases xW h with
 | one h1 hx=>
  obtain ⟨l,hl,_⟩:=Q2 h1 (hv.one hx)
  refine ⟨l,?_⟩
  rcases rP h1 with ⟨q,n,hu,_⟩|⟨b,hu,_⟩|⟨s,hu,_⟩<;>simp only[Go.keyOf,hu,hl]
 | @arr n e xs hx A hl hp0 hf=>
  subst hx
  obtain ⟨cs,rfl,hs,hc⟩:=hv
  obtain ⟨m,hm⟩: ∃m,P.types.size=m+1:=⟨P.types.size-1,by omega⟩
  have hkt:=A.keyType ⟨m,hm⟩
  have hlen:cs.toList.length=P.cellsOf t:=by rw[A.size];simp[hs,hl]
  have hfm:(Value.agg cs).formed P t=true:=by simp[Value.formed,A.hu,A.size,hs,hl]
  have hex: ∀i∈List.range n,∃y,P.keyLits (m+1) e (((Value.agg cs).cells.toList.drop (i*P.cellsOf e)).take (P.cellsOf e))=some y:=by
   intro i hi
   have hi:=Am.1 hi
   rw[A.one]
   have gx:i<cs.size:=by omega
   have cC:i<xs.length:=by omega
   obtain ⟨l,_,U⟩:=Q2 (KN hf (bH cC)) (hc i cs[i] xs[i] (lh gx) (bH cC))
   have e1:((Value.agg cs).cells.toList.drop (i*1)).take 1=[cs[i]]:=by
    show (cs.toList.drop (i*1)).take 1=_
    rw[nz,List.drop_eq_getElem_cons (by simpa using gx)]
    simp
   rw[e1]
   exact ⟨_,U m⟩
  obtain ⟨bs,hU⟩:=mapM_some hex
  refine ⟨.string (keyBytes bs.flatten),?_⟩
  have abL:(Value.agg cs).cells.toList.length=P.cellsOf t:=hlen
  unfold Go.keyOf
  rw[A.hu]
  simp only[hkt,hfm,Bool.and_self,cU]
  unfold Program.keyLits
  rw[A.hu,hm]
  simp only[abL,cU,hU,Option.map_some]
theorem KP {t:TypeId} {x:V} (h:nE P t x=true):Keyed P t:=by
 cases xW h with
 | one h1 hx=>
  rcases rP h1 with ⟨q,n,hu,_⟩|⟨b,hu,_⟩|⟨s,hu,_⟩
  ·exact int_keyed hu
  ·exact bool_keyed hu
  ·exact string_keyed hu
 | arr hx A hl _ hf=>exact Keyed.of_law A.law
theorem Q3 {t:TypeId} {x y:V} {v u:Value} (h1:pP P t x=true) (U:pP P t y=true) (hv:jC v x) (hu:jC u y):xm x y=true↔v=u:=by
 rcases rP h1 with ⟨q,n,mQ,rfl,_⟩|⟨b,mQ,rfl⟩|⟨s,mQ,rfl,_⟩<;>
 rcases rP U with ⟨q',n',mR,rfl,_⟩|⟨b',mR,rfl⟩|⟨s',mR,rfl,_⟩<;>
  (rw[mQ] at mR;cases mR)
 ·obtain rfl:v= .int q n:=hv
  obtain rfl:u= .int q n':=hu
  simp[xm]
 ·obtain rfl:v= .bool b:=hv
  obtain rfl:u= .bool b':=hu
  simp[xm]
 ·obtain ⟨s1,rfl,e1⟩:=hv
  obtain ⟨s2,rfl,e2⟩:=hu
  simp only[xm,beq_iff_eq,Value.string.injEq,←e1,←e2]
  constructor
  ·intro h
   have:=Array.toList_inj.1 h
   cases s1;cases s2;simp_all
  ·rintro rfl;rfl
theorem Q4 {t:TypeId}: ∀{xs ys:List V} {vs us:List Value},rf P t xs=true→rf P t ys=true→xs.length=ys.length→vs.length=xs.length→us.length=ys.length→
  (∀(j:Nat) v x,vs[j]? =some v→xs[j]? =some x→jC v x)→(∀(j:Nat) v x,us[j]? =some v→ys[j]? =some x→jC v x)→(uB xs ys=true↔vs=us)
 | [],[],vs,us,_,_,_,h1,U,_,_=>by
  have e1:=lO (l:=vs) (by simpa using h1)
  have e2:=lO (l:=us) (by simpa using U)
  simp[uB,e1,e2]
 | [],_::_,_,_,_,_,h,_,_,_,_=>by simp at h
 | _::_,[],_,_,_,_,h,_,_,_,_=>by simp at h
 | x::xs,y::ys,[],us,_,_,_,h,_,_,_=>by simp at h
 | x::xs,y::ys,v::vs,[],_,_,_,_,h,_,_=>by simp at h
 | x::xs,y::ys,v::vs,u::us,f1,f2,h,h1,U,r1,r2=>by
  simp only[rf,aO] at f1 f2
  have a:=Q3 f1.1 f2.1 (r1 0 v x rfl rfl) (r2 0 u y rfl rfl)
  have b:=Q4 (vs:=vs) (us:=us) f1.2 f2.2 (by simpa using h) (by simpa using h1) (by simpa using U) (fun j v x hj hx=>r1 (j+1) v x (by simpa using hj) (by simpa using hx)) (fun j v x hj hx=>r2 (j+1) v x (by simpa using hj) (by simpa using hx))
  simp only[uB,aO,a,b,List.cons.injEq]
theorem KQ {t:TypeId} {x y:V} {v u:Value} (h1:nE P t x=true) (U:nE P t y=true) (hv:rq v x) (hu:rq u y):mG x y=true↔v=u:=by
 unfold mG
 cases xW h1 with
 | one f1 c1=>
  cases xW U with
  | one f2 c2=>
   rw[c1,c2]
   simp only[uB,Bool.and_true]
   exact Q3 f1 f2 (hv.one c1) (hu.one c2)
  | arr hy A hl _ hf=>
   rcases rP f1 with ⟨q,n,mQ,_⟩|⟨b,mQ,_⟩|⟨s,mQ,_⟩<;>(rw[A.hu] at mQ;cases mQ)
 | arr hx A hl _ hf=>
  cases xW U with
  | one f2 c2=>
   rcases rP f2 with ⟨q,n,mQ,_⟩|⟨b,mQ,_⟩|⟨s,mQ,_⟩<;>(rw[A.hu] at mQ;cases mQ)
  | arr hy A2 ku _ KR=>
   have gJ:=A.hu.symm.trans A2.hu
   cases gJ
   subst hx
   subst hy
   obtain ⟨cs,rfl,s1,r1⟩:=hv
   obtain ⟨ds,rfl,s2,r2⟩:=hu
   have:=Q4 (vs:=cs.toList) (us:=ds.toList) hf KR (by omega) (by simpa using s1) (by simpa using s2) (fun j v x hj hx=>r1 j v x (by simpa using hj) hx) (fun j v x hj hx=>r2 j v x (by simpa using hj) hx)
   simp only[V.cells,this,Value.agg.injEq]
   exact Array.toList_inj
theorem Q5 {k:V}: ∀{es:List V},(∀x∈es,mG k (x.comp 0)=false)→lT k es=false∧(∀z,mH k es z=z)∧∀v,iW k v es=es++[.bn [k,v]]
 | [],_=>⟨rfl,fun _=>rfl,fun _=>rfl⟩
 | e::es,h=>by
  have h0:=h e (sN ..)
  obtain ⟨a,b,c⟩:=Q5 (k:=k) (es:=es) fun x hx=>h x (lP _ hx)
  exact ⟨by simp[lT,h0,a],fun z=>by simp[mH,h0,b],fun v=>by simp[iW,h0,c]⟩
theorem Q6 {k:V}: ∀{es:List V} {j:Nat} {k' y:V},es[j]? =some (.bn [k',y])→mG k k'=true→(∀i x,i<j→es[i]? =some x→mG k (x.comp 0)=false)→
  lT k es=true∧(∀z,mH k es z=y)∧∀v,iW k v es=es.set j (.bn [k',v])
 | [],j,k',y,h,_,_=>by simp at h
 | e::es,0,k',y,h,he,_=>by
  simp at h
  subst h
  exact ⟨by simp[lT,V.comp,V.nth,he],fun z=>by simp[mH,V.comp,V.nth,he],fun v=>by simp[iW,V.comp,V.nth,he]⟩
 | e::es,j+1,k',y,h,he,aQ=>by
  have h0:=aQ 0 e (by omega) rfl
  obtain ⟨a,b,c⟩:=Q6 (k:=k) (es:=es) (j:=j) (by simpa using h) he fun i x hi hx=>aQ (i+1) x (by omega) (by simpa using hx)
  exact ⟨by simp[lT,h0,a],fun z=>by simp[mH,h0,b],fun v=>by simp[iW,h0,c]⟩
theorem Q7 {kt vt:TypeId} {E:Array MapEntry} {es:List V} {k:V} {kv:Value} (hs:E.size=es.length) (hx: ∀(j:Nat) (e:MapEntry) (x:V),E[j]? =some e→es[j]? =some x→Fl P kt vt e x)
  (hn:E.toList.Pairwise (fun a b=>a.key≠b.key)) (hk:nE P kt k=true) (F2:rq kv k) (w:World):
  ((Instr.findKey kt kv E.toList).run P w= .ok none w∧(∀e∈E.toList,e.key≠kv)∧lT k es=false∧(∀z,mH k es z=z)∧∀v,iW k v es=es++[.bn [k,v]])∨
  ∃j e k' y,(Instr.findKey kt kv E.toList).run P w= .ok (some (j,e.val)) w∧E[j]? =some e∧e.key=kv∧es[j]? =some (.bn [k',y])∧nE P kt k'=true∧rq kv k'∧eG P vt y=true∧jC e.val y∧
   lT k es=true∧(∀z,mH k es z=y)∧∀v,iW k v es=es.set j (.bn [k',v]):=by
 have K:=KP hk
 obtain ⟨l,hl⟩:=F1 hk F2
 have Q8: ∀(j:Nat) x,es[j]? =some x→∃e,E[j]? =some e∧Fl P kt vt e x:=by
  intro j x hj
  have aQ:j<E.size:=by rw[hs];exact (bw.1 hj).1
  exact ⟨E[j],lh aQ,hx j _ x (lh aQ) hj⟩
 have keys: ∀e∈E.toList,∃l,Go.keyOf P kt e.key=some l:=by
  intro e he
  obtain ⟨j,hj⟩:=sL he
  have gb:E[j]? =some e:=by simpa using hj
  have aQ:j<es.length:=by rw[←hs];exact (iz.1 gb).1
  obtain ⟨k',y,_,h1,U,_⟩:=hx j e es[j] gb (bH aQ)
  exact F1 h1 U
 rcases K.find w hl E.toList keys with ⟨h1,U⟩|⟨j,e,h1,U,h3⟩
 ·left
  refine ⟨h1,U,Q5 fun x hxm=> ?_⟩
  obtain ⟨j,hj⟩:=sL hxm
  obtain ⟨e,he,k',y,rfl,f1,f2,_⟩:=Q8 j x hj
  cases hq:mG k (V.comp (.bn [k',y]) 0) with
  | false=>rfl
  | true=>
   have:=(KQ hk f1 F2 f2).1 hq
   exact absurd this.symm (U e (jR (by simpa using he)))
 ·right
  have hE:E[j]? =some e:=by simpa using U
  have aQ:j<es.length:=by rw[←hs];exact (iz.1 hE).1
  obtain ⟨k',y,hy,f1,f2,f3,f4⟩:=hx j e es[j] hE (bH aQ)
  have hj:=bH aQ
  rw[hy] at hj
  rw[h3] at f2
  refine ⟨j,e,k',y,h1,hE,h3,hj,f1,f2,f3,f4,Q6 hj ((KQ hk f1 F2 f2).2 rfl) fun i x hi gG=> ?_⟩
  obtain ⟨e',hY,k2,y2,rfl,g1,g2,_⟩:=Q8 i x gG
  cases hq:mG k (V.comp (.bn [k2,y2]) 0) with
  | false=>rfl
  | true=>
   have:=(KQ hk g1 F2 g2).1 hq
   have i1:i<E.toList.length:=by have:=(bw.1 gG).1;simp;omega
   have i2:j<E.toList.length:=by simp;omega
   have:=EM.1 hn i j i1 i2 hi
   have a1:E.toList[i]=e':=by
    have:E.toList[i]? =some e':=by simpa using hY
    rw[bH i1] at this;exact cT this
   have a2:E.toList[j]=e:=by
    have:=U
    rw[bH i2] at this;exact cT this
   rw[a1,a2,h3] at this
   exact absurd (by rw[← ‹kv=e'.key›]) this
theorem ao.Q9 {v:Value} {x:V} (h:ao P w I β hp v x) {t:TypeId} (hx:pP P t x=true):jC v x:=by
 rcases rP hx with ⟨q,n,_,rfl,_⟩|⟨b,_,rfl⟩|⟨s,_,rfl,_⟩
 ·exact h.dY
 ·exact h.kH
 ·exact h.mL
theorem ao.Ra {v:Value} {x:V} (h:ao P w I β hp v x) {t:TypeId} (hx:nE P t x=true):rq v x:=by
 cases xW hx with
 | one f c=>
  have:=h.Q9 f
  cases x<;>first|exact this|cases this
 | arr hx A hl _ hf=>
  subst hx
  obtain ⟨cs,rfl,h1,U⟩:=h.ly
  exact ⟨cs,rfl,h1,fun j u y hu hy=>(U j u y hu hy).Q9 (KN hf hy)⟩
theorem Rb {vt:TypeId} {y:V} (h:mapVal P vt=true) (ht:eG P vt y=true):(∃q n,P.underlying vt=some (.int q)∧y= .int q n)∨∃b,P.underlying vt=some .bool∧y= .bool b:=by
 unfold mapVal at h
 unfold eG at ht
 split at h
 ·rename_i q hu
  rw[hu] at ht
  cases y<;>first|(simp at ht;done)|skip
  simp only[dX] at ht
  subst ht
  exact .inl ⟨_,_,hu,rfl⟩
 ·rename_i hu
  rw[hu] at ht
  cases y<;>first|(simp at ht;done)|skip
  exact .inr ⟨_,hu,rfl⟩
 ·cases h
theorem jC.KS {vt:TypeId} {v:Value} {y:V} (h:mapVal P vt=true) (ht:eG P vt y=true) (hv:jC v y):ao P w I β hp v y:=by
 rcases Rb h ht with ⟨q,n,_,rfl⟩|⟨b,_,rfl⟩
 ·obtain rfl:v= .int q n:=hv;exact .int
 ·obtain rfl:v= .bool b:=hv;exact .bool
theorem ao.abM {vt:TypeId} {v:Value} {y:V} (h:mapVal P vt=true) (ht:eG P vt y=true) (hv:ao P w I β hp v y):jC v y:=by
 rcases Rb h ht with ⟨q,n,_,rfl⟩|⟨b,_,rfl⟩
 ·exact hv.dY
 ·exact hv.kH
theorem abN {vt:TypeId} {z:V} (h:E4 P vt=some z) (w:World): ∃v,(zeroValue vt).run P w= .ok v w∧jC v z:=by
 unfold E4 at h
 cases hi:P.info? vt with
 | none=>rw[hi] at h;cases h
 | some i=>
  rw[hi] at h
  simp only[Option.bind_some] at h
  cases hz:i.zero with
  | none=>rw[hz] at h;cases h
  | some v=>
   rw[hz] at h
   refine ⟨v,by simp[zeroValue,typeInfo,hi,hz],?_⟩
   cases v<;>simp only at h<;>first|(cases h;done)|skip
   ·cases h;rfl
   ·cases h;rfl
theorem KT {t kt vt:TypeId} (h:lU P t=some (kt,vt)):P.underlying t=some (.map kt vt):=by
 unfold lU at h
 split at h
 ·rename_i k e hu;cases h;exact hu
 ·cases h
theorem KU (S:aH P w I β hp B M w0) {ok:Bool} {v:Value} {x:V} {b:Bool} {r:R} {rd:List Nat} {res:Result Value} (hv:ao P w I β hp v x)
  (hr:res= .ok (if ok then .tuple #[v,.bool b] else v) w) (h:(E5 ok x b).run C hp=some (r,rd)):db P res w I β hp B M w0 r:=by
 unfold E5 at h
 obtain rfl:=aU h
 cases ok with
 | false=>exact .same S hr hv
 | true=>
  refine .same S hr (.bn rfl fun j u y hu hy=> ?_)
  match j,hu,hy with
  | 0,hu,hy=>simp at hu hy;subst hu;subst hy;exact hv
  | 1,hu,hy=>simp at hu hy;subst hu;subst hy;exact .bool
  | j+2,hu,hy=>simp at hy
theorem abO (S:aH P w I β hp B M w0) {t kt vt:TypeId} (ht:lU P t=some (kt,vt)) {m k:Value} {mx kx:V} {ok:Bool} {r:R} {rd:List Nat} (hm:ao P w I β hp m mx) (hk:ao P w I β hp k kx)
  (h:(JJ P t mx kx ok).run C hp=some (r,rd)):db P ((Instr.lookup t m k ok).run P w) w I β hp B M w0 r:=by
 unfold JJ at h
 rw[ht] at h
 simp only at h
 cases hz:E4 P vt with
 | none=>rw[hz] at h;cases h
 | some z=>
  rw[hz] at h
  obtain ⟨hc,h'⟩:=aK h
  clear h
  have h:=h'
  clear h'
  simp only[aO] at hc
  obtain ⟨p8,Bm,F3⟩:=hc
  have hu:=KT ht
  have p9:=hk.Ra p8
  have K:=KP p8
  obtain ⟨l,hl⟩:=F1 p8 p9
  obtain ⟨zv,Rc,Re⟩:=abN hz w
  cases mx<;>simp only at h<;>first|(cases h;done)|skip
  ·rename_i t' id
   obtain ⟨l8,h'⟩:=aK h
   clear h
   have h:=h'
   clear h'
   rw[a9] at l8
   subst l8
   obtain ⟨l2,h'⟩:=run_get h
   clear h
   have h:=h'
   clear h'
   cases ab:hp id with
   | none=>rw[ab] at h;cases h
   | some blk=>
    rw[ab] at h
    cases blk<;>simp only at h<;>first|(cases h;done)|skip
    rename_i t2 es
    obtain ⟨l8,h'⟩:=aK h
    clear h
    have h:=h'
    clear h'
    rw[a9] at l8
    subst l8
    cases hm with
    | iH hd=>rw[ab] at hd;cases hd
    | @cE _ _ b aR hd hb=>
     rw[ab] at hd
     cases hd
     have hr:=S.h.rel id _ ab
     cases hr with
     | @map _ Rf Rg _ b' clock E fv aB hh hs hI hx hn=>
      rw[hb] at aB;cases aB
      rw[hu] at fv;cases fv
      rcases Q7 hs hx hn p8 p9 w with ⟨h1,_,h3,h4,_⟩|⟨j,e,k',y,h1,_,_,_,_,_,h6,h7,h3,h4,_⟩
      ·rw[h3,h4,A7 F3] at h
       refine KU S (jC.KS Bm F3 Re) ?_ h
       unfold Instr.lookup
       simp only[Sem.run_bind,run_underlying hu,Result.andThen_ok,Go.MapKept.run_getObj_map hh,Sem.run_pure,K.check w E.isEmpty hl,h1,Rc]
      ·rw[h3,h4,A7 h6] at h
       refine KU S (jC.KS Bm h6 h7) ?_ h
       unfold Instr.lookup
       simp only[Sem.run_bind,run_underlying hu,Result.andThen_ok,Go.MapKept.run_getObj_map hh,Sem.run_pure,K.check w E.isEmpty hl,h1]
  ·rename_i t'
   obtain ⟨l8,h⟩:=aK h
   cases hm
   rw[A7 F3] at h
   refine KU S (jC.KS Bm F3 Re) ?_ h
   have hf:(Instr.findKey kt k []).run P w= .ok none w:=by
    rcases K.find w hl [] (by simp) with ⟨h1,_⟩|⟨j,e,_,U,_⟩
    ·exact h1
    ·simp at U
   unfold Instr.lookup
   simp[run_underlying hu,K.check w true hl,hf,Rc]
theorem abP (S:aH P w I β hp B M w0) {t:TypeId} {nb:Nat} {r:R} {rd:List Nat} (h:(Rd.aE (lU P t).isSome (jz nb (.map t []) (.cE t nb) [])).run C hp=some (r,rd)):
  db P ((Instr.makeMap t none).run P w) w I β hp B M w0 r:=by
 obtain ⟨ht,h⟩:=aK h
 obtain ⟨hn,rfl⟩:=nS h
 obtain ⟨⟨kt,vt⟩,ht⟩:=An.1 ht
 have hu:=KT ht
 have cV: ¬I w.heap.size:=fun h=>Nat.lt_irrefl _ (S.h.jX _ h)
 have e8:(w.alloc (.map #[] 0)).heap[w.heap.size]? =some (.map #[] 0):=heap_alloc_new w _
 obtain ⟨a1,a2⟩:=A4 S (w':=w.alloc (.map #[] 0)) (blk:= .map t []) (b:=w.heap.size) hn (fun aG blk' h ho=>Nat.lt_irrefl _ (S.h.lt h ho)) cV
  (fun b' _ aQ=>heap_alloc_old w _ b' aQ) (by simp) ⟨rfl,rfl⟩ (.inr S.size) (fun b' h=>(cT (h.flat (by simp))).symm)
  (fun _=> .map hu rfl e8 rfl cV (fun j e x he _=>by simp at he) (by simp))
 exact ⟨_,_,_,_,Go.RowKit.run_makeMap t w,a1,a2,.cE (c7 _ _ _) (c7 _ _ _)⟩
theorem Rh (S:aH P w I β hp B M w0) {t kt vt:TypeId} (ht:lU P t=some (kt,vt)) {m k v:Value} {mx kx vx:V} {r:R} {rd:List Nat} (hm:ao P w I β hp m mx) (hk:ao P w I β hp k kx) (hv:ao P w I β hp v vx)
  (h:(E6 P t mx kx vx).run C hp=some (r,rd)):pX P ((Instr.mapUpdate t m k v).run P w) w I β hp B M w0 r:=by
 unfold E6 at h
 rw[ht] at h
 obtain ⟨hc,h'⟩:=aK h
 clear h
 have h:=h'
 clear h'
 simp only[aO] at hc
 obtain ⟨p8,Bm,u9⟩:=hc
 have hu:=KT ht
 have p9:=hk.Ra p8
 have xJ:=ao.abM Bm u9 hv
 have K:=KP p8
 obtain ⟨l,hl⟩:=F1 p8 p9
 cases mx<;>simp only at h<;>first|(cases h;done)|skip
 rename_i t' id
 obtain ⟨l8,h'⟩:=aK h
 clear h
 have h:=h'
 clear h'
 rw[a9] at l8
 subst l8
 obtain ⟨l2,h'⟩:=run_get h
 clear h
 have h:=h'
 clear h'
 cases ab:hp id with
 | none=>rw[ab] at h;cases h
 | some blk=>
  rw[ab] at h
  cases blk<;>simp only at h<;>first|(cases h;done)|skip
  rename_i t2 es
  obtain ⟨l8,h'⟩:=aK h
  clear h
  have h:=h'
  clear h'
  rw[a9] at l8
  subst l8
  obtain rfl:=aU h
  cases hm with
  | iH hd=>rw[ab] at hd;cases hd
  | @cE _ _ b aR hd hb=>
   rw[ab] at hd
   cases hd
   have hr:=S.h.rel id _ ab
   cases hr with
   | @map _ Rf Rg _ b' clock E fv aB hh hs hI hx hn=>
    rw[hb] at aB;cases aB
    rw[hu] at fv;cases fv
    have aQ:b<w.heap.size:=(iz.1 hh).1
    have fin: ∀(E':Array MapEntry) (Bn:Nat),(Instr.mapUpdate t (.map (some b)) k v).run P w= .ok () {w with heap:=w.heap.setIfInBounds b (.map E' Bn)}→E'.size=(iW kx vx es).length→
      (∀(j:Nat) (e:MapEntry) (x:V),E'[j]? =some e→(iW kx vx es)[j]? =some x→Fl P kt vt e x)→E'.toList.Pairwise (fun a b=>a.key≠b.key)→
      pX P ((Instr.mapUpdate t (.map (some b)) k v).run P w) w I β hp B M w0 ⟨.undef,[(id,.map t (iW kx vx es))]⟩:=by
     intro E' Bn c8 KM cF KV
     have e8:({w with heap:=w.heap.setIfInBounds b (.map E' Bn)}:World).heap[b]? =some (.map E' Bn):=by simp[aQ]
     obtain ⟨a1,a2⟩:=Fx S (w':={w with heap:=w.heap.setIfInBounds b (.map E' Bn)}) (blk':= .map t (iW kx vx es)) ab (by simp) rfl hb hI (by simp)
      (fun b' aB=>by simp[Array.getElem?_setIfInBounds,Ne.symm aB]) (by simp only[bsize,e8,hh]) (by simp) ⟨rfl,rfl⟩ (fun _=> .map hu rfl e8 KM hI cF KV)
     exact ⟨_,I,β,c8,a1,a2,rfl⟩
    rcases Q7 hs hx hn p8 p9 w with ⟨h1,U,_,_,h5⟩|⟨j,e,k',y,h1,hE,Ri,o6,abQ,abR,_,_,_,_,h5⟩
    ·have e5:=h5 vx
     refine fin (E.push {key:=k,val:=v,born:=clock}) (clock+1) ?_ (by rw[e5];simp[hs]) (fun j e x he rD=> ?_) ?_
     ·unfold Instr.mapUpdate
      simp only[Sem.run_bind,run_underlying hu,Result.andThen_ok,Go.MapKept.run_getObj_map hh,K.check w false hl,h1,Go.MapKept.run_setObj_map _ hh]
     ·rw[e5] at rD
      rw[Array.getElem?_push] at he
      split at he
      ·rename_i hj
       rw[iU (by omega),hj,hs,Nat.sub_self] at rD
       simp at he rD
       subst he;subst rD
       exact ⟨kx,vx,rfl,p8,p9,u9,xJ⟩
      ·have hj:j<E.size:=(iz.1 he).1
       rw[iT (by omega)] at rD
       exact hx j e x he rD
     ·rw[Array.toList_push,List.pairwise_append]
      refine ⟨hn,by simp,fun a ha b' aB=> ?_⟩
      simp only[ew] at aB
      subst aB
      exact U a ha
    ·have e5:=h5 vx
     have hj:j<E.size:=(iz.1 hE).1
     refine fin (E.modify j fun e=>{e with key:=k,val:=v}) clock ?_ (by rw[e5];simp[hs]) (fun i e' x he gG=> ?_) ?_
     ·have bM:=K.stays w hl
      unfold Instr.mapUpdate
      simp only[Sem.run_bind,run_underlying hu,Result.andThen_ok,Go.MapKept.run_getObj_map hh,K.check w false hl,h1]
      simp only[hE,Option.map_some,Option.getD_some,Ri,bM,Result.andThen_ok,Go.MapKept.run_setObj_map _ hh]
     ·rw[e5] at gG
      rw[Ao] at he
      rw[Al] at gG
      split at he
      ·rename_i va
       subst va
       rw[ag rfl,ag (by omega)] at gG
       rw[hE] at he
       simp at he gG
       subst he;subst gG
       exact ⟨k',vx,rfl,abQ,abR,u9,xJ⟩
      ·rename_i va
       rw[ah va] at gG
       exact hx i e' x he gG
     ·have vb: ∀i (h1:i<(E.modify j fun e=>{e with key:=k,val:=v}).toList.length) (U:i<E.toList.length),((E.modify j fun e=>{e with key:=k,val:=v}).toList[i]).key=(E.toList[i]).key:=by
       intro i h1 U
       simp only[Array.getElem_toList,Array.getElem_modify]
       split
       ·rename_i va
        subst va
        have:=(iz.1 hE).2
        rw[this,Ri]
       ·rfl
      rw[EM] at hn⊢
      intro i i' h1 U jh
      have g1:i<E.toList.length:=by simpa using h1
      have g2:i'<E.toList.length:=by simpa using U
      rw[vb i h1 g1,vb i' U g2]
      exact hn i i' g1 g2 jh
theorem abS (S:aH P w I β hp B M w0) {t ty kt vt:TypeId} {v:Value} {x:V} {r:R} {rd:List Nat} (hu:P.underlying t=some (.map kt vt)) (hv:ao P w I β hp v x)
  (h:(E7 x).run C hp=some (r,rd)):db P ((Builtin.len_ #[t] ty #[v]).run P w) w I β hp B M w0 r:=by
 unfold E7 at h
 cases x<;>simp only at h<;>first|(cases h;done)|skip
 ·rename_i t' id
  obtain ⟨l2,h'⟩:=run_get h
  clear h
  have h:=h'
  clear h'
  cases ab:hp id with
  | none=>rw[ab] at h;cases h
  | some blk=>
   rw[ab] at h
   cases blk<;>simp only at h<;>first|(cases h;done)|skip
   rename_i t2 es
   obtain rfl:=aU h
   cases hv with
   | iH hd=>rw[ab] at hd;cases hd
   | @cE _ _ b aR hd hb=>
    rw[ab] at hd
    cases hd
    have hr:=S.h.rel id _ ab
    cases hr with
    | @map _ Rf Rg _ b' clock E fv aB hh hs hI hx hn=>
     rw[hb] at aB;cases aB
     refine .same S (v:= .int .i64 E.size) (by simp[Builtin.len_,run_underlying hu,Go.MapKept.run_getObj_map hh,goInt]) ?_
     rw[hs]
     exact .int
 ·obtain rfl:=aU h
  cases hv
  exact .same S (v:= .int .i64 0) (by simp[Builtin.len_,run_underlying hu,goInt]) .int
theorem ao.KW {v:Value} {t:TypeId} (h:ao P w I β hp v (.dE t)):v= .map none:=by cases h;rfl
theorem ao.abT {v:Value} {t t':TypeId} {id:Nat} {es:List V} (h:ao P w I β hp v (.cE t id)) (ab:hp id=some (.map t' es)): ∃b,v= .map (some b):=by
 cases h with
 | iH h=>rw[ab] at h;cases h
 | cE h hb=>exact ⟨_,rfl⟩
theorem Rj (S:aH P w I β hp B M w0) {op:BinOp} {t:TypeId} {a:Option Nat} {r:R} {rd:List Nat} (x y:Operand)
  (h:(E1 P op t a.isNone).run C hp=some (r,rd)):db P ((do eqGuard op t x y (.map a) (.map none);binOp op t (.map a) (.map none)).run P w) w I β hp B M w0 r:=by
 unfold E1 at h
 split at h
 case h_2=>cases h
 rename_i kt vt hu
 have he:(Op.equal t (.map a) (.map none)).run P w= .ok a.isNone w:=by
  show (Op.equalIn (9999+1) t (.map a) (.map none)).run P w=_
  rw[Op.equalIn]
  cases a<;>simp[Sem.run_bind,run_underlying hu,Result.andThen_ok,Sem.run_pure]
 cases op<;>simp only at h<;>first|(cases h;done)|skip
 ·obtain rfl:=aU h
  exact .same S (by simp[eqGuard,binOp,he]) .bool
 ·obtain rfl:=aU h
  exact .same S (by simp[eqGuard,binOp,he]) .bool
end
end Go.AM
namespace Go.AM
section
variable {P:Program} {w w':World} {I I':Nat→Prop} {β β':Nat→Option Nat} {hp hp':Nat→Option an} {C:ae} {B:Nat} {M:Nat→Prop} {w0:Start}
theorem abU {e:TypeId} (he:P.underlying e=some (.int .u8)) (hc:P.cellsOf e=1) (s:ByteArray): ∀(i j:Nat) (x:V) (t':TypeId),(s.data.toList.map dG)[i]? =some x→(bc P e)[j]? =some t'→j<P.cellsOf e→
  ∃u,(Lib.strCells s)[i*P.cellsOf e+j]? =some u∧Pure P w I t' u (bQ P e x j):=by
 intro i j x t' hx ht hj
 have nV:bO P e=false:=by simp[bO,he]
 obtain rfl:j=0:=by omega
 simp only[bc,nV,cond_false,List.getElem?_cons_zero,ed] at ht
 subst ht
 rw[fU] at hx
 cases hb:s.data.toList[i]? with
 | none=>rw[hb] at hx;cases hx
 | some b=>
  rw[hb] at hx
  cases hx
  refine ⟨.int .u8 b.toNat,?_,?_⟩
  ·rw[hc,nz,Nat.add_zero]
   simp only[Lib.strCells,fU,hb,Option.map_some]
  ·simp only[bQ,nV,cond_false]
   exact .int he
theorem abV (w:World) (t u ty e:TypeId) (i:TypeInfo) (z:Value) (ht:P.underlying t=some (.slice e)) (hu:P.underlying u=some .string) (hi:P.info? e=some i) (hz:i.zero=some z)
  (s:ByteArray) (h0:0<s.size) (FV:(s.size:Int)≤9223372036854775807) (FW:s.size*i.bytes≤281474976710656) (a0:Option Addr):
  (Builtin.append_ #[t,u] ty #[.slice a0 0 0,.string s]).run P w=
   .ok (.slice (some ⟨w.heap.size,0,none⟩) s.size (grownCap w s.size 0 e))
    (w.drew.alloc (.cells (s.data.map (fun b=>Value.int .u8 b.toNat)++Builtin.zeroCells z.cells (grownCap w s.size 0 e-s.size)) e)):=by
 cases a0 with
 | none=>exact run_append_nil_string w t u ty e i z ht hu hi hz s h0 FV FW
 | some b=>
  rw[←run_append_nil_string w t u ty e i z ht hu hi hz s h0 FV FW]
  have hn:s.size≠0:=by omega
  have abW: ¬(9223372036854775807<(s.size:Int)):=by omega
  have abY: ¬(281474976710656<Builtin.nextslicecap s.size 0*i.bytes):=by rw[nextslicecap_zero h0];omega
  simp[Builtin.append_,run_underlying ht,run_underlying hu,sizeOf,typeInfo,zeroValue,hi,hz,Builtin.lenOf,Builtin.firstCells,hn,abW,abY,Question.forced,newRow,grownCap,loadCells,loadCellsFrom]
theorem Rk (S:aH P w I β hp B M w0) {t u ty e:TypeId} {nb:Nat} {x:ByteArray} {xs:List V} {i:TypeInfo} {z:Value} (hu:P.underlying t=some (.slice e)) (o7:P.underlying u=some .string) (ay:cX P e=true) (hn:hp nb=none)
 (hi:P.info? e=some i) (hz:i.zero=some z) (h3:i.size=P.cellsOf e) (h4:z.cells.size=P.cellsOf e) (xX:i.size=1) (lB:P.bytesOf e=i.bytes) (dZ:xs.length*P.bytesOf e≤cI) (mS:xs.length=x.size) (kJ:(Lib.strCells x).length=x.size)
 (cY: ∀(i j:Nat) (y:V) (t':TypeId),xs[i]? =some y→(bc P e)[j]? =some t'→j<P.cellsOf e→∃u,(Lib.strCells x)[i*P.cellsOf e+j]? =some u∧Pure P w I t' u (bQ P e y j)):
 ∀a0,∃v w' β',(Builtin.append_ #[t,u] ty #[.slice a0 0 0,.string x]).run P w= .ok v w'∧Le P w I β hp w' I β' (aM hp nb (some (.arr e xs false)))∧aH P w' I β' (aM hp nb (some (.arr e xs false))) B M w0∧
  ao P w' I β' (aM hp nb (some (.arr e xs false))) v (.whole e nb):=by
 intro a0
 have u5:=xB ay
 have hlen:xs.length≤2^45:=by
  have:xs.length*1≤xs.length*P.bytesOf e:=uq _ u5
  simp only[cI] at dZ
  omega
 by_cases h0:x.size=0
 ·have gI:xs=[]:=lO (by omega)
  subst gI
  obtain ⟨a1,a2⟩:=Fv S e hn
  have hf:=Lib.run_firstCells_string (P:=P) w 1 x
  rw[h0] at hf
  have rI:Lib.strCells x=[]:=lO (by omega)
  exact ⟨.slice a0 0 0,_,_,by cases a0<;>simp[storeCells,rI,Builtin.append_,run_underlying hu,run_underlying o7,sizeOf,typeInfo,hi,xX,Builtin.lenOf,h0,hf],a1,a2,.dO (c7 _ _ _) (c7 _ _ _)⟩
 ·have c8:=abV (P:=P) w t u ty e i z hu o7 hi hz x (by omega) (by omega) (by rw[←lB,←mS];simp only[cI] at dZ;omega) a0
  have e1:(x.data.map fun b=>Value.int .u8 b.toNat)=(Lib.strCells x).toArray:=by
   apply Array.ext'
   simp[Lib.strCells]
  rw[e1,←mS] at c8
  have p5:=grownCap_ge w xs.length 0 e
  have u6:grownCap w xs.length 0 e≤maxLen:=grownCap_le_maxLen w xs.length 0 e (by simp only[maxLen];omega)
  obtain ⟨n1,n2,n3⟩:=xT S.drew (nb:=nb) (cap:=grownCap w xs.length 0 e) (es:=xs) (C0:=(Lib.strCells x).toArray++Builtin.zeroCells z.cells (grownCap w xs.length 0 e-xs.length)) ay hn
   (by
    have:(Lib.strCells x).length=xs.length*P.cellsOf e:=by rw[kJ,mS,←h3,xX,nz]
    simp only[EK,qW,size_zeroCells,h4,this,←dA];congr 1;omega) p5 u6
   (fun i' j y t' hy ht hj=>by
    obtain ⟨u,fv,hp⟩:=cY i' j y t' hy ht hj
    have aQ:=(bw.1 fv).1
    refine ⟨u,?_,Pure.drew hp⟩
    rw[Array.getElem?_append_left (by simpa using aQ)]
    simpa using fv)
  exact ⟨_,_,_,c8,(Le.drew w I β hp).trans n1,n2,n3⟩
theorem abZ (S:aH P w I β hp B M w0) {t u ty e:TypeId} {nb:Nat} {s:Value} {sv:V} {x:ByteArray} {r:R} {rd:List Nat} (hu:P.underlying t=some (.slice e)) (o7:P.underlying u=some .string) (he:P.underlying e=some (.int .u8)) (hs:ao P w I β hp s sv)
  (h:(xn P nb e sv (.list e (x.data.toList.map dG))).run C hp=some (r,rd)):db P ((Builtin.append_ #[t,u] ty #[s,.string x]).run P w) w I β hp B M w0 r:=by
 unfold xn at h
 obtain ⟨ay,h⟩:=aK h
 simp only[sW] at h
 obtain ⟨_,h⟩:=aK h
 have nV:bO P e=false:=by simp[bO,he]
 have dQ:P.cellsOf e=1:=by rw[←(kG ay).1,AZ nV];rfl
 obtain ⟨i,z,hi,hz,h3,h4,_⟩:=kK ay
 have xX:i.size=1:=by rw[h3,dQ]
 have u5:=xB ay
 have lB:P.bytesOf e=i.bytes:=by simp[Program.bytesOf,hi]
 have F4:=abU (P:=P) (w:=w) (I:=I) he dQ x
 have mS:(x.data.toList.map dG).length=x.size:=by simp
 have kJ:(Lib.strCells x).length=x.size:=Lib.strCells_length x
 have h1:=Lib.strCells_oneCell x
 generalize gI:x.data.toList.map dG=xs at*
 cases sv with
 | nilS e'=>
  obtain ⟨hc,h⟩:=aK h
  simp only[aO,a9,ej] at hc
  obtain ⟨hn,rfl⟩:=nS h
  obtain ⟨a0,rfl⟩: ∃a0,s= .slice a0 0 0:=by cases hs;exact ⟨_,rfl⟩
  obtain ⟨v,w',β',a1,a2,a3,a4⟩:=Rk S hu o7 ay hn hi hz h3 h4 xX lB hc.2 mS kJ F4 _
  exact ⟨v,w',I,β',a1,a2,a3,a4⟩
 | whole e' id=>
  obtain ⟨l,h⟩:=run_get h
  cases ab:hp id with
  | none=>rw[ab] at h;cases h
  | some blk=>
   rw[ab] at h
   cases blk with
   | dead=>cases h
   | var _=>cases h
   | nest _ _ _=>cases h
   | map _ _=>cases h
   | arr dM es fz=>
    cases fz with
    | true=>cases h
    | false=>
     obtain ⟨hc,h⟩:=aK h
     obtain ⟨hn,rfl⟩:=nS h
     simp only[aO,a9,ej] at hc
     obtain ⟨KD,KE,dZ⟩:=hc
     subst KD
     subst KE
     have bD:nb≠id:=fun e=>by rw[e,ab] at hn;cases hn
     obtain ⟨k1,k2⟩:=Fw S ab
     have kL:aM hp id (some an.dead) nb=none:=by rw[er _ _ bD];exact hn
     cases hs with
     | eo hd=>rw[ab] at hd;cases hd
     | eC hd=>rw[ab] at hd;cases hd
     | dO hd hb=>
      rw[ab] at hd
      cases hd
      simp only[List.length_nil,gV] at dZ
      obtain ⟨v,w',β',a1,a2,a3,a4⟩:=Rk k2 hu o7 ay kL hi hz h3 h4 xX lB dZ mS kJ F4 _
      exact ⟨v,w',I,β',a1,k1.trans a2,a3,a4⟩
     | @whole _ _ aR nF b cap hd hb bd ch hm=>
      rw[ab] at hd
      cases hd
      have hr:=S.h.rel id _ ab
      cases hr with
      | dP aB=>rw[aB] at hb;cases hb
      | @arr _ _ _ b' Ca _ aB hh p7 hf ep mP=>
       rw[hb] at aB
       cases aB
       have hlen:es.length+xs.length≤2^45:=by
        have:(es.length+xs.length)*1≤(es.length+xs.length)*P.bytesOf e:=uq _ u5
        simp only[cI] at dZ
        omega
       rw[nK hh] at bd
       have rB: ∀aG blk',aM hp id (some an.dead) aG=some blk'→¬bC P w (β aG) blk' b:=by
        intro aG blk' h1 U
        by_cases jh:aG=id
        ·subst jh;rw[c7] at h1;cases h1;exact U.alive rfl
        ·rw[er _ _ jh] at h1
         exact jh (S.h.inj aG id blk' _ b h1 ab U (.root (by simp) hb))
       have KF:=S.h.s6 id _ b ab (by simp) hb
       have l9:es.length*P.cellsOf e≤Ca.toList.length:=by simpa using p7
       have Rl:(Lib.strCells x).length=xs.length*P.cellsOf e:=by rw[kJ,mS,dQ,nz]
       by_cases ti:es.length+xs.length≤cap
       ·have Bj:es.length*P.cellsOf e+(Lib.strCells x).length≤Ca.size:=by rw[Rl,←dA,←bd];exact dL _ ti
        have c8:=Lib.run_append_room_string (P:=P) w t u ty e i hu o7 hi xX b es.length cap Ca hh x (by rw[←mS];exact ti) (by rw[←kJ];rw[dQ,nz] at Bj;exact Bj)
        have cY:=FT (P:=P) (w:=w) (I:=I) (n:=es.length) (c:=Ca.toList) rfl (fun i j y t' a b c=>by
         obtain ⟨v,hv,hp⟩:=mP i j y t' a b c
         exact ⟨v,by simpa using hv,hp⟩) F4 l9 (Ca.toList.drop (es.length*P.cellsOf e+(Lib.strCells x).length))
        generalize xP:(Ca.toList.take es.length++Lib.strCells x++Ca.toList.drop (es.length+x.size)).toArray=C' at c8
        have o4:C'.size=Ca.size:=by
         rw[dQ,nz] at Bj
         rw[←xP];simp;omega
        have Rm:(w.setRow b C').heap[b]? =some (.cells C' e (0,0)):=setRow_heap w b Ca C' e _ hh
        obtain ⟨a1,a2⟩:=A4 k2 (blk:= .arr e (es++xs) false) (w':=w.setRow b C') kL rB (ep rfl) (fun b' h _=>setRow_other w b b' _ h) (by simp) ⟨rfl,rfl⟩ KF
         (fun b' h=>(cT (h.flat (by simp))).symm) (fun hle=> .arr ay rfl Rm (by rw[o4,←bd];exact dL _ (by simpa using ti)) (fun h=>by cases h) (fun _=>ep rfl) fun i j y t' a b c=>by
          obtain ⟨v,hv,hp⟩:=cY i j y t' a b c
          refine ⟨v,?_,hp.mono hle.dq hle.cm⟩
          rw[←xP,nw]
          rw[dQ] at hv⊢
          simpa[kJ] using hv)
        refine ⟨_,_,_,_,c8,k1.trans a1,a2,?_⟩
        have a3:=ao.whole (P:=P) (w:=w.setRow b C') (I:=I) (β:=aM β nb (some b)) (hp:=aM (aM hp id (some .dead)) nb (some (.arr e (es++xs) false))) (cap:=cap) (b:=b) (es:=es++xs) (fz:=false) (id:=nb) (e:=e) (c7 _ _ _) (c7 _ _ _) (by rw[nK Rm,o4,bd]) (by simpa using ti) hm
        rw[cB,mS] at a3
        exact a3
       ·have hold: ∀(j:Nat) v,(Ca.toList.take (es.length*P.cellsOf e))[j]? =some v→w.cell? ((⟨b,0,none⟩:Addr).add j)=some v:=by
         intro j v hj
         have cp:=(bw.1 hj).1
         have gv:j<es.length*P.cellsOf e:=by rw[fT] at cp;omega
         rw[ff gv] at hj
         rw[nP,cell?_cells hh,gV]
         simpa using hj
        have c8:=Lib.run_append_grow_string (P:=P) w t u ty e i z hu o7 hi hz ⟨b,0,none⟩ es.length cap (Ca.toList.take (es.length*P.cellsOf e)) (by rw[h3];simp;omega) hold x (by omega) (by omega)
         (growslice_fits (by omega) (by rw[←lB,←mS];simp only[cI] at dZ;omega))
        rw[←mS] at c8
        have p5:=grownCap_ge w (es.length+xs.length) cap e
        have u6:grownCap w (es.length+xs.length) cap e≤maxLen:=grownCap_le_maxLen w _ cap e (by simp only[maxLen];omega)
        have cY:=FT (P:=P) (w:=w) (I:=I) (n:=es.length) (c:=Ca.toList) rfl (fun i j y t' a b c=>by
         obtain ⟨v,hv,hp⟩:=mP i j y t' a b c
         exact ⟨v,by simpa using hv,hp⟩) F4 l9 (Builtin.zeroCells z.cells (grownCap w (es.length+xs.length) cap e-(es.length+xs.length))).toList
        obtain ⟨n1,n2,n3⟩:=xT k2.drew (nb:=nb) (cap:=grownCap w (es.length+xs.length) cap e) (es:=es++xs)
         (C0:=(Ca.toList.take (es.length*P.cellsOf e)).toArray++(Lib.strCells x).toArray++Builtin.zeroCells z.cells (grownCap w (es.length+xs.length) cap e-(es.length+xs.length))) ay kL
         (by
          have e1:(Ca.toList.take (es.length*P.cellsOf e)).length=es.length*P.cellsOf e:=by simp;omega
          simp only[EK,qW,size_zeroCells,h4,Rl,e1,←dA];congr 1;omega) (by simpa using p5) u6
         (fun i j y t' a b c=>by
          obtain ⟨v,hv,hp⟩:=cY i j y t' a b c
          refine ⟨v,?_,Pure.drew hp⟩
          rw[←sM]
          simpa using hv)
        rw[cB] at n3
        exact ⟨_,_,_,_,c8,(k1.trans (Le.drew w I β _)).trans n1,n2,n3⟩
 | _=>cases h
end
section
variable {P:Program} {w w':World} {I I':Nat→Prop} {β β':Nat→Option Nat} {hp hp':Nat→Option an} {C:ae} {B:Nat} {M:Nat→Prop} {w0:Start}
theorem Rn: ∀(ns:List Int) (s:ByteArray),(ns.foldl (fun r n=>r.push (UInt8.ofNat n.toNat)) s).data.toList=s.data.toList++ns.map fun n=>UInt8.ofNat n.toNat
 | [],s=>by simp
 | n::ns,s=>by
  simp only[List.foldl_cons,Rn ns,cr]
  simp[ByteArray.push]
theorem KX {e:TypeId} {u:Value} {x:V} (he:P.underlying e=some (.int .u8)) (hp:Pure P w I e u x):u= .int .u8 x.toInt:=by
 cases hp with
 | int hp'=>rw[he] at hp';cases hp';rfl
 | bool hp'=>rw[he] at hp';cases hp'
 | str hp'=>rw[he] at hp';cases hp'
 | nil hp'=>rw[he] at hp';cases hp'
 | emp hp'=>rw[he] at hp';cases hp'
 | list _ hp'=>rw[he] at hp';cases hp'
theorem ab0 (S:aH P w I β hp B M w0) {src dst e:TypeId} {v:Value} {x:V} {r:R} {rd:List Nat} (hs:P.underlying src=some (.slice e)) (he:P.underlying e=some (.int .u8)) (hd:P.underlying dst=some .string)
  (hv:ao P w I β hp v x) (h:(Rd.aE (cX P e) (sW e x fun es=> .ret ⟨.str (lk es),[]⟩)).run C hp=some (r,rd)):db P ((convert src dst v).run P w) w I β hp B M w0 r:=by
 obtain ⟨ay,h⟩:=aK h
 obtain ⟨xs,hx,l,h⟩:=FR S.h.rel ay hv h
 obtain rfl:=aU h
 have nV:bO P e=false:=by simp[bO,he]
 have h1:P.cellsOf e=1:=by rw[←(kG ay).1,AZ nV];rfl
 rcases hx with ⟨⟨a,rfl⟩,rfl⟩|⟨a,c,news,hr⟩
 ·refine .same S (v:= .string .empty) ?_ (.str (by simp[lk]))
  rw[run_convert_bytes_string w src dst e a 0 0 hs he hd]
  cases a<;>simp[Conv.bytesToString,loadCells,loadCellsFrom]
 ·have FU:news=(xs.map V.toInt).map (Value.int .u8):=by
   apply EN
   intro j
   by_cases hj:j<xs.length
   ·obtain ⟨u,hu,hp⟩:=hr.el j 0 xs[j] e (bH hj) (by simp[bc,nV]) (by omega)
    rw[h1] at hu
    simp only[bQ,nV,cond_false] at hp
    have fv:news[j]? =some u:=by simpa using hu
    rw[fv]
    have:=KX he hp
    simp[hj,←this]
   ·have hl:news.length=xs.length:=by rw[hr.len,h1];simp
    rw[qU (by omega),qU (by simp;omega)]
  have KY:=run_loadCells_list (P:=P) w a news hr.cell
  have hl:news.length=xs.length:=by rw[hr.len,h1];simp
  rw[hl] at KY
  rw[FU] at KY
  refine .same S (v:= .string ((xs.map V.toInt).foldl (fun r n=>r.push (UInt8.ofNat n.toNat)) ByteArray.empty)) ?_ (.str ?_)
  ·rw[hr.val,run_convert_bytes_string w src dst e _ _ _ hs he hd]
   exact run_bytesToString w a xs.length c (xs.map V.toInt) KY
  ·rw[Rn]
   simp[lk]
theorem ao.F5 {v:Value} (h:ao P w I β hp v .dB):v= .pointer none:=by cases h;rfl
section
variable (w:World)
theorem ab1 (t e:TypeId) (a:Addr) (h:P.underlying t=some (.pointer e)):(binOp .eql t (.pointer (some a)) (.pointer none)).run P w= .ok (.bool false) w:=by
 have h0: ∀d:Nat,(Op.equalIn (d+1) t (.pointer (some a)) (.pointer none)).run P w= .ok false w:=fun d=>by simp[Op.equalIn,run_underlying h]
 simp only[binOp]
 simp[Op.equal,Op.maxDepth,h0 9999]
theorem ab2 (t e:TypeId) (a:Addr) (h:P.underlying t=some (.pointer e)):(binOp .neq t (.pointer (some a)) (.pointer none)).run P w= .ok (.bool (!false)) w:=by
 have h0: ∀d:Nat,(Op.equalIn (d+1) t (.pointer (some a)) (.pointer none)).run P w= .ok false w:=fun d=>by simp[Op.equalIn,run_underlying h]
 simp only[binOp]
 simp[Op.equal,Op.maxDepth,h0 9999]
theorem ab3 (t e:TypeId) (a:Addr) (h:P.underlying t=some (.pointer e)):(binOp .eql t (.pointer none) (.pointer (some a))).run P w= .ok (.bool false) w:=by
 have h0: ∀d:Nat,(Op.equalIn (d+1) t (.pointer none) (.pointer (some a))).run P w= .ok false w:=fun d=>by simp[Op.equalIn,run_underlying h]
 simp only[binOp]
 simp[Op.equal,Op.maxDepth,h0 9999]
theorem ab4 (t e:TypeId) (a:Addr) (h:P.underlying t=some (.pointer e)):(binOp .neq t (.pointer none) (.pointer (some a))).run P w= .ok (.bool (!false)) w:=by
 have h0: ∀d:Nat,(Op.equalIn (d+1) t (.pointer none) (.pointer (some a))).run P w= .ok false w:=fun d=>by simp[Op.equalIn,run_underlying h]
 simp only[binOp]
 simp[Op.equal,Op.maxDepth,h0 9999]
theorem ab5 (t e:TypeId) (h:P.underlying t=some (.pointer e)):(binOp .eql t (.pointer none) (.pointer none)).run P w= .ok (.bool true) w:=by
 have h0: ∀d:Nat,(Op.equalIn (d+1) t (.pointer none) (.pointer none)).run P w= .ok true w:=fun d=>by simp[Op.equalIn,run_underlying h]
 simp only[binOp]
 simp[Op.equal,Op.maxDepth,h0 9999]
theorem ab6 (t e:TypeId) (h:P.underlying t=some (.pointer e)):(binOp .neq t (.pointer none) (.pointer none)).run P w= .ok (.bool (!true)) w:=by
 have h0: ∀d:Nat,(Op.equalIn (d+1) t (.pointer none) (.pointer none)).run P w= .ok true w:=fun d=>by simp[Op.equalIn,run_underlying h]
 simp only[binOp]
 simp[Op.equal,Op.maxDepth,h0 9999]
end
theorem F6 (S:aH P w I β hp B M w0) {op:BinOp} {t:TypeId} {b:Bool} {x y:Operand} {v1 v2:Value} {r:R} {rd:List Nat} (h:(ptrEq P op t b).run C hp=some (r,rd)) (hg:(eqGuard op t x y v1 v2).run P w= .ok () w)
  (he: ∀e j,P.underlying t=some (.pointer e)→P.info? e=some j→(binOp .eql t v1 v2).run P w= .ok (.bool b) w∧(binOp .neq t v1 v2).run P w= .ok (.bool (!b)) w):
  db P ((do eqGuard op t x y v1 v2;binOp op t v1 v2:Sem Value).run P w) w I β hp B M w0 r:=by
 unfold ptrEq at h
 cases hu:P.underlying t with
 | none=>rw[hu] at h;cases h
 | some d=>
  rw[hu] at h
  cases d<;>simp only at h<;>first|(cases h;done)|skip
  rename_i e
  obtain ⟨h1,U⟩:=aK h
  obtain ⟨j,hj⟩:=An.1 h1
  obtain ⟨k1,k2⟩:=he e j hu hj
  cases op<;>simp only at U<;>first|(cases U;done)|skip
  ·obtain rfl:=aU U
   exact .same S (by simp only[Sem.run_bind,hg,Result.andThen_ok,k1]) .bool
  ·obtain rfl:=aU U
   exact .same S (by simp only[Sem.run_bind,hg,Result.andThen_ok,k2]) .bool
theorem ab7 {b n:Nat}:(∀b',b'≠b→(w.freeze ⟨b,0,none⟩ n).heap[b']? =w.heap[b']?)∧bsize (w.freeze ⟨b,0,none⟩ n) b=bsize w b∧w.heap.size≤(w.freeze ⟨b,0,none⟩ n).heap.size∧(w.freeze ⟨b,0,none⟩ n).os=w.os∧(w.freeze ⟨b,0,none⟩ n).output=w.output:=by
 unfold World.freeze
 split
 ·exact ⟨fun _ _=>rfl,rfl,bV _,rfl,rfl⟩
 ·refine ⟨fun b' hb=> ?_,?_,by simp,rfl,rfl⟩
  ·simp only[Ao]
   rw[ah (fun e=>hb e.symm)]
  ·simp only[bsize,Ao,cU]
   cases w.heap[b]? with
   | none=>rfl
   | some o=>cases o<;>rfl
theorem ab8 {e:TypeId} (hb:isByte P e=true):P.underlying e=some (.int .u8):=by
 unfold isByte at hb
 split at hb
 ·assumption
 ·cases hb
theorem ab9 (S:aH P w I β hp B M w0) {ts:Array TypeId} {ty e:TypeId} {v:Value} {id:Nat} {es:List V} {fz:Bool} (hv:ao P w I β hp v (.whole e id)) (ab:hp id=some (.arr e es fz)) (h0:0<es.length):
  db P ((Builtin.unsafeSliceData_ ts ty #[v]).run P w) w I β hp B M w0 ⟨.ptr id 0 0,[]⟩:=by
 cases hv with
 | eo h=>rw[ab] at h;cases h
 | dO h _=>rw[ab] at h;cases h;simp at h0
 | eC h _ _ _ _=>rw[ab] at h;cases h
 | @whole _ _ aR nF b cap h hb ch hle hm=>
  rw[ab] at h;cases h
  refine .same S (Lib.run_unsafeSliceData_row w ts ty ⟨b,0,none⟩ es.length cap (by omega)) ?_
  have:=ao.ptr (P:=P) (w:=w) (I:=I) (β:=β) (i:=0) (c:=0) ab (by simp) hb
  simpa using this
theorem aca (S:aH P w I β hp B M w0) {t u ty e:TypeId} {vx:Value} {id:Nat} {n:Int} {es:List V} (hu:P.underlying t=some (.pointer e)) (hb:isByte P e=true) (hv:ao P w I β hp vx (.ptr id 0 0))
  (ab:hp id=some (.arr e es false)) (h0:0<n) (hn:n≤es.length) (hm:n.toNat≤sV) (jF:(es.take n.toNat).all xt=true):db P ((Builtin.unsafeString_ #[t,u] ty #[vx,.int .i64 n]).run P w) w I β hp B M w0 ⟨.str (lk (es.take n.toNat)),[(id,.dead)]⟩:=by
 obtain ⟨b,KZ,rfl⟩:=hv.hX ab (by simp)
 have he:P.underlying e=some (.int .u8):=by
  unfold isByte at hb
  split at hb
  ·assumption
  ·cases hb
 have nV:bO P e=false:=by simp[bO,he]
 have hr:=S.h.rel id _ ab
 rw[KZ] at hr
 cases hr with
 | dP aB=>cases aB
 | @arr _ _ _ b1 Ca ay l9 hh hs hI cV cY=>
  cases l9
  have h1:P.cellsOf e=1:=by rw[←(kG ay).1,AZ nV];rfl
  have aQ:=S.aaI ab (by simp) KZ
  have hl:(lk (es.take n.toNat)).length=n.toNat:=by simp[lk];omega
  have KV:n=((lk (es.take n.toNat)).length:Nat):=by rw[hl];omega
  have c8:=Lib.run_unsafeString_row (P:=P) w t u ty e hu h1 b Ca.size (by simp[World.shape?,hh]) (lk (es.take n.toNat)) (fun h=>by rw[h] at hl;simp at hl;omega) (by rw[hl];rw[h1] at hs;omega) (by rw[hl];unfold sV at hm;omega) (fun j x hx=>by
   have hj:j<n.toNat:=by
    have:=(bw.1 hx).1
    rw[hl] at this;exact this
   have iI:j<es.length:=by omega
   simp only[lk,fU,ff hj,bH iI,Option.map_some,ed] at hx
   obtain ⟨v,xU,bx⟩:=cY j 0 es[j] e (bH iI) (by simp[bc,nV]) (by omega)
   rw[h1] at xU
   simp only[bQ,nV,cond_false] at bx
   have:=KX he bx
   have hr:=fm.1 jF es[j] (jR (by rw[ff hj];exact bH iI))
   simp only[xt,aO,dX] at hr
   have nR:(x.toNat:Int)=es[j].toInt:=by
    rw[←hx]
    have:es[j].toInt.toNat<256:=by omega
    simp only[UInt8.toNat_ofNat']
    omega
   rw[nP,cell?_cells hh,nR]
   rw[show 0+j=j*1+0 by omega,xU,this])
  obtain ⟨f1,f2,f3,f4,f5⟩:=ab7 (w:=w) (b:=b) (n:=n.toNat)
  obtain ⟨k1,k2⟩:=Fx (w':=w.freeze ⟨b,0,none⟩ n.toNat) S ab (by simp) (blk':= .dead) (by trivial) KZ (cV rfl) (by simp) f1 f2 f3 ⟨f4,f5⟩ (fun _=> .dead)
  rw[←KV,hl] at c8
  refine ⟨.string ⟨(lk (es.take n.toNat)).toArray⟩,_,I,β,?_,k1,k2,.str ?_⟩
  ·simpa using c8
  ·rfl
def K0:Op→Bool
 | .call {callee:= .value (.func _),..}=>true
 | .call {callee:= .value (.tmp _),..}=>true
 | .defer _=>true
 | _=>false
theorem pV.val {o:Oper} {a:Act} {s:Sem Value} {r:R} (he:execOp a.eval o=(do Pure.pure (Next.value (←s)))) (h:db P (s.run P w) w I β hp B M w0 r):pV P ((execOp a.eval o).run P w) w I β hp B M w0 r:=by
 rw[he];exact h.op
theorem acb {A:cK} (S:aH P w I β hp B M w0) (hg:gE P A.aF w I) {a:Act} {sl:Nat→V} (hs:lr P w I β hp a sl) {ix nb:Nat} {o:Oper} (K1:K0 o.op=false) {r:R} {rd:List Nat}
  (h:(fI P A sl ix nb o).run C hp=some (r,rd)):pV P ((execOp a.eval o).run P w) w I β hp B M w0 r:=by
 obtain ⟨dst,op,ty,pos,after,guard⟩:=o
 cases op<;>simp only[fI] at h<;>first|(cases h;done)|skip
 case move x=>
  obtain rfl:=aU h
  exact ⟨_,w,I,β,.inl (by simp[execOp]),Le.refl w I β hp,S,hs.ev hg ty x⟩
 case assign x=>
  obtain rfl:=aU h
  exact ⟨_,w,I,β,.inl (by simp[execOp]),Le.refl w I β hp,S,hs.ev hg ty x⟩
 case pick c x y=>
  have hc:=hs.ev hg ty c
  cases u3:aV P A.aF ty sl c<;>rw[u3] at h hc<;>simp only at h<;>first|(cases h;done)|skip
  rename_i t
  have acd:=hc.kH
  have hx:=hs.ev hg ty x
  have hy:=hs.ev hg ty y
  have fin: ∀z:V,ao P w I β hp (if t then a.eval x else a.eval y) z→pV P ((execOp a.eval ⟨dst,.pick c x y,ty,pos,after,guard⟩).run P w) w I β hp B M w0 ⟨z,[]⟩:=by
   intro z hz
   exact ⟨_,w,I,β,.inl (by simp[execOp,acd,asBool]),Le.refl w I β hp,S,hz⟩
  cases Ro:gone (aV P A.aF ty sl x) with
  | true=>
   rw[Ro] at h
   obtain ⟨h1,h⟩:=aK h
   obtain rfl:=aU h
   have:t=false:=by simpa using h1
   subst this
   refine fin _ ?_
   simpa using hy
  | false=>
   rw[Ro] at h
   simp only[cond_false] at h
   cases F7:gone (aV P A.aF ty sl y) with
   | true=>
    rw[F7] at h
    obtain ⟨h1,h⟩:=aK h
    obtain rfl:=aU h
    subst h1
    refine fin _ ?_
    simpa using hx
   | false=>
    rw[F7] at h
    obtain rfl:=aU h
    exact fin _ (Qi hx hy)
 case makeFunc fn x y=>
  cases fn<;>simp only[fI] at h<;>first|(cases h;done)|skip
  rename_i f
  obtain rfl:=aU h
  refine ⟨.func (.func f) (x.map a.eval) (y.map a.eval),w,I,β,.inl (by simp[execOp,Instr.makeFunc]),Le.refl w I β hp,S,.fn (by simp) (fun j v z hj hz=> ?_) (by simp) (fun j v z hj hz=> ?_)⟩
  ·rw[Array.getElem?_map] at hj
   rw[fU,sM] at hz
   cases hx:x[j]? with
   | none=>rw[hx] at hj;cases hj
   | some o1=>
    rw[hx] at hj hz
    cases hj
    cases hz
    exact hs.ev hg ty o1
  ·rw[Array.getElem?_map] at hj
   rw[fU,sM] at hz
   cases hx:y[j]? with
   | none=>rw[hx] at hj;cases hj
   | some o1=>
    rw[hx] at hj hz
    cases hj
    cases hz
    exact hs.ev hg ty o1
 case defer c=>cases K1
 case makeMap t res=>
  cases res with
  | some x=>cases h
  | none=>exact .val rfl (abP S h)
 case lookup t m k ok=>
  cases ht:lU P t with
  | none=>rw[ht] at h;cases h
  | some q=>
   obtain ⟨kt,vt⟩:=q
   rw[ht] at h
   exact .val (s:=Instr.lookup t (a.eval m) (a.eval k) ok) rfl (abO S ht (hs.ev hg t m) (hs.ev hg kt k) h)
 case mapUpdate t m k x=>
  cases ht:lU P t with
  | none=>rw[ht] at h;cases h
  | some q=>
   obtain ⟨kt,vt⟩:=q
   rw[ht] at h
   have:=Rh S ht (hs.ev hg t m) (hs.ev hg kt k) (hs.ev hg vt x) h
   exact this.op
 case insert t m k x=>
  cases ht:lU P t with
  | none=>rw[ht] at h;cases h
  | some q=>
   obtain ⟨kt,vt⟩:=q
   rw[ht] at h
   have:=Rh S ht (hs.ev hg t m) (hs.ev hg kt k) (hs.ev hg vt x) h
   exact this.op
 case alloc e=>
  exact .val rfl (abf S h)
 case box e x=>
  exact .val rfl (abg S (hs.ev hg e x) h)
 case build t ps=>exact .val rfl (abi S hs hg h)
 case buildSlice t len ps=>
  cases hu:P.underlying t with
  | none=>rw[hu] at h;cases h
  | some d=>
   rw[hu] at h
   cases d<;>simp only at h<;>first|(cases h;done)|skip
   exact .val rfl (abo S hs hg hu h)
 case load t x=>exact .val rfl (aaW S (hs.ev hg ty x) h)
 case store t x y=>
  have:=abd S (hs.ev hg ty x) (hs.ev hg t y) h
  exact this.op
 case nilCheck x=>
  have hx:=hs.ev hg ty x
  cases fw:aV P A.aF ty sl x<;>rw[fw] at h hx<;>simp only at h<;>first|(cases h;done)|skip
  ·obtain ⟨⟨blk,ab,hd⟩,l,h⟩:=xF h
   obtain rfl:=aU h
   have cF:=hx
   obtain ⟨b,hb,he⟩:=hx.hX ab hd
   rw[he] at cF
   exact ⟨_,w,I,β,.inl (by simp only[execOp,he];rfl),Le.refl w I β hp,S,cF⟩
  ·obtain rfl:=aU h
   have cF:=hx
   obtain ⟨b,o,he,_⟩:=hx.FA
   rw[he] at cF
   exact ⟨_,w,I,β,.inl (by simp only[execOp,he];rfl),Le.refl w I β hp,S,cF⟩
  ·obtain ⟨e0,es,aq,l,ab,h1,U,h3,h⟩:=oX h
   obtain rfl:=aU h
   have cF:=hx
   obtain ⟨b,o,he,_⟩:=hx.Qg ab h1 U h3
   rw[he] at cF
   exact ⟨_,w,I,β,.inl (by simp only[execOp,he];rfl),Le.refl w I β hp,S,cF⟩
 case binOp op t x y yt=>
  have hx:=hs.ev hg t x
  have hy:=hs.ev hg t y
  refine .val (s:=do eqGuard op t x y (a.eval x) (a.eval y);binOp op t (a.eval x) (a.eval y)) rfl ?_
  cases fw:aV P A.aF t sl x<;>cases tj:aV P A.aF t sl y<;>rw[fw,tj] at h<;>rw[fw] at hx<;>rw[tj] at hy<;>first|(simp only[kA] at h;cases h;done)|skip
  ·rw[hx.dY,hy.dY]
   have:=aaN S h
   simpa[aaK] using this
  ·rw[hx.kH,hy.kH]
   have:=aaP S h
   simpa[aaL] using this
  ·obtain ⟨s1,e1,l1⟩:=hx.mL
   obtain ⟨s2,e2,l2⟩:=hy.mL
   rw[e1,e2]
   rw[←l1,←l2] at h
   have:=aaQ (t:=t) S h
   simpa[aaM] using this
  ·obtain ⟨cs,e1,h1,U⟩:=hx.ly
   obtain ⟨ds,e2,h3,h4⟩:=hy.ly
   rw[e1,e2]
   exact aaR S h1 h3 U h4 h
  ·
   simp only[kA] at h
   obtain ⟨h1,U⟩:=aK h
   clear h
   simp only[aO,a9] at h1
   obtain ⟨rfl,rfl,rfl⟩:=h1
   obtain ⟨⟨blk,ab,hd⟩,l,h⟩:=xF U
   obtain ⟨b,hb,e1⟩:=hx.hX ab hd
   obtain ⟨b',aB,e2⟩:=hy.hX ab hd
   rw[hb] at aB;cases aB
   rw[e1,e2]
   exact F6 S h (by cases op<;>simp[eqGuard]) fun e j he hj=>⟨run_eql_ptr_same w _ he hj,Lib.run_neq_ptr_same w _ he hj⟩
  ·simp only[kA] at h
   obtain ⟨⟨blk,ab,hd⟩,l,h⟩:=xF h
   obtain ⟨b,_,e1⟩:=hx.hX ab hd
   rw[e1,hy.F5]
   exact F6 S h (by cases op<;>simp[eqGuard]) fun e j he hj=>⟨ab1 w t e _ he,ab2 w t e _ he⟩
  ·simp only[kA] at h
   obtain ⟨⟨blk,ab,hd⟩,l,h⟩:=xF h
   obtain ⟨b,_,e1⟩:=hy.hX ab hd
   rw[e1,hx.F5]
   exact F6 S h (by cases op<;>simp[eqGuard]) fun e j he hj=>⟨ab3 w t e _ he,ab4 w t e _ he⟩
  ·simp only[kA] at h
   rw[hx.F5,hy.F5]
   exact F6 S h (by cases op<;>simp[eqGuard]) fun e j he hj=>⟨ab5 w t e he,ab6 w t e he⟩
  ·
   simp only[kA] at h
   obtain ⟨l,h⟩:=run_get h
   split at h
   ·rename_i t2 es ab
    obtain ⟨b,hb⟩:=hx.abT ab
    rw[hy.KW,hb]
    exact Rj (a:=some b) S x y h
   ·cases h
  ·simp only[kA] at h
   rw[hx.KW,hy.KW]
   exact Rj (a:=none) S x y h
 case unOp op t x=>exact .val rfl (aaS S (hs.ev hg ty x) h)
 case convert src dst x=>
  have hx:=hs.ev hg ty x
  refine .val (s:=convert src dst (a.eval x)) rfl ?_
  cases jc:P.underlying src with
  | none=>rw[jc] at h;cases h
  | some d1=>
   cases nW:P.underlying dst with
   | none=>rw[jc,nW] at h;cases d1<;>cases h
   | some d2=>
    rw[jc,nW] at h
    have iA: ∀{b:Nat} {T:TypeId} {cs:List V} {id:Nat},hp id=some (.var T cs)→β id=some b→w.shape? b=some (T,cs.length):=by
     intro b T cs id ab hb
     have hr:=S.h.rel id _ ab
     rw[hb] at hr
     cases hr with
     | var aB hh bd _ _ _=>cases aB;simp[World.shape?,hh,bd]
    cases d1<;>(try (cases d2<;>cases h;done))
    ·cases d2<;>(try (cases h;done))
     rename_i k1 k2
     cases fw:aV P A.aF ty sl x<;>rw[fw] at h hx<;>simp only at h<;>first|(cases h;done)|skip
     obtain rfl:=aU h
     rw[hx.dY]
     exact .same S (by simp[convert,run_underlying jc,run_underlying nW,Conv.intToInt]) .int
    ·cases d2<;>(try (cases h;done))
     rename_i u
     cases fw:aV P A.aF ty sl x<;>rw[fw] at h hx<;>simp only at h<;>first|(cases h;done)|skip
     rename_i id i c
     obtain ⟨l,h1⟩:=run_get h
     cases ab:hp id with
     | none=>rw[ab] at h1;cases h1
     | some blk=>
      rw[ab] at h1
      cases blk<;>simp only at h1<;>first|(cases h1;done)|skip
      rename_i T cs
      obtain ⟨U,h3⟩:=aK h1
      simp only[aO,a9] at U
      obtain ⟨rfl,h4,h5⟩:=U
      obtain ⟨b,hb,e1⟩:=hx.hX ab (by simp)
      obtain rfl:=aU h3
      obtain ⟨j,hj⟩:=An.1 h4
      have cF:=hx
      rw[e1] at cF⊢
      exact .same S (Lib.run_from_unsafe w _ jc nW hj (iA ab hb) (by simpa using h5)) cF
    ·cases d2<;>(try (cases h;done))
     rename_i t
     cases fw:aV P A.aF ty sl x<;>rw[fw] at h hx<;>simp only at h<;>first|(cases h;done)|skip
     rename_i id i c
     obtain ⟨l,h1⟩:=run_get h
     cases ab:hp id with
     | none=>rw[ab] at h1;cases h1
     | some blk=>
      rw[ab] at h1
      cases blk<;>simp only at h1<;>first|(cases h1;done)|skip
      rename_i T cs
      obtain ⟨U,h3⟩:=aK h1
      simp only[aO,a9,jP] at U
      obtain ⟨rfl,h4,h5⟩:=U
      obtain ⟨b,hb,e1⟩:=hx.hX ab (by simp)
      obtain rfl:=aU h3
      cases hj:P.info? t with
      | none=>rw[hj] at h5;cases h5
      | some j=>
       rw[hj] at h5
       simp only[lQ] at h5
       have h6:j.size≠0:=fun e=>by rw[e] at h5;cases h5
       have cF:=hx
       rw[e1] at cF⊢
       exact .same S (Lib.run_to_unsafe w _ jc nW hj h6 (iA ab hb) (by simpa using h4)) cF
    ·rename_i e
     cases d2<;>(try (cases h;done))
     simp only at h
     cases he:P.underlying e with
     | none=>rw[he] at h;cases h
     | some d3=>
      rw[he] at h
      cases d3<;>(try (cases h;done))
      rename_i k
      cases k<;>(try (cases h;done))
      exact ab0 S jc he nW hx h
 case fieldAddr s x f=>exact .val rfl (aaT S (hs.ev hg ty x) h)
 case field s x f=>exact .val rfl (abB S (hs.ev hg ty x) h)
 case indexAddr t x y=>exact .val rfl (abH S (hs.ev hg ty x) (hs.ev hg 0 y) h)
 case index t x y=>
  have hx:=hs.ev hg ty x
  have hy:=hs.ev hg 0 y
  refine .val (s:=Instr.index t (a.eval x) (a.eval y)) rfl ?_
  cases hu:P.underlying t with
  | none=>rw[hu] at h;cases h
  | some d=>
   rw[hu] at h
   cases d<;>(try (cases h;done))
   cases fw:aV P A.aF ty sl x<;>rw[fw] at h hx<;>(try (cases h;done))
   cases tj:aV P A.aF 0 sl y<;>rw[tj] at h hy<;>(try (cases h;done))
   obtain ⟨s,e1,l1⟩:=hx.mL
   rw[e1,hy.dY]
   exact abD S hu l1 h
 case slice t x lo hi mx=>
  cases mx with
  | some m=>
   simp only at h
   refine .val (s:=Instr.sliceAt t (a.eval x) (lo.map a.eval) (hi.map a.eval) (some (a.eval m))) (by simp[execOp]) (abG S (hs.ev hg ty x) (fun hy=> ?_) (fun y hy=> ?_) (fun y hy=> ?_) h)
   ·cases lo with
    | none=>rfl
    | some l=>cases hy
   ·cases hi with
    | none=>cases hy
    | some l=>cases hy;exact ⟨_,rfl,hs.ev hg 0 l⟩
   ·cases hy;exact ⟨_,rfl,hs.ev hg 0 m⟩
  | none=>
   simp only at h
   have plain:(E8 P t (aV P A.aF ty sl x) (lo.map (aV P A.aF 0 sl)) (hi.map (aV P A.aF 0 sl))).run C hp=some (r,rd)→pV P ((execOp a.eval ⟨dst,.slice t x lo hi none,ty,pos,after,guard⟩).run P w) w I β hp B M w0 r:=by
    intro h
    refine .val (s:=Instr.sliceAt t (a.eval x) (lo.map a.eval) (hi.map a.eval) none) (by simp[execOp]) (abF S (hs.ev hg ty x) (fun y hy=> ?_) (fun y hy=> ?_) (fun hy=> ?_) (fun hy=> ?_) h)
    ·cases lo with
     | none=>cases hy
     | some l=>cases hy;exact ⟨_,rfl,hs.ev hg 0 l⟩
    ·cases hi with
     | none=>cases hy
     | some l=>cases hy;exact ⟨_,rfl,hs.ev hg 0 l⟩
    ·cases lo with
     | none=>rfl
     | some l=>cases hy
    ·cases hi with
     | none=>rfl
     | some l=>cases hy
   have tr:(E9 P nb t (aV P A.aF ty sl x) (lo.map (aV P A.aF 0 sl)) (hi.map (aV P A.aF 0 sl))).run C hp=some (r,rd)→pV P ((execOp a.eval ⟨dst,.slice t x lo hi none,ty,pos,after,guard⟩).run P w) w I β hp B M w0 r:=by
    intro h
    refine .val (s:=Instr.sliceAt t (a.eval x) (lo.map a.eval) (hi.map a.eval) none) (by simp[execOp]) (abJ S (hs.ev hg ty x) (fun y hy=> ?_) (fun hy=> ?_) h)
    ·cases hi with
     | none=>cases hy
     | some l=>cases hy;exact ⟨_,rfl,hs.ev hg 0 l⟩
    ·cases lo with
     | none=>rfl
     | some l=>cases hy
   cases dst with
   | none=>exact plain h
   | some d=>
    simp only at h
    cases Rp:ky A.xj d with
    | true=>rw[Rp] at h;exact tr h
    | false=>rw[Rp] at h;exact plain h
 case extract x i=>
  have hx:=hs.ev hg ty x
  cases fw:aV P A.aF ty sl x<;>rw[fw] at h hx<;>simp only at h<;>first|(cases h;done)|skip
  exact .val (s:=Instr.extract (a.eval x) i) rfl (abC S hx h)
 case makeSlice t l c=>
  have hl:=hs.ev hg 0 l
  have hc:=hs.ev hg 0 c
  refine .val (s:=Instr.makeSlice t (a.eval l) (a.eval c)) rfl ?_
  cases hu:P.underlying t with
  | none=>rw[hu] at h;cases h
  | some d=>
   rw[hu] at h
   cases d<;>(try (cases h;done))
   cases K2:aV P A.aF 0 sl l<;>rw[K2] at h hl<;>(try (cases h;done))
   cases u3:aV P A.aF 0 sl c<;>rw[u3] at h hc<;>(try (cases h;done))
   rw[hl.dY,hc.dY]
   cases dst with
   | none=>exact QS S hu h
   | some d=>
    simp only at h
    cases hg:ky A.xj d with
    | true=>rw[hg] at h;exact abq S hu h
    | false=>rw[hg] at h;exact QS S hu h
 case call c=>
  obtain ⟨callee,args,argTypes⟩:=c
  cases callee with
  | invoke r m=>cases h
  | value f=>
   cases f with
   | func f=>cases K1
   | tmp f=>cases K1
   | _=>cases h
  | builtin b=>
   have one: ∀{x:Operand},args.toList=[x]→args= #[x]:=fun h=>by rw[←Array.toArray_toList (xs:=args),h]
   have rQ: ∀(s:Array TypeId→TypeId→Array Value→Sem Value),builtin b argTypes ty (args.map fun| .const _=>true|_=>false) (args.map a.eval)=(do Pure.pure (Next.value (←s argTypes ty (args.map a.eval))))→
     execOp a.eval ⟨dst,.call ⟨.builtin b,args,argTypes⟩,ty,pos,after,guard⟩=(do Pure.pure (Next.value (←s argTypes ty (args.map a.eval)))):=by
    intro s hb
    simp only[execOp,resolve,pure_bind,invoke]
    exact hb
   cases b<;>(try (cases h;done))
   case append=>
    simp only at h
    cases ha:args.toList with
    | nil=>rw[ha] at h;cases h
    | cons x l=>
     cases l with
     | nil=>rw[ha] at h;cases h
     | cons y l2=>
      cases l2 with
      | cons _ _=>rw[ha] at h;cases h
      | nil=>
       cases dr:argTypes.toList with
       | nil=>rw[ha,dr] at h;cases h
       | cons t l3=>
        cases l3 with
        | nil=>rw[ha,dr] at h;cases h
        | cons u l4=>
         cases l4 with
         | cons _ _=>rw[ha,dr] at h;cases h
         | nil=>
          rw[ha,dr] at h
          simp only at h
          have e1:args= #[x,y]:=by rw[←Array.toArray_toList (xs:=args),ha]
          have e2:argTypes= #[t,u]:=by rw[←Array.toArray_toList (xs:=argTypes),dr]
          cases hu:P.underlying t with
          | none=>rw[hu] at h;cases h
          | some d=>
           rw[hu] at h
           cases d<;>(try (cases h;done))
           cases hc:Nat.beq t u with
           | true=>
            rw[hc] at h
            rw[a9] at hc
            subst hc
            have:=abt (ty:=ty) S hu (hs.ev hg t x) (hs.ev hg t y) h
            refine .val (rQ Builtin.append_ rfl) ?_
            rw[e1,e2]
            simpa using this
           | false=>
            rw[hc] at h
            simp only[cond_false] at h
            have hy:=hs.ev hg u y
            cases o7:P.underlying u with
            | none=>rw[o7] at h;cases h
            | some du=>
             rw[o7] at h
             cases du<;>(try (cases h;done))
             cases tj:aV P A.aF u sl y<;>rw[tj] at h hy<;>(try (cases h;done))
             simp only at h
             obtain ⟨hb,h⟩:=aK h
             obtain ⟨s1,q1,q2⟩:=hy.mL
             subst q2
             have:=abZ (ty:=ty) S hu o7 (ab8 hb) (hs.ev hg t x) h
             refine .val (rQ Builtin.append_ rfl) ?_
             rw[e1,e2]
             simpa[q1] using this
   case len=>
    simp only at h
    cases ha:args.toList with
    | nil=>rw[ha] at h;cases h
    | cons x l=>
     cases l with
     | cons _ _=>rw[ha] at h;cases h
     | nil=>
      cases dr:argTypes.toList with
      | nil=>rw[ha,dr] at h;cases h
      | cons t l3=>
       cases l3 with
       | cons _ _=>rw[ha,dr] at h;cases h
       | nil=>
        rw[ha,dr] at h
        simp only at h
        have e1:args= #[x]:=by rw[←Array.toArray_toList (xs:=args),ha]
        have e2:argTypes= #[t]:=by rw[←Array.toArray_toList (xs:=argTypes),dr]
        have hx:=hs.ev hg ty x
        refine .val (rQ Builtin.len_ rfl) ?_
        rw[e1,e2]
        cases hu:P.underlying t with
        | none=>rw[hu] at h;cases h
        | some d=>
         rw[hu] at h
         cases d<;>(try (cases h;done))
         ·cases fw:aV P A.aF ty sl x<;>rw[fw] at h hx<;>(try (cases h;done))
          have:=Qj (t:=t) (ty:=ty) S hx (fun l hl=>hu) (fun hn=>absurd rfl (hn _)) h
          simpa using this
         ·have U:(∀l,aV P A.aF ty sl x≠ .str l)∧(E3 P (aV P A.aF ty sl x)).run C hp=some (r,rd):=by
           cases fw:aV P A.aF ty sl x<;>rw[fw] at h<;>first|(cases h;done)|exact ⟨fun l=>by simp,h⟩
          have:=Qj (t:=t) (ty:=ty) S hx (fun l hl=>absurd hl (U.1 l)) (fun _=>⟨_,hu⟩) U.2
          simpa using this
         ·have U:(E7 (aV P A.aF ty sl x)).run C hp=some (r,rd):=by
           cases fw:aV P A.aF ty sl x<;>rw[fw] at h<;>exact h
          have:=abS (t:=t) (ty:=ty) S hu hx U
          simpa using this
   case unsafeSliceData=>
    simp only at h
    cases ha:args.toList with
    | nil=>rw[ha] at h;cases h
    | cons x l=>
     cases l with
     | cons _ _=>rw[ha] at h;cases h
     | nil=>
      rw[ha] at h
      simp only at h
      have e1:args= #[x]:=by rw[←Array.toArray_toList (xs:=args),ha]
      have hx:=hs.ev hg ty x
      refine .val (rQ Builtin.unsafeSliceData_ rfl) ?_
      rw[e1]
      cases fw:aV P A.aF ty sl x<;>rw[fw] at h hx<;>simp only at h<;>first|(cases h;done)|skip
      rename_i e id
      obtain ⟨l2,h1⟩:=run_get h
      cases ab:hp id with
      | none=>rw[ab] at h1;cases h1
      | some blk=>
       rw[ab] at h1
       cases blk<;>simp only at h1<;>first|(cases h1;done)|skip
       rename_i e' es fz
       obtain ⟨U,h3⟩:=aK h1
       simp only[aO,a9,jP] at U
       obtain ⟨rfl,h4⟩:=U
       obtain rfl:=aU h3
       have:=ab9 (ts:=argTypes) (ty:=ty) S hx ab h4
       simpa using this
   case unsafeString=>
    simp only at h
    cases ha:args.toList with
    | nil=>rw[ha] at h;cases h
    | cons x l=>
     cases l with
     | nil=>rw[ha] at h;cases h
     | cons y l2=>
      cases l2 with
      | cons _ _=>rw[ha] at h;cases h
      | nil=>
       cases dr:argTypes.toList with
       | nil=>rw[ha,dr] at h;cases h
       | cons t l3=>
        cases l3 with
        | nil=>rw[ha,dr] at h;cases h
        | cons u l4=>
         cases l4 with
         | cons _ _=>rw[ha,dr] at h;cases h
         | nil=>
          rw[ha,dr] at h
          simp only at h
          have e1:args= #[x,y]:=by rw[←Array.toArray_toList (xs:=args),ha]
          have e2:argTypes= #[t,u]:=by rw[←Array.toArray_toList (xs:=argTypes),dr]
          have hx:=hs.ev hg ty x
          have hy:=hs.ev hg ty y
          cases hu:P.underlying t with
          | none=>rw[hu] at h;cases h
          | some d=>
           rw[hu] at h
           cases d<;>(try (cases h;done))
           rename_i e
           cases fw:aV P A.aF ty sl x<;>rw[fw] at h hx<;>(try (cases h;done))
           cases tj:aV P A.aF ty sl y<;>rw[tj] at h hy<;>(try (cases h;done))
           rename_i id i c k n
           cases k<;>(try (cases h;done))
           simp only at h
           obtain ⟨l2,h1⟩:=run_get h
           cases ab:hp id with
           | none=>rw[ab] at h1;cases h1
           | some blk=>
            rw[ab] at h1
            cases blk<;>simp only at h1<;>first|(cases h1;done)|skip
            rename_i e' es fz
            cases fz<;>simp only at h1<;>first|(cases h1;done)|skip
            obtain ⟨U,h3⟩:=aK h1
            simp only[aO,a9,ej,dX] at U
            obtain ⟨rfl,h4,rfl,rfl,h5,h6,h7,h8⟩:=U
            obtain rfl:=aU h3
            have:=aca (u:=u) (ty:=ty) S hu h4 hx ab h5 h6 h7 h8
            refine .val (rQ Builtin.unsafeString_ rfl) ?_
            rw[e1,e2]
            simpa[hy.dY] using this
   case copy=>
    simp only at h
    cases ha:args.toList with
    | nil=>rw[ha] at h;cases h
    | cons x l=>
     cases l with
     | nil=>rw[ha] at h;cases h
     | cons y l2=>
      cases l2 with
      | cons _ _=>rw[ha] at h;cases h
      | nil=>
       cases dr:argTypes.toList with
       | nil=>rw[ha,dr] at h;cases h
       | cons t l3=>
        cases l3 with
        | nil=>rw[ha,dr] at h;cases h
        | cons u l4=>
         cases l4 with
         | cons _ _=>rw[ha,dr] at h;cases h
         | nil=>
          rw[ha,dr] at h
          simp only at h
          have e1:args= #[x,y]:=by rw[←Array.toArray_toList (xs:=args),ha]
          have e2:argTypes= #[t,u]:=by rw[←Array.toArray_toList (xs:=argTypes),dr]
          cases hu:P.underlying t with
          | none=>rw[hu] at h;cases h
          | some d=>
           rw[hu] at h
           cases d<;>(try (cases h;done))
           have:=aby (u:=u) (ty:=ty) S hu (hs.ev hg t x) (hs.ev hg u y) h
           refine .val (rQ Builtin.copy_ rfl) ?_
           rw[e1,e2]
           simpa using this
   case clear=>
    simp only at h
    cases ha:args.toList with
    | nil=>rw[ha] at h;cases h
    | cons x l=>
     cases l with
     | cons _ _=>rw[ha] at h;cases h
     | nil=>
      cases dr:argTypes.toList with
      | nil=>rw[ha,dr] at h;cases h
      | cons t l3=>
       cases l3 with
       | cons _ _=>rw[ha,dr] at h;cases h
       | nil=>
        rw[ha,dr] at h
        simp only at h
        have e1:args= #[x]:=by rw[←Array.toArray_toList (xs:=args),ha]
        have e2:argTypes= #[t]:=by rw[←Array.toArray_toList (xs:=argTypes),dr]
        cases hu:P.underlying t with
        | none=>rw[hu] at h;cases h
        | some d=>
         rw[hu] at h
         cases d<;>(try (cases h;done))
         have:=abz (ty:=ty) S hu (hs.ev hg t x) h
         refine .val (rQ Builtin.clear_ rfl) ?_
         rw[e1,e2]
         simpa using this
   case max=>
    simp only at h
    cases ha:args.toList with
    | nil=>rw[ha] at h;cases h
    | cons x l=>
     rw[ha] at h
     simp only at h
     have:=KI S true (vs:=l.map a.eval) (xs:=l.map (aV P A.aF ty sl)) (hs.ev hg ty x) (by simp) (fun j u y hu hy=>by
      simp only[fU] at hu hy
      cases hl:l[j]? with
      | none=>rw[hl] at hu;cases hu
      | some z=>rw[hl] at hu hy;cases hu;cases hy;exact hs.ev hg ty z) h
     refine .val (rQ Builtin.max_ rfl) ?_
     simpa[Builtin.max_,ha] using this
   case min=>
    simp only at h
    cases ha:args.toList with
    | nil=>rw[ha] at h;cases h
    | cons x l=>
     rw[ha] at h
     simp only at h
     have:=KI S false (vs:=l.map a.eval) (xs:=l.map (aV P A.aF ty sl)) (hs.ev hg ty x) (by simp) (fun j u y hu hy=>by
      simp only[fU] at hu hy
      cases hl:l[j]? with
      | none=>rw[hl] at hu;cases hu
      | some z=>rw[hl] at hu hy;cases hu;cases hy;exact hs.ev hg ty z) h
     refine .val (rQ Builtin.min_ rfl) ?_
     simpa[Builtin.min_,ha] using this
end
section
variable {P:Program} {A:cK} {w w':World} {I I' I2:Nat→Prop} {μ β β':Nat→Option Nat} {hp hp':Nat→Option an} {C:ae} {B:Nat} {M:Nat→Prop} {w0:Start}
theorem xY: ∀{l m:List Nat},ez.oR l m=true→l=m
 | [],[],_=>rfl
 | [],_::_,h=>by cases h
 | _::_,[],h=>by cases h
 | a::l,b::m,h=>by
  simp only[ez.oR,aO,a9] at h
  rw[h.1,xY h.2]
@[simp] theorem Rq (n:Nat):ll (dF n)=n:=by simp[ll,dF,V.toInt]
theorem F8: ∀(path:List (Nat × Nat)) (rest:List V),AI (path.map (·.2)) ((path.map fun p=>dF p.1)++rest)=path
 | [],_=>rfl
 | p::l,rest=>by
  simp only[cr,List.cons_append,AI,V.nth,Rq,ek,dK,F8 l rest]
theorem F9 {l:LS} {x:V} {ds:List V} (h:ez l x=some ds):ds.length=l.size∧(l= .rb∨∀rest,iX l (ds++rest)=x):=by
 cases l with
 | rb=>simp only[ez,ed] at h;subst h;exact ⟨rfl,.inl rfl⟩
 | int k=>
  cases x<;>simp only[ez] at h<;>first|(cases h;done)|skip
  rename_i k' n
  by_cases hk:k=k'
  ·subst hk
   simp only[oM,cond_true,ed] at h
   subst h
   exact ⟨rfl,.inr fun _=>rfl⟩
  ·simp[hk] at h
 | bool=>
  cases x<;>simp only[ez] at h<;>first|(cases h;done)|skip
  cases h
  exact ⟨rfl,.inr fun _=>rfl⟩
 | str=>
  cases x<;>simp only[ez] at h<;>first|(cases h;done)|skip
  cases h
  exact ⟨rfl,.inr fun _=>rfl⟩
 | list e=>
  cases x<;>simp only[ez] at h<;>first|(cases h;done)|skip
  rename_i e' es
  cases hb:Nat.beq e e' with
  | false=>rw[hb] at h;cases h
  | true=>
   rw[hb] at h
   rw[a9] at hb
   subst hb
   cases h
   exact ⟨rfl,.inr fun _=>rfl⟩
 | whole e j=>
  cases x<;>simp only[ez] at h<;>first|(cases h;done)|skip
  rename_i e' id
  cases hb:(Nat.beq e e'&&Nat.beq j id) with
  | false=>rw[hb] at h;cases h
  | true=>
   rw[hb] at h
   simp only[aO,a9] at hb
   obtain ⟨rfl,rfl⟩:=hb
   cases h
   exact ⟨rfl,.inr fun _=>rfl⟩
 | sub e j=>
  cases x<;>simp only[ez] at h<;>first|(cases h;done)|skip
  rename_i e' id o n
  cases hb:(Nat.beq e e'&&Nat.beq j id) with
  | false=>rw[hb] at h;cases h
  | true=>
   rw[hb] at h
   simp only[aO,a9] at hb
   obtain ⟨rfl,rfl⟩:=hb
   cases h
   exact ⟨rfl,.inr fun _=>by simp[iX,V.nth]⟩
 | ptr j=>
  cases x<;>simp only[ez] at h<;>first|(cases h;done)|skip
  rename_i id i c
  cases hb:(Nat.beq j id) with
  | false=>rw[hb] at h;cases h
  | true=>
   rw[hb] at h
   rw[a9] at hb
   subst hb
   cases h
   exact ⟨rfl,.inr fun _=>by simp[iX,V.nth]⟩
 | aW j i c=>
  cases x<;>simp only[ez] at h<;>first|(cases h;done)|skip
  rename_i id i' c'
  cases hb:(Nat.beq j id&&(Nat.beq i i'&&Nat.beq c c')) with
  | false=>rw[hb] at h;cases h
  | true=>
   rw[hb] at h
   simp only[aO,a9] at hb
   obtain ⟨rfl,rfl,rfl⟩:=hb
   cases h
   exact ⟨rfl,.inr fun _=>rfl⟩
 | nilS e=>
  cases x<;>simp only[ez] at h<;>first|(cases h;done)|skip
  rename_i e'
  cases hb:Nat.beq e e' with
  | false=>rw[hb] at h;cases h
  | true=>
   rw[hb] at h
   rw[a9] at hb
   subst hb
   cases h
   exact ⟨rfl,.inr fun _=>rfl⟩
 | dB=>
  cases x<;>simp only[ez] at h<;>first|(cases h;done)|skip
  cases h
  exact ⟨rfl,.inr fun _=>rfl⟩
 | cE e j=>
  cases x<;>simp only[ez] at h<;>first|(cases h;done)|skip
  rename_i e' id
  cases hb:(Nat.beq e e'&&Nat.beq j id) with
  | false=>rw[hb] at h;cases h
  | true=>
   rw[hb] at h
   simp only[aO,a9] at hb
   obtain ⟨rfl,rfl⟩:=hb
   cases h
   exact ⟨rfl,.inr fun _=>rfl⟩
 | dE e=>
  cases x<;>simp only[ez] at h<;>first|(cases h;done)|skip
  rename_i e'
  cases hb:Nat.beq e e' with
  | false=>rw[hb] at h;cases h
  | true=>
   rw[hb] at h
   rw[a9] at hb
   subst hb
   cases h
   exact ⟨rfl,.inr fun _=>rfl⟩
 | EW k n=>
  cases x<;>simp only[ez] at h<;>first|(cases h;done)|skip
  rename_i k' m
  cases hb:(decide (k=k')&&decide (m=n)) with
  | false=>rw[hb] at h;cases h
  | true=>
   rw[hb] at h
   simp only[aO,dX] at hb
   obtain ⟨rfl,rfl⟩:=hb
   cases h
   exact ⟨rfl,.inr fun _=>rfl⟩
 | EX b=>
  cases x<;>simp only[ez] at h<;>first|(cases h;done)|skip
  rename_i c
  cases hb:decide (b=c) with
  | false=>rw[hb] at h;cases h
  | true=>
   rw[hb] at h
   obtain rfl:=iw hb
   cases h
   exact ⟨rfl,.inr fun _=>rfl⟩
 | row e j cs=>
  cases x<;>simp only[ez] at h<;>first|(cases h;done)|skip
  rename_i e' id ver path
  cases hb:(Nat.beq e e'&&(Nat.beq j id&&(Nat.beq ver 0&&ez.oR cs (path.map (·.2))))) with
  | false=>rw[hb] at h;cases h
  | true=>
   rw[hb] at h
   simp only[aO,a9] at hb
   obtain ⟨rfl,rfl,rfl,oZ⟩:=hb
   have:=xY oZ
   subst this
   cases h
   exact ⟨by simp[LS.size],.inr fun rest=>by simp only[iX,F8]⟩
 | cJ j cs c=>
  cases x<;>simp only[ez] at h<;>first|(cases h;done)|skip
  rename_i id ver path i c'
  cases hb:(Nat.beq j id&&(Nat.beq ver 0&&(Nat.beq c c'&&ez.oR cs (path.map (·.2))))) with
  | false=>rw[hb] at h;cases h
  | true=>
   rw[hb] at h
   simp only[aO,a9] at hb
   obtain ⟨rfl,rfl,rfl,oZ⟩:=hb
   have:=xY oZ
   subst this
   cases h
   exact ⟨by simp[LS.size],.inr fun rest=>by simp only[iX,List.cons_append,V.nth,Rq,ek,dK,F8]⟩
def LS.below (n:Nat) (x:V):Prop:= ∀id∈eB x,id<n
def Rr:V→Prop
 | .agg _=>False
 | .bn _=>False
 | .fn .. =>False
 | .pref .. =>False
 | _=>True
theorem vc {c:Bool} {a d:List V} (h:(bif c then some a else none)=some d):c=true:=by
 cases c with
 | true=>rfl
 | false=>cases h
theorem ace {l:LS} {x:V} {ds:List V} {n:Nat} (h:ez l x=some ds) (hl:l≠ .rb) (ay:l.ok n=true):Rr x∧LS.below n x:=by
 cases l<;>cases x<;>simp only[ez] at h<;>first|(cases h;done)|(exact absurd rfl hl)|skip
 all_goals refine ⟨trivial,fun id ab=> ?_⟩
 all_goals simp only[eB,ew,List.not_mem_nil] at ab
 all_goals subst ab
 all_goals simp only[LS.ok,jP] at ay
 all_goals
  have hb:=vc h
  simp only[aO,a9] at hb
  omega
theorem ao.acf {v:Value} {x:V} (h:ao P w I β hp v x) (hx:Rr x) (hs: ∀id∈eB x,hp' id=hp id∧β' id=β id):ao P w I β' hp' v x:=by
 have one: ∀{id},id∈eB x→hp' id=hp id∧β' id=β id:=fun h=>hs _ h
 cases h with
 | undef=>exact .undef
 | int=>exact .int
 | bool=>exact .bool
 | str h=>exact .str h
 | list h=>exact .list h
 | nilS=>exact .nilS
 | agg=>exact hx.elim
 | bn=>exact hx.elim
 | dB=>exact .dB
 | fn=>exact hx.elim
 | pref=>exact hx.elim
 | eo h=>exact .eo ((one (by simp[eB])).1.trans h)
 | gq h=>exact .gq ((one (by simp[eB])).1.trans h)
 | kE h=>exact .kE ((one (by simp[eB])).1.trans h)
 | dO h hb=>exact .dO ((one (by simp[eB])).1.trans h) ((one (by simp[eB])).2.trans hb)
 | whole h hb a b c=>exact .whole ((one (by simp[eB])).1.trans h) ((one (by simp[eB])).2.trans hb) a b c
 | eC h hb a b c=>exact .eC ((one (by simp[eB])).1.trans h) ((one (by simp[eB])).2.trans hb) a b c
 | ga h hb=>exact .ga ((one (by simp[eB])).1.trans h) ((one (by simp[eB])).2.trans hb)
 | sub h hb a b c=>exact .sub ((one (by simp[eB])).1.trans h) ((one (by simp[eB])).2.trans hb) a b c
 | ptr h hd hb=>exact .ptr ((one (by simp[eB])).1.trans h) hd ((one (by simp[eB])).2.trans hb)
 | jV h rM=>exact .jV ((one (by simp[eB])).1.trans h) rM
 | jW h rM=>exact .jW ((one (by simp[eB])).1.trans h) rM
 | row h hb a b c d=>exact .row ((one (by simp[eB])).1.trans h) ((one (by simp[eB])).2.trans hb) a b c d
 | cJ h hb a b c d e=>exact .cJ ((one (by simp[eB])).1.trans h) ((one (by simp[eB])).2.trans hb) a b c d e
 | dE=>exact .dE
 | iH h=>exact .iH ((one (by simp[eB])).1.trans h)
 | cE h hb=>exact .cE ((one (by simp[eB])).1.trans h) ((one (by simp[eB])).2.trans hb)
theorem nX {a b:List V} {n:Nat} (h:a.length=n):(a++b).drop n=b:=by subst h;simp
def Bo (n:Nat) (β:Nat→Option Nat) (hp:Nat→Option an) (β':Nat→Option Nat) (hp':Nat→Option an):Prop:= ∀id,id<n→hp' id=hp id∧β' id=β id
theorem Rs {l:LS} {x:V} {ds:List V} {n:Nat} {v:Value} (h:ez l x=some ds) (ay:l.ok n=true) (jk:Bo n β hp β' hp') (hv:ao P w I β hp v x) (rest:List V):
  ao P w I β' hp' v (iX l (ds++rest)):=by
 rcases (F9 h).2 with e|e
 ·subst e;exact .undef
 ·rw[e rest]
  by_cases hu:l= .rb
  ·subst hu
   have:x= .undef:=(e rest).symm
   subst this
   exact .undef
  ·obtain ⟨h1,U⟩:=ace h hu ay
   exact hv.acf h1 fun id ab=>jk id (U id ab)
theorem Bp {n:Nat} (jk:Bo n β hp β' hp'): ∀{ls:List LS} {xs:List V} {ds:List V},pQ ls xs=some ds→ls.all (LS.ok n)=true→
  ds.length=kB ls∧(∀rest,(iB ls (ds++rest)).length=xs.length)∧
  ∀(rest:List V) (j:Nat) (v:Value) (y:V),(∀x,xs[j]? =some x→ao P w I β hp v x)→(iB ls (ds++rest))[j]? =some y→ao P w I β' hp' v y
 | [],[],ds,h,_=>by cases h;exact ⟨rfl,fun _=>rfl,fun rest j v y _ hy=>by simp[iB] at hy⟩
 | [],_::_,ds,h,_=>by cases h
 | _::_,[],ds,h,_=>by cases h
 | l::ls,x::xs,ds,h,ay=>by
  simp only[pQ] at h
  obtain ⟨a,h1,h⟩:=bind_some h
  obtain ⟨b,U,h⟩:=bind_some h
  cases h
  simp only[List.all_cons,aO] at ay
  obtain ⟨i1,i2,i3⟩:=Bp jk U ay.2
  have cq:=(F9 h1).1
  have hd: ∀rest,(a++b++rest).drop l.size=b++rest:=fun rest=>by rw[cw];exact nX cq
  refine ⟨by simp only[cB,kB];omega,fun rest=>by simp only[iB,List.length_cons,hd,i2],fun rest j v y hv hy=> ?_⟩
  simp only[iB,hd] at hy
  cases j with
  | zero=>
   simp at hy
   subst hy
   exact Rs h1 ay.1 jk (hv x rfl) _
  | succ j=>exact i3 rest j v y (fun x hx=>hv x (by simpa using hx)) (by simpa using hy)
theorem K3: ∀{ls:List LS} {xs:List V} {ds:List V},pQ ls xs=some ds→ls.all LS.plain=true→ds.length=kB ls∧∀rest,iB ls (ds++rest)=xs
 | [],[],ds,h,_=>by cases h;exact ⟨rfl,fun _=>rfl⟩
 | [],_::_,ds,h,_=>by cases h
 | _::_,[],ds,h,_=>by cases h
 | l::ls,x::xs,ds,h,ay=>by
  simp only[pQ] at h
  obtain ⟨a,h1,h⟩:=bind_some h
  obtain ⟨b,U,h⟩:=bind_some h
  cases h
  simp only[List.all_cons,aO] at ay
  obtain ⟨i1,i2⟩:=K3 U ay.2
  obtain ⟨cq,hm⟩:=F9 h1
  refine ⟨by simp only[cB,kB];omega,fun rest=> ?_⟩
  simp only[iB]
  rw[show (a++b++rest).drop l.size=b++rest by rw[cw];exact nX cq,i2,cw]
  rcases hm with e|e
  ·subst e;cases ay.1
  ·rw[e]
theorem K4 {n:Nat} (jk:Bo n β hp β' hp') {s:VS} {x:V} {ds:List V} (h:pR s x=some ds) (ay:s.ok n=true):
  ds.length=s.size∧∀(rest:List V) (v:Value),ao P w I β hp v x→ao P w I β' hp' v (lp s (ds++rest)):=by
 cases s with
 | one l=>exact ⟨(F9 h).1,fun rest v hv=>Rs h ay jk hv rest⟩
 | agg ls=>
  cases x<;>simp only[pR] at h<;>first|(cases h;done)|skip
  rename_i xs
  obtain ⟨i1,i2,i3⟩:=Bp (P:=P) (w:=w) (I:=I) jk h ay
  refine ⟨i1,fun rest v hv=> ?_⟩
  obtain ⟨cs,rfl,e1,e2⟩:=hv.ly
  exact .agg (by rw[i2];exact e1) fun j v y hj hy=>i3 rest j v y (fun x hx=>e2 j v x hj hx) hy
 | bn ls=>
  cases x<;>simp only[pR] at h<;>first|(cases h;done)|skip
  rename_i xs
  obtain ⟨i1,i2,i3⟩:=Bp (P:=P) (w:=w) (I:=I) jk h ay
  refine ⟨i1,fun rest v hv=> ?_⟩
  obtain ⟨cs,rfl,e1,e2⟩:=hv.uS
  exact .bn (by rw[i2];exact e1) fun j v y hj hy=>i3 rest j v y (fun x hx=>e2 j v x hj hx) hy
 | fn f a b=>
  cases x<;>simp only[pR] at h<;>first|(cases h;done)|skip
  rename_i f' xs ys
  cases hb:Nat.beq f f' with
  | false=>rw[hb] at h;cases h
  | true=>
   rw[hb] at h
   rw[a9] at hb
   subst hb
   simp only[cond_true] at h
   obtain ⟨p,h1,h⟩:=bind_some h
   obtain ⟨q,U,h⟩:=bind_some h
   cases h
   simp only[VS.ok,aO] at ay
   obtain ⟨i1,i2,i3⟩:=Bp (P:=P) (w:=w) (I:=I) jk h1 ay.1
   obtain ⟨j1,j2,j3⟩:=Bp (P:=P) (w:=w) (I:=I) jk U ay.2
   refine ⟨by simp only[cB,VS.size];omega,fun rest v hv=> ?_⟩
   cases hv with
   | fn a1 a2 b1 b2=>
    simp only[lp]
    rw[show (p++q++rest).drop (kB a)=q++rest by rw[cw];exact nX i1,cw]
    exact .fn (by rw[i2];exact a1) (fun j v y hj hy=>i3 _ j v y (fun x hx=>a2 j v x hj hx) hy) (by rw[j2];exact b1) (fun j v y hj hy=>j3 _ j v y (fun x hx=>b2 j v x hj hx) hy)
 | pref ts ls=>
  cases x<;>simp only[pR] at h<;>first|(cases h;done)|skip
  rename_i xq xs
  cases hb:ez.oR ts xq with
  | false=>rw[hb] at h;cases h
  | true=>
   rw[hb] at h
   have:=xY hb
   subst this
   simp only[cond_true] at h
   refine ⟨?_,fun rest v hv=> ?_⟩
   ·exact (K3 h ay).1
   ·simp only[lp]
    rw[(K3 h ay).2]
    cases hv with
    | pref hl hI hc=>exact .pref hl hI hc
theorem Bq {n:Nat} (jk:Bo n β hp β' hp'): ∀{ls:List VS} {xs:List V} {ds:List V},qT ls xs=some ds→ls.all (VS.ok n)=true→
  ds.length=sY ls∧(∀rest,(fH ls (ds++rest)).length=xs.length)∧
  ∀(rest:List V) (j:Nat) (v:Value) (y:V),(∀x,xs[j]? =some x→ao P w I β hp v x)→(fH ls (ds++rest))[j]? =some y→ao P w I β' hp' v y
 | [],[],ds,h,_=>by cases h;exact ⟨rfl,fun _=>rfl,fun rest j v y _ hy=>by simp[fH] at hy⟩
 | [],_::_,ds,h,_=>by cases h
 | _::_,[],ds,h,_=>by cases h
 | l::ls,x::xs,ds,h,ay=>by
  simp only[qT] at h
  obtain ⟨a,h1,h⟩:=bind_some h
  obtain ⟨b,U,h⟩:=bind_some h
  cases h
  simp only[List.all_cons,aO] at ay
  obtain ⟨i1,i2,i3⟩:=Bq jk U ay.2
  obtain ⟨cq,xU⟩:=K4 (P:=P) (w:=w) (I:=I) jk h1 ay.1
  have hd: ∀rest,(a++b++rest).drop l.size=b++rest:=fun rest=>by rw[cw];exact nX cq
  refine ⟨by simp only[cB,sY];omega,fun rest=>by simp only[fH,List.length_cons,hd,i2],fun rest j v y hv hy=> ?_⟩
  simp only[fH,hd] at hy
  cases j with
  | zero=>
   simp at hy
   subst hy
   exact xU _ v (hv x rfl)
  | succ j=>exact i3 rest j v y (fun x hx=>hv x (by simpa using hx)) (by simpa using hy)
end
section
variable {P:Program} {A:cK} {w w':World} {I I' I2:Nat→Prop} {μ β β':Nat→Option Nat} {hp hp' hp0:Nat→Option an} {C:ae} {B:Nat} {M:Nat→Prop} {w0:Start}
theorem ig: ∀{l:List an} {j:Nat},jT l j=l[j]?
 | [],j=>by simp[jT]
 | b::l,0=>rfl
 | b::l,j+1=>by simp only[jT,ig,List.getElem?_cons_succ]
theorem K5 {sl:Nat→V} {k:Nat} {y:V}: ∀{l:List (Nat × VS)} {ds:List V},AG sl l=some ds→(∀p∈l,∀d,pR p.2 (sl p.1)=some d→d.length=p.2.size)→
  ds.length=oS l∧∀rest,dN (fq l (ds++rest)) k=some y→∃s d gy,(k,s)∈l∧pR s (sl k)=some d∧y=lp s (d++gy)
 | [],ds,h,_=>by cases h;exact ⟨rfl,fun rest h=>by cases h⟩
 | (q,s)::l,ds,h,hz=>by
  simp only[AG] at h
  obtain ⟨a,h1,h⟩:=bind_some h
  obtain ⟨b,U,h⟩:=bind_some h
  cases h
  obtain ⟨i1,i2⟩:=K5 (k:=k) (y:=y) U fun p hp=>hz p (lP _ hp)
  have cq:=hz (q,s) (sN ..) a h1
  refine ⟨by simp only[cB,oS];simp only at cq;omega,fun rest hl=> ?_⟩
  simp only[fq,dN] at hl
  rw[show (a++b++rest).drop s.size=b++rest by rw[cw];exact nX cq] at hl
  cases hb:Nat.beq k q with
  | true=>
   rw[hb] at hl
   rw[a9] at hb
   subst hb
   cases hl
   exact ⟨s,a,b++rest,sN ..,h1,by rw[cw]⟩
  | false=>
   rw[hb] at hl
   obtain ⟨s',d,gy,m1,m2,m3⟩:=i2 rest hl
   exact ⟨s',d,gy,lP _ m1,m2,m3⟩
theorem K6 {α:Type} {c:Bool} {x:Option α} {a:α} (h:(bif c then x else none)=some a):c=true∧x=some a:=by
 cases c with
 | true=>exact ⟨rfl,h⟩
 | false=>cases h
theorem acg {n:Nat} {b:BS} {o:Option an} {ds:List V} (h:ln b o=some ds) (ay:b.ok n=true):ds.length=b.size:=by
 cases b with
 | dead=>cases o<;>(cases h;rfl)
 | var T0 ls=>
  cases o with
  | none=>cases h
  | some blk=>
   cases blk<;>simp only[ln] at h<;>first|(cases h;done)|skip
   exact (Bq (P:=default) (w:=default) (I:=fun _=>False) (β:=fun _=>none) (hp:=fun _=>none) (fun _ _=>⟨rfl,rfl⟩) (K6 h).2 ay).1
 | arr e fz=>
  cases o with
  | none=>cases h
  | some blk=>
   cases blk<;>simp only[ln] at h<;>first|(cases h;done)|skip
   rw[vc h] at h
   cases h
   rfl
 | nest e=>
  cases o with
  | none=>cases h
  | some blk=>
   cases blk<;>simp only[ln] at h<;>first|(cases h;done)|skip
   rw[vc h] at h
   cases h
   rfl
 | map t=>
  cases o with
  | none=>cases h
  | some blk=>
   cases blk<;>simp only[ln] at h<;>first|(cases h;done)|skip
   rw[vc h] at h
   cases h
   rfl
theorem Ru {n:Nat}: ∀{l:List BS} {j:Nat} {ds:List V},AH hp j l=some ds→l.all (BS.ok n)=true→
  (∀rest,(eM l (ds++rest)).length=l.length)∧∀(rest:List V) (i:Nat) (blk:an),(eM l (ds++rest))[i]? =some blk→∃b d gy,l[i]? =some b∧b.ok n=true∧ln b (hp (j+i))=some d∧blk=fX b (d++gy)
 | [],j,ds,h,_=>by cases h;exact ⟨fun _=>rfl,fun rest i blk hb=>by simp[eM] at hb⟩
 | b::l,j,ds,h,ay=>by
  simp only[AH] at h
  obtain ⟨a,h1,h⟩:=bind_some h
  obtain ⟨c,U,h⟩:=bind_some h
  cases h
  simp only[List.all_cons,aO] at ay
  obtain ⟨i1,i2⟩:=Ru U ay.2
  have cq:=acg h1 ay.1
  have hd: ∀rest,(a++c++rest).drop b.size=c++rest:=fun rest=>by rw[cw];exact nX cq
  refine ⟨fun rest=>by simp only[eM,List.length_cons,hd,i1],fun rest i blk hb=> ?_⟩
  simp only[eM,hd] at hb
  cases i with
  | zero=>
   simp at hb
   exact ⟨b,a,c++rest,rfl,ay.1,h1,by rw[←hb]⟩
  | succ i=>
   obtain ⟨b',d,gy,m1,m2,m3,m4⟩:=i2 rest i blk (by simpa using hb)
   exact ⟨b',d,gy,by simpa using m1,m2,by rw[show j+(i+1)=j+1+i by omega];exact m3,m4⟩
theorem ach {n:Nat} {b:BS} {blk:an} {ds rest:List V} (h:ln b (some blk)=some ds) (ay:b.ok n=true):
  blk.le (fX b (ds++rest))∧(fX b (ds++rest)= .dead∨fX b (ds++rest)=blk∨∃T ls cs,b= .var T ls∧blk= .var T cs∧qT ls cs=some ds∧fX b (ds++rest)= .var T (fH ls (ds++rest))):=by
 cases b with
 | dead=>exact ⟨by cases blk<;>trivial,.inl rfl⟩
 | var T0 ls=>
  cases blk<;>simp only[ln] at h<;>first|(cases h;done)|skip
  obtain ⟨hT,h0⟩:=K6 h
  clear h
  rw[a9] at hT
  subst hT
  exact ⟨rfl,.inr (.inr ⟨_,_,_,rfl,rfl,h0,rfl⟩)⟩
 | arr e fz=>
  cases blk<;>simp only[ln] at h<;>first|(cases h;done)|skip
  rename_i e' es nF
  have hb:=vc h
  simp only[aO,a9,beq_iff_eq] at hb
  obtain ⟨rfl,rfl⟩:=hb
  simp only[jQ,beq_self_eq_true,Bool.and_self,cond_true,ed] at h
  subst h
  exact ⟨⟨rfl,rfl⟩,.inr (.inl rfl)⟩
 | nest e=>
  cases blk<;>simp only[ln] at h<;>first|(cases h;done)|skip
  rename_i e' es aq
  have hb:=vc h
  simp only[aO,a9] at hb
  obtain ⟨rfl,hv⟩:=hb
  have:=xY hv
  subst this
  simp only[jQ,km] at h
  cases h
  exact ⟨⟨rfl,rfl,rfl,fun _=>bV _⟩,.inr (.inl rfl)⟩
 | map t=>
  cases blk<;>simp only[ln] at h<;>first|(cases h;done)|skip
  rename_i t' es
  have hb:=vc h
  rw[a9] at hb
  subst hb
  simp only[jQ,cond_true,ed] at h
  subst h
  exact ⟨rfl,.inr (.inl rfl)⟩
theorem Rv {m:Nat} {S:Shape} {st:St} {ds:List V} (h:jU m S st=some ds):
  S.ok=true∧m≤S.ba.length∧∃a b,AG st.sl S.bR=some a∧AH st.hp 0 S.ba=some b∧ds=a++b:=by
 unfold jU at h
 cases hc:(S.ok&&Nat.ble m S.ba.length) with
 | false=>rw[hc] at h;cases h
 | true=>
  rw[hc] at h
  simp only[cond_true] at h
  simp only[aO,ej] at hc
  obtain ⟨a,h1,h⟩:=bind_some h
  obtain ⟨b,U,h⟩:=bind_some h
  cases h
  exact ⟨hc.1,hc.2,a,b,h1,U,rfl⟩
theorem reshape {m:Nat} {S:Shape} {st:St} {ds:List V} (h:jU m S st=some ds) (hS:aH P w I β st.hp B M w0):
  aH P w I β (bu S ds).hp B M w0∧(∀(k:Nat) (v:Value),ao P w I β st.hp v (st.sl k)→ao P w I β (bu S ds).hp v ((bu S ds).sl k))∧
  (∀(μ:Nat→Option Nat) (hp0:Nat→Option an),(∀id blk,hp0 id=some blk→id<m)→Le P w0.w w0.I μ hp0 w I β st.hp→Le P w0.w w0.I μ hp0 w I β (bu S ds).hp)∧
  ∀j blk',(bu S ds).hp j=some blk'→blk'≠ .dead→∃blk,st.hp j=some blk∧blk.le blk'∧∀o b,bC P w o blk' b→bC P w o blk b:=by
 obtain ⟨ay,hm,a,b,h1,U,rfl⟩:=Rv h
 unfold Shape.ok at ay
 rw[aO] at ay
 obtain ⟨Rw,KK⟩:=ay
 have bd: ∀p∈S.bR,∀d,pR p.2 (st.sl p.1)=some d→d.length=p.2.size:=fun p hp d hd=>
  (K4 (P:=P) (w:=w) (I:=I) (β:=β) (hp:=st.hp) (fun _ _=>⟨rfl,rfl⟩) hd (fm.1 Rw p hp)).1
 have cq:a.length=oS S.bR:=(K5 (k:=0) (y:= .undef) h1 bd).1
 have FZ:(bu S (a++b)).hp=jT (eM S.ba (b++[])):=by
  simp only[bu,mk,dy]
  rw[nX cq]
 obtain ⟨bl,bg⟩:=Ru U KK
 have get: ∀j blk',(bu S (a++b)).hp j=some blk'→j<S.ba.length∧∃bs d gy,bs.ok S.ba.length=true∧ln bs (st.hp j)=some d∧blk'=fX bs (d++gy):=by
  intro j blk' hj
  rw[FZ,ig] at hj
  obtain ⟨bs,d,gy,m1,m2,m3,m4⟩:=bg [] j blk' hj
  rw[gV] at m3
  exact ⟨(bw.1 m1).1,bs,d,gy,m2,m3,m4⟩
 have have': ∀j,j<S.ba.length→∃blk',(bu S (a++b)).hp j=some blk':=by
  intro j hj
  rw[FZ,ig]
  exact ⟨_,bH (by rw[bl];exact hj)⟩
 generalize g9:(bu S (a++b)).hp=vd at*
 let bx:Nat→Option an:=fun id=>if id<S.ba.length then vd id else st.hp id
 have back: ∀j blk',vd j=some blk'→blk'≠ .dead→∃blk,st.hp j=some blk∧blk.le blk'∧(blk'=blk∨∃T ls cs d gy,ls.all (VS.ok S.ba.length)=true∧blk= .var T cs∧qT ls cs=some d∧blk'= .var T (fH ls (d++gy))):=by
  intro j blk' hj hd
  obtain ⟨cp,bs,d,gy,m1,m2,m3⟩:=get j blk' hj
  cases bM:st.hp j with
  | none=>
   rw[bM] at m2
   cases bs<;>simp only[ln] at m2<;>first|(cases m2;done)|skip
   exact absurd m3 hd
  | some blk=>
   rw[bM] at m2
   obtain ⟨n1,n2⟩:=ach (rest:=gy) m2 m1
   rw[←m3] at n1 n2
   refine ⟨blk,rfl,n1,?_⟩
   rcases n2 with e|e|⟨T,ls,cs,e1,e2,e3,e4⟩
   ·exact absurd e hd
   ·exact .inl e
   ·subst e1
    exact .inr ⟨T,ls,cs,d,gy,m1,e2,e3,e4⟩
 have le1: ∀j blk,st.hp j=some blk→j<S.ba.length→∃blk',vd j=some blk'∧blk.le blk':=by
  intro j blk hj cp
  obtain ⟨blk',aB⟩:=have' j cp
  refine ⟨blk',aB,?_⟩
  by_cases hd:blk'= .dead
  ·subst hd;cases blk<;>trivial
  ·obtain ⟨ca,e1,e2,_⟩:=back j blk' aB hd
   rw[hj] at e1;cases e1
   exact e2
 have aci: ∀j e es aq e' aR vers',st.hp j=some (.nest e es aq)→vd j=some (.nest e' aR vers')→e'=e∧aR=es∧vers'=aq:=by
  intro j e es aq e' aR vers' hj gb
  obtain ⟨blk,e1,_,e3⟩:=back j _ gb (by simp)
  rw[hj] at e1;cases e1
  rcases e3 with e3|⟨_,_,_,_,_,_,e3,_⟩
  ·cases e3;exact ⟨rfl,rfl,rfl⟩
  ·cases e3
 have hle:Le P w I β st.hp w I β bx:=by
  refine ⟨fun _ h=>h,fun _ _=>rfl,fun id blk ab=> ?_,fun _ _ _ _ _ _ _ _=>rfl,Le.s7 (fun _ _ _ _ _ _=>rfl) fun id e es aq e' aR vers' ab bJ=> ?_⟩
  ·by_cases hl:id<S.ba.length
   ·obtain ⟨blk',e1,e2⟩:=le1 id blk ab hl
    exact ⟨blk',by simp only[bx,ag hl];exact e1,e2,fun _=>rfl⟩
   ·exact ⟨blk,by simp only[bx,ah hl];exact ab,an.le_refl _,fun _=>rfl⟩
  ·by_cases hl:id<S.ba.length
   ·simp only[bx,ag hl] at bJ
    exact aci _ _ _ _ _ _ _ ab bJ
   ·simp only[bx,ah hl] at bJ
    rw[ab] at bJ;cases bJ
    exact ⟨rfl,rfl,rfl⟩
 have jk:Bo S.ba.length β bx β vd:=fun id ab=>⟨by simp only[bx,ag ab],rfl⟩
 have xN: ∀j blk' blk o b,vd j=some blk'→st.hp j=some blk→bC P w o blk' b→bC P w o blk b:=by
  intro j blk' blk o b gb hj ho
  obtain ⟨ca,e1,_,e3⟩:=back j blk' gb ho.alive
  rw[hj] at e1;cases e1
  rcases e3 with e3|⟨T,ls,cs,d,gy,_,e3,_,e5⟩
  ·subst e3;exact ho
  ·subst e3;subst e5
   exact .root (by simp) (ho.flat (by simp))
 refine ⟨⟨⟨fun j blk' hj=> ?_,fun j1 j2 b1 b2 b' e1 e2 o1 o2=> ?_,fun j blk b' hj ho=> ?_,hS.h.jX⟩,hS.cm,hS.size,hS.new,hS.io⟩,fun k v hv=> ?_,fun μ hp0 aQ hE=> ?_,fun j blk' hj hd=> ?_⟩
 ·by_cases hd:blk'= .dead
  ·subst hd;exact .dead
  ·obtain ⟨blk,e1,_,e3⟩:=back j blk' hj hd
   have hr:=hS.h.rel j blk e1
   generalize β j=o at hr
   rcases e3 with e3|⟨T0,ls,cs,d,gy,q1,e3,e4,e5⟩
   ·subst e3
    cases hr with
    | @var xs b' Ca T hb hh hs cV hx gu=>
     obtain ⟨cp,bs,d,gy,m1,m2,m3⟩:=get j _ hj
     rw[e1] at m2
     cases bs<;>simp only[ln] at m2<;>first|(cases m2;done)|skip
     ·rename_i T0 ls
      simp only[fX] at m3
      obtain ⟨hT,m2⟩:=K6 m2
      obtain ⟨i1,i2,i3⟩:=Bq (P:=P) (w:=w) (I:=I) jk m2 m1
      injection m3 with m4 m3
      rw[m3]
      exact .var hb hh (by rw[i2];exact hs) cV (fun i v y hi hy=>i3 gy i v y (fun x cF=>(hx i v x hi cF).mono hle) hy) gu
     ·simp only[fX] at m3
      cases m3
    | dP hb=>exact .dP hb
    | arr a1 a2 a3 a4 a5 a6 a7=>exact .arr a1 a2 a3 a4 a5 a6 a7
    | dead=>exact absurd rfl hd
    | nest a1 a2 a3=>exact .nest a1 a2 a3
    | map a1 a2 a3 a4 a5 a6 a7=>exact .map a1 a2 a3 a4 a5 a6 a7
   ·subst e3
    subst e5
    cases hr with
    | @var xs b' Ca T hb hh hs cV hx gu=>
     obtain ⟨i1,i2,i3⟩:=Bq (P:=P) (w:=w) (I:=I) jk e4 q1
     exact .var hb hh (by rw[i2];exact hs) cV (fun i v y hi hy=>i3 gy i v y (fun x cF=>(hx i v x hi cF).mono hle) hy) gu
 ·obtain ⟨c1,x1,_,_⟩:=back j1 b1 e1 o1.alive
  obtain ⟨c2,x2,_,_⟩:=back j2 b2 e2 o2.alive
  exact hS.h.inj j1 j2 c1 c2 b' x1 x2 (xN _ _ _ _ _ e1 x1 o1) (xN _ _ _ _ _ e2 x2 o2)
 ·obtain ⟨c1,x1,_,_⟩:=back j blk hj ho.alive
  exact hS.h.own j c1 b' x1 (xN _ _ _ _ _ hj x1 ho)
 ·change ao P w I β vd v (jA (fq S.bR (a++b)) k)
  unfold jA
  cases K7:dN (fq S.bR (a++b)) k with
  | none=>exact .undef
  | some y=>
   obtain ⟨s,d,gy,n1,n2,n3⟩:=(K5 h1 bd).2 b K7
   simp only[Option.getD_some,n3]
   exact (K4 (P:=P) (w:=w) (I:=I) jk n2 (fm.1 Rw _ n1)).2 gy v (hv.mono hle)
 ·have h3:=hE.trans hle
  refine ⟨h3.dq,h3.cm,fun id blk ab=> ?_,fun id blk blk' b' ab bJ hd hb=> ?_,fun id e es aq e' aR vers' b2 q i c t v e1 l ab bJ=> ?_⟩
  ·have hl:=aQ id blk ab
   obtain ⟨blk',k1,k2,k3⟩:=h3.blk id blk ab
   simp only[bx,ag (show id<S.ba.length by omega)] at k1
   exact ⟨blk',k1,k2,k3⟩
  ·have hl:=aQ id blk ab
   exact h3.size id blk blk' b' ab (by simp only[bx,ag (show id<S.ba.length by omega)];exact bJ) hd hb
  ·have hl:=aQ id _ ab
   exact h3.row id e es aq e' aR vers' b2 q i c t v e1 l ab (by simp only[bx,ag (show id<S.ba.length by omega)];exact bJ)
 ·obtain ⟨blk,e1,e2,_⟩:=back j blk' hj hd
  exact ⟨blk,e1,e2,fun o b' ho=>xN _ _ _ _ _ hj e1 ho⟩
end
section
variable {P:Program} {A:cK} {w w':World} {I I' I2:Nat→Prop} {μ β β':Nat→Option Nat} {hp hp' hp0:Nat→Option an} {C:ae} {B:Nat} {M:Nat→Prop} {w0:Start}
inductive eg (P:Program) (w:World) (β:Nat→Option Nat) (hp:Nat→Option an):Place→Option Nat→an→Prop
 | var {id:Nat} {T:TypeId} {cs K8:List V}:hp id=some (.var T cs)→eg P w β hp (.blk id) (β id) (.var T K8)
 | arr {id:Nat} {e:TypeId} {es:List V}:hp id=some (.arr e es false)→eg P w β hp (.blk id) (β id) (.arr e es false)
 | nest {id:Nat} {e:TypeId} {es:List V} {aq:List Nat}:hp id=some (.nest e es aq)→eg P w β hp (.blk id) (β id) (.nest e es [0,0,0])
 | row {id ver b b':Nat} {path:Path} {e0 e':TypeId} {es l:List V} {aq:List Nat}:hp id=some (.nest e0 es aq)→β id=some b→At P w b e0 es path b' e' l→AF P e'=true→
   0<path.length→path.length≤aq.length→bI aq (path.length-1)=ver→0<l.length→eg P w β hp (.row id ver path) (some b') (.arr e' l false)
 | map {id:Nat} {t:TypeId} {es:List V}:hp id=some (.map t es)→eg P w β hp (.blk id) (β id) (.map t es)
def Br (P:Program) (w:World) (β:Nat→Option Nat) (hp:Nat→Option an) (ρ:List Place) (μ:Nat→Option Nat) (hp0:Nat→Option an):Prop:=
 ∀j p,en ρ j=some p→∃blk,hp0 j=some blk∧eg P w β hp p (μ j) blk
theorem o8: ∀{l m:List Place} {j:Nat} {p:Place},en l j=some p→en (l++m) j=some p
 | [],m,j,p,h=>by cases h
 | a::l,m,0,p,h=>h
 | a::l,m,j+1,p,h=>o8 (l:=l) h
theorem mc: ∀{l:List Place} {j:Nat},en l j=l[j]?
 | [],j=>by simp[en]
 | a::l,0=>rfl
 | a::l,j+1=>by simp only[en,mc,List.getElem?_cons_succ]
structure Ext (P:Program) (w:World) (I:Nat→Prop) (β:Nat→Option Nat) (hp:Nat→Option an) (h h':Hand) (d:List V) (u:List (Nat × an)):Prop where
 ds:h'.ds=h.ds++d
 upd:h'.upd=h.upd++u
 Ga: ∀q∈u,AY hp q
 pl: ∃m,h'.pl=h.pl++m
 nodup:(h.pl.map Place.id).Nodup→(h'.pl.map Place.id).Nodup
theorem Ext.refl (h:Hand):Ext P w I β hp h h [] []:=⟨by simp,by simp,by simp,⟨[],by simp⟩,id⟩
theorem Ext.trans {h1 U h3:Hand} {d1 d2:List V} {u1 u2:List (Nat × an)} (a:Ext P w I β hp h1 U d1 u1) (b:Ext P w I β hp U h3 d2 u2):Ext P w I β hp h1 h3 (d1++d2) (u1++u2):=by
 obtain ⟨m1,e1⟩:=a.pl
 obtain ⟨m2,e2⟩:=b.pl
 exact ⟨by rw[b.ds,a.ds,cw],by rw[b.upd,a.upd,cw],fun q hq=>(eJ.1 hq).elim (a.Ga q) (b.Ga q),⟨m1++m2,by rw[e2,e1,cw]⟩,fun h=>b.nodup (a.nodup h)⟩
theorem Ext.look {h h':Hand} {d:List V} {u:List (Nat × an)} (a:Ext P w I β hp h h' d u) {j:Nat} {p:Place} (hj:en h.pl j=some p):en h'.pl j=some p:=by
 obtain ⟨m,e⟩:=a.pl
 rw[e]
 exact o8 hj
theorem Ext.leaf (h:Hand) (x:V):Ext P w I β hp h {h with ds:=h.ds++[x]} [x] []:=⟨rfl,by simp,by simp,⟨[],by simp⟩,id⟩
theorem acj {α:Type} {ρ:List Place} {j:Nat} {p:Place} {k:List Place→Rd α} {r:α} {rd:List Nat} (h:(unify ρ j p k).run C hp=some (r,rd)) (hb: ∃id,p= .blk id∨∃ver path,p= .row id ver path):
  ∃j6,(k j6).run C hp=some (r,rd)∧(∃m,j6=ρ++m)∧en j6 j=some p∧((ρ.map Place.id).Nodup→(j6.map Place.id).Nodup):=by
 unfold unify at h
 cases hc:Nat.blt j ρ.length with
 | true=>
  rw[hc] at h
  obtain ⟨h1,U⟩:=aK h
  refine ⟨ρ,U,⟨[],by simp⟩,?_,id⟩
  unfold P6 at h1
  split at h1
  ·rename_i a b he
   rw[a9] at h1
   subst h1
   exact he
  ·cases h1
 | false=>
  rw[hc] at h
  obtain ⟨h1,U⟩:=aK h
  simp only[aO,a9,lQ] at h1
  obtain ⟨rfl,h3⟩:=h1
  refine ⟨ρ++[p],U,⟨[p],rfl⟩,?_,fun hn=> ?_⟩
  ·rw[mc];simp
  ·rw[gn,EO]
   refine ⟨hn,by simp,fun a ha b hb=> ?_⟩
   simp only[cr,fp,ew] at hb
   subst hb
   intro e
   subst e
   rw[xK ha] at h3
   cases h3
theorem ve {α:Type} {h:Hand} {j:Nat} {p:Place} {k:List Place→Rd α} {r:α} {rd:List Nat} (hr:(unify h.pl j p k).run C hp=some (r,rd)) (ds:List V):
  ∃j6,(k j6).run C hp=some (r,rd)∧en j6 j=some p∧Ext P w I β hp h {h with pl:=j6,ds:=h.ds++ds} ds []:=by
 obtain ⟨j6,a,b,c,d⟩:=acj hr (by cases p with|blk id=>exact ⟨id,.inl rfl⟩|row id ver path=>exact ⟨id,.inr ⟨ver,path,rfl⟩⟩)
 exact ⟨j6,a,c,⟨rfl,by simp,by simp,b,d⟩⟩
theorem ack {o:Option Nat} {blk:an} {e:TypeId} {id j:Nat} {v:Value} (hv:ao P w I β hp v (.whole e id)) (hl:eg P w β hp (.blk id) o blk) (hj:hp0 j=some blk) (j7:μ j=o):ao P w I' μ hp0 v (.whole e j):=by
 cases hl with
 | var h=>
  cases hv with
  | eo U=>rw[h] at U;cases U
  | dO U=>rw[h] at U;cases U
  | whole U=>rw[h] at U;cases U
  | eC U=>rw[h] at U;cases U
 | arr h=>
  cases hv with
  | eo U=>rw[h] at U;cases U
  | dO U hb=>rw[h] at U;cases U;exact .dO hj (j7.trans hb)
  | whole U hb a b c=>rw[h] at U;cases U;exact .whole hj (j7.trans hb) a b c
  | eC U=>rw[h] at U;cases U
 | nest h=>
  cases hv with
  | eo U=>rw[h] at U;cases U
  | dO U=>rw[h] at U;cases U
  | whole U=>rw[h] at U;cases U
  | eC U hb a b c=>rw[h] at U;cases U;exact .eC hj (j7.trans hb) a b c
 | map h=>
  cases hv with
  | eo U=>rw[h] at U;cases U
  | dO U=>rw[h] at U;cases U
  | whole U=>rw[h] at U;cases U
  | eC U=>rw[h] at U;cases U
theorem acm {o:Option Nat} {blk:an} {t:TypeId} {id j:Nat} {v:Value} (hv:ao P w I β hp v (.cE t id)) (hl:eg P w β hp (.blk id) o blk) (hj:hp0 j=some blk) (j7:μ j=o):ao P w I' μ hp0 v (.cE t j):=by
 cases hv with
 | iH U=>cases hl<;>(rename_i h;rw[h] at U;cases U)
 | cE U hb=>
  cases hl<;>(rename_i h;rw[h] at U;cases U)
  exact .cE hj (j7.trans hb)
theorem acn {o:Option Nat} {blk:an} {e:TypeId} {id off n j:Nat} {v:Value} (hv:ao P w I β hp v (.sub e id off n)) (hl:eg P w β hp (.blk id) o blk) (hj:hp0 j=some blk) (j7:μ j=o):ao P w I' μ hp0 v (.sub e j off n):=by
 cases hl with
 | var h=>
  cases hv with
  | gq U=>rw[h] at U;cases U
  | ga U=>rw[h] at U;cases U
  | sub U=>rw[h] at U;cases U
 | arr h=>
  cases hv with
  | gq U=>rw[h] at U;cases U
  | ga U hb=>rw[h] at U;cases U;exact .ga hj (j7.trans hb)
  | sub U hb a b c=>rw[h] at U;cases U;exact .sub hj (j7.trans hb) a b c
 | nest h=>
  cases hv with
  | gq U=>rw[h] at U;cases U
  | ga U=>rw[h] at U;cases U
  | sub U=>rw[h] at U;cases U
 | map h=>
  cases hv with
  | gq U=>rw[h] at U;cases U
  | ga U=>rw[h] at U;cases U
  | sub U=>rw[h] at U;cases U
theorem Rx {o:Option Nat} {blk:an} {id i c j:Nat} {v:Value} (hv:ao P w I β hp v (.ptr id i c)) (hl:eg P w β hp (.blk id) o blk) (hj:hp0 j=some blk) (j7:μ j=o):ao P w I' μ hp0 v (.ptr j i c):=by
 cases hl with
 | @var _ T0 cs K8 h=>
  obtain ⟨b,hb,rfl⟩:=hv.hX h (by simp)
  exact ao.ptr (blk:= .var T0 K8) hj (by simp) (j7.trans hb)
 | @arr _ e es h=>
  obtain ⟨b,hb,rfl⟩:=hv.hX h (by simp)
  exact ao.ptr (blk:= .arr e es false) hj (by simp) (j7.trans hb)
 | @nest _ e es aq h=>
  obtain ⟨b,hb,rfl⟩:=hv.hX h (by simp)
  exact ao.ptr (blk:= .nest e es [0,0,0]) hj (by simp) (j7.trans hb)
 | @map _ t es h=>
  obtain ⟨b,hb,rfl⟩:=hv.hX h (by simp)
  exact ao.ptr (blk:= .map t es) hj (by simp) (j7.trans hb)
theorem aco (cL: ∀id blk,hp id=some blk→ee P w I β hp (β id) blk) {id b i c:Nat} {e0 t:TypeId} {es l:List V} {aq:List Nat} {q:Path} {e:TypeId} {v:Value} (ab:hp id=some (.nest e0 es aq)) (hb:β id=some b)
  (ht:P.underlying t=some (.slice e)) (hc:mJ P w b e0 es q i c t v (.list e l)) (hl:0<l.length): ∃b1 cap,v= .slice (some ⟨b1,0,none⟩) l.length cap∧cap*P.cellsOf e=bsize w b1∧l.length≤cap∧cap≤maxLen∧At P w b e0 es (q++[(i,c)]) b1 e l:=by
 obtain ⟨b2,e1,m,Ca,T,f,x,n1,n2,n3,n4,n5,n6⟩:=hc
 have hr:=cL _ _ ab
 cases hr with
 | nest aB hr hn=>
  rw[hb] at aB;cases aB
  have hR:=hr _ _ _ _ n1
  obtain ⟨A1,c1,c2,c3⟩:=hR.cells
  rw[n2] at c1
  cases c1
  have uR:c<P.cellsOf e1:=by rw[←fL hR.ok];exact (bw.1 n4).1
  obtain ⟨v',d1,d2⟩:=c3 i c x t n3 n4 uR
  rw[n6] at d1
  cases d1
  rw[n5] at d2
  generalize hy:V.list e l=y at d2
  cases d2 with
  | fZ a p=>unfold fW at a;rw[ht] at a;cases a
  | emp hu ha=>cases hy;simp at hl
  | row hu jZ bd ch nO=>
   cases hy
   exact ⟨_,_,rfl,bd,ch,nO,n1.snoc n2 n3 n4 ht n5 jZ n6⟩
theorem acp (S:aH P w I β hp B M w0) {o:Option Nat} {blk:an} {e:TypeId} {id ver j:Nat} {path:Path} {v:Value} (hv:ao P w I β hp v (.row e id ver path)) (hl:eg P w β hp (.row id ver path) o blk) (hj:hp0 j=some blk) (j7:μ j=o):ao P w I' μ hp0 v (.whole e j):=by
 cases hl with
 | row h hb ha hf h1 U h3 h4=>
  obtain ⟨b2,q,i,c,t,l2,rfl,jf,ht,hc⟩:=hv.Qe h h1 U h3
  rw[hb] at jf;cases jf
  obtain ⟨p1,p2⟩:=J7 ha
  have jb:=hc
  obtain ⟨b3,e3,m3,Ca,T,f,x,n1,n2,n3,n4,n5,n6⟩:=jb
  obtain ⟨q1,q2⟩:=Fs n1 n3 n4 ht n5
  rw[p1] at q1
  rw[p2] at q2
  cases q1
  cases q2
  obtain ⟨b1,cap,rfl,m1,m2,m4,m5⟩:=aco S.h.rel h hb ht hc h4
  have:=acq ha m5
  subst this
  exact .whole hj j7 m1 m2 m4
where
 acq {b b1 b2:Nat} {e e1 e2:TypeId} {es l l2:List V} {q:Path} (h:At P w b e es q b1 e1 l) (U:At P w b e es q b2 e2 l2):b2=b1:=(h.fun U).1
theorem Ry (S:aH P w I β hp B M w0) {α:Type} {l:LS} {x:V} {h:Hand} {k:Hand→Rd α} {r:α} {rd:List Nat} {v:Value} (hr:(Fc P l x h k).run C hp=some (r,rd)) (hv:ao P w I β hp v x):
  ∃h' fa d u,(k h').run C hp=some (r,fa)∧Ext P w I β hp h h' d u∧d.length=l.size∧
   ∀(I':Nat→Prop) (μ:Nat→Option Nat) (hp0:Nat→Option an),(∀b,I b→I' b)→(∀q∈u,∀b,s8 P w β hp q.1 b→I' b)→∀ρ m,ρ=h'.pl++m→Br P w β hp ρ μ hp0→∀rest,ao P w I' μ hp0 v (iX l (d++rest)):=by
 have plain: ∀{x':V} {jG:List Nat},(k {h with ds:=h.ds++[x']}).run C hp=some (r,jG)→l.size=1→(∀I' μ hp0 rest,ao P w I' μ hp0 v (iX l ([x']++rest)))→∃h' fa d u,(k h').run C hp=some (r,fa)∧Ext P w I β hp h h' d u∧d.length=l.size∧
   ∀(I':Nat→Prop) (μ:Nat→Option Nat) (hp0:Nat→Option an),(∀b,I b→I' b)→(∀q∈u,∀b,s8 P w β hp q.1 b→I' b)→∀ρ m,ρ=h'.pl++m→Br P w β hp ρ μ hp0→∀rest,ao P w I' μ hp0 v (iX l (d++rest)):=
  fun hk hs hx=>⟨_,_,_,_,hk,Ext.leaf h _,hs.symm,fun I' μ hp0 _ _ _ _ _ _ rest=>hx I' μ hp0 rest⟩
 have nT: ∀{jG:List Nat},(k h).run C hp=some (r,jG)→l.size=0→(∀I' μ hp0 rest,ao P w I' μ hp0 v (iX l rest))→∃h' fa d u,(k h').run C hp=some (r,fa)∧Ext P w I β hp h h' d u∧d.length=l.size∧
   ∀(I':Nat→Prop) (μ:Nat→Option Nat) (hp0:Nat→Option an),(∀b,I b→I' b)→(∀q∈u,∀b,s8 P w β hp q.1 b→I' b)→∀ρ m,ρ=h'.pl++m→Br P w β hp ρ μ hp0→∀rest,ao P w I' μ hp0 v (iX l (d++rest)):=
  fun hk hs hx=>⟨_,_,_,_,hk,Ext.refl h,by simp[hs],fun I' μ hp0 _ _ _ _ _ _ rest=>hx I' μ hp0 rest⟩
 unfold Fc at hr
 cases l with
 | rb=>exact nT hr rfl fun _ _ _ _=> .undef
 | int kd=>
  cases x<;>simp only at hr<;>first|(cases hr;done)|skip
  obtain ⟨h1,U⟩:=aK hr
  simp only[dX] at h1
  subst h1
  obtain rfl:=hv.dY
  exact plain U rfl fun _ _ _ _=> .int
 | bool=>
  cases x<;>simp only at hr<;>first|(cases hr;done)|skip
  obtain rfl:=hv.kH
  exact plain hr rfl fun _ _ _ _=> .bool
 | str=>
  cases x<;>simp only at hr<;>first|(cases hr;done)|skip
  obtain ⟨s,rfl,hl⟩:=hv.mL
  exact plain hr rfl fun _ _ _ _=> .str hl
 | nilS e=>
  cases x<;>simp only at hr<;>first|(cases hr;done)|skip
  obtain ⟨h1,U⟩:=aK hr
  cases hv with
  | nilS=>exact nT U rfl fun _ _ _ _=> .nilS
 | dB=>
  cases x<;>simp only at hr<;>first|(cases hr;done)|skip
  cases hv with
  | dB=>exact nT hr rfl fun _ _ _ _=> .dB
 | row e j cs=>
  cases x<;>simp only at hr<;>first|(cases hr;done)|skip
  rename_i e' id ver path
  obtain ⟨e0,es,aq,l0,ab,p1,p2,p3,hr⟩:=oX hr
  obtain ⟨h1,U⟩:=aK hr
  simp only[aO,a9,ej] at h1
  obtain ⟨rfl,oZ,hp3⟩:=h1
  have:=xY oZ
  subst this
  obtain ⟨j6,a,b,c⟩:=ve (P:=P) (w:=w) (I:=I) (β:=β) U (path.map fun p=>dF p.1)
  refine ⟨_,_,path.map fun p=>dF p.1,[],a,c,by simp[LS.size],fun I' μ hp0 i1 i2 ρ m dC dg rest=> ?_⟩
  obtain ⟨blk,k1,k2⟩:=dg j _ (by rw[dC];exact o8 b)
  obtain ⟨bb,q,i,cc,t,l,rfl,hb,ht,hc⟩:=hv.Qe ab p1 p2 p3
  have rC:blk= .nest e0 es [0,0,0]∧μ j=β id:=by
   generalize μ j=o at k2
   cases k2 with
   | var h=>rw[ab] at h;cases h
   | arr h=>rw[ab] at h;cases h
   | map h=>rw[ab] at h;cases h
   | nest h=>rw[ab] at h;cases h;exact ⟨rfl,rfl⟩
  obtain ⟨rfl,j7⟩:=rC
  simp only[iX,F8]
  have hq:q.length<3:=by rw[cB,List.length_singleton] at hp3;omega
  refine .row k1 (j7.trans hb) (by simpa using hq) ?_ ht hc
  match q.length,hq with
  | 0,_=>rfl
  | 1,_=>rfl
  | 2,_=>rfl
 | cJ j cs c=>cases hr
 | EW k n=>cases hr
 | EX b=>cases hr
 | dE t=>
  cases x<;>simp only at hr<;>first|(cases hr;done)|skip
  obtain ⟨h1,U⟩:=aK hr
  cases hv with
  | dE=>exact nT U rfl fun _ _ _ _=> .dE
 | cE t j=>
  cases x<;>simp only at hr<;>first|(cases hr;done)|skip
  rename_i t' id
  obtain ⟨h1,U⟩:=aK hr
  rw[a9] at h1
  subst h1
  obtain ⟨j6,a,b,c⟩:=ve (P:=P) (w:=w) (I:=I) (β:=β) U []
  refine ⟨_,_,[],[],a,by simpa using c,rfl,fun I' μ hp0 i1 i2 ρ m dC dg rest=> ?_⟩
  obtain ⟨blk,k1,k2⟩:=dg j _ (by rw[dC];exact o8 b)
  exact acm hv k2 k1 rfl
 | list e=>
  obtain ⟨⟨y,u⟩,l1,l2,h1,U⟩:=lu hr
  cases y<;>simp only at U<;>first|(cases U;done)|skip
  rename_i e' es
  obtain ⟨h3,h4⟩:=aK U
  rw[a9] at h3
  subst h3
  obtain ⟨p1,p2⟩:=Ft S.h.rel h1 hv
  exact ⟨_,_,[.list e es],u,h4,⟨rfl,rfl,p1,⟨[],by simp⟩,id⟩,rfl,fun I' μ hp0 i1 i2 _ _ _ _ rest=> .list (p2 I' i1 i2)⟩
 | whole e j=>
  cases x<;>simp only at hr<;>first|(cases hr;done)|skip
  ·rename_i e' id
   obtain ⟨h1,U⟩:=aK hr
   rw[a9] at h1
   subst h1
   obtain ⟨j6,a,b,c⟩:=ve (P:=P) (w:=w) (I:=I) (β:=β) U []
   refine ⟨_,_,[],[],a,by simpa using c,rfl,fun I' μ hp0 i1 i2 ρ m dC dg rest=> ?_⟩
   obtain ⟨blk,k1,k2⟩:=dg j _ (by rw[dC];exact o8 b)
   exact ack hv k2 k1 rfl
  ·rename_i e' id ver path
   obtain ⟨h1,U⟩:=aK hr
   rw[a9] at h1
   subst h1
   obtain ⟨j6,a,b,c⟩:=ve (P:=P) (w:=w) (I:=I) (β:=β) U []
   refine ⟨_,_,[],[],a,by simpa using c,rfl,fun I' μ hp0 i1 i2 ρ m dC dg rest=> ?_⟩
   obtain ⟨blk,k1,k2⟩:=dg j _ (by rw[dC];exact o8 b)
   exact acp S hv k2 k1 rfl
 | sub e j=>
  cases x<;>simp only at hr<;>first|(cases hr;done)|skip
  rename_i e' id o n
  obtain ⟨h1,U⟩:=aK hr
  rw[a9] at h1
  subst h1
  obtain ⟨j6,a,b,c⟩:=ve (P:=P) (w:=w) (I:=I) (β:=β) U [dF o,dF n]
  refine ⟨_,_,[dF o,dF n],[],a,c,rfl,fun I' μ hp0 i1 i2 ρ m dC dg rest=> ?_⟩
  obtain ⟨blk,k1,k2⟩:=dg j _ (by rw[dC];exact o8 b)
  simpa[iX,V.nth] using acn (I':=I') hv k2 k1 rfl
 | ptr j=>
  cases x<;>simp only at hr<;>first|(cases hr;done)|skip
  rename_i id i c
  obtain ⟨j6,a,b,c'⟩:=ve (P:=P) (w:=w) (I:=I) (β:=β) hr [dF i,dF c]
  refine ⟨_,_,[dF i,dF c],[],a,c',rfl,fun I' μ hp0 i1 i2 ρ m dC dg rest=> ?_⟩
  obtain ⟨blk,k1,k2⟩:=dg j _ (by rw[dC];exact o8 b)
  simpa[iX,V.nth] using Rx (I':=I') hv k2 k1 rfl
 | aW j i c=>
  cases x<;>simp only at hr<;>first|(cases hr;done)|skip
  rename_i id i' c'
  obtain ⟨h1,U⟩:=aK hr
  simp only[aO,a9] at h1
  obtain ⟨rfl,rfl⟩:=h1
  obtain ⟨j6,a,b,c'⟩:=ve (P:=P) (w:=w) (I:=I) (β:=β) U []
  refine ⟨_,_,[],[],a,by simpa using c',rfl,fun I' μ hp0 i1 i2 ρ m dC dg rest=> ?_⟩
  obtain ⟨blk,k1,k2⟩:=dg j _ (by rw[dC];exact o8 b)
  exact Rx hv k2 k1 rfl
end
section
variable {P:Program} {A:cK} {w w':World} {I I' I2:Nat→Prop} {μ β β':Nat→Option Nat} {hp hp' hp0:Nat→Option an} {C:ae} {B:Nat} {M:Nat→Prop} {w0:Start}
def mT (P:Program) (w:World) (I:Nat→Prop) (β:Nat→Option Nat) (hp:Nat→Option an) (h':Hand) (u:List (Nat × an)) (K:(Nat→Prop)→(Nat→Option Nat)→(Nat→Option an)→Prop):Prop:=
 ∀(I':Nat→Prop) (μ:Nat→Option Nat) (hp0:Nat→Option an),(∀b,I b→I' b)→(∀q∈u,∀b,s8 P w β hp q.1 b→I' b)→∀ρ m,ρ=h'.pl++m→Br P w β hp ρ μ hp0→K I' μ hp0
theorem mT.later {h h':Hand} {d:List V} {u u':List (Nat × an)} {K:(Nat→Prop)→(Nat→Option Nat)→(Nat→Option an)→Prop} (t:mT P w I β hp h u K) (e:Ext P w I β hp h h' d u'):mT P w I β hp h' (u++u') K:=by
 obtain ⟨m1,e1⟩:=e.pl
 exact fun I' μ hp0 i1 i2 ρ m dC dg=>t I' μ hp0 i1 (fun q hq=>i2 q (eJ.2 (.inl hq))) ρ (m1++m) (by rw[dC,e1,cw]) dg
theorem mT.more {h:Hand} {u u':List (Nat × an)} {K:(Nat→Prop)→(Nat→Option Nat)→(Nat→Option an)→Prop} (t:mT P w I β hp h u K):mT P w I β hp h (u'++u) K:=
 fun I' μ hp0 i1 i2 ρ m dC dg=>t I' μ hp0 i1 (fun q hq=>i2 q (eJ.2 (.inr hq))) ρ m dC dg
theorem Gb (S:aH P w I β hp B M w0) {α:Type}: ∀{ls:List LS} {xs:List V} {h:Hand} {k:Hand→Rd α} {r:α} {rd:List Nat} {vs:List Value},(xr P ls xs h k).run C hp=some (r,rd)→vs.length=xs.length→
  (∀(j:Nat) v x,vs[j]? =some v→xs[j]? =some x→ao P w I β hp v x)→
  ∃h' fa d u,(k h').run C hp=some (r,fa)∧Ext P w I β hp h h' d u∧d.length=kB ls∧ls.length=xs.length∧
   mT P w I β hp h' u fun I' μ hp0=> ∀rest,(iB ls (d++rest)).length=xs.length∧∀(j:Nat) v y,vs[j]? =some v→(iB ls (d++rest))[j]? =some y→ao P w I' μ hp0 v y
 | [],[],h,k,r,rd,vs,hr,hl,hv=>⟨h,rd,[],[],hr,Ext.refl h,rfl,rfl,fun I' μ hp0 _ _ _ _ _ _ rest=>⟨rfl,fun j v y _ hy=>by simp[iB] at hy⟩⟩
 | [],_::_,h,k,r,rd,vs,hr,hl,hv=>by cases hr
 | _::_,[],h,k,r,rd,vs,hr,hl,hv=>by cases hr
 | l::ls,x::xs,h,k,r,rd,vs,hr,hl,hv=>by
  cases vs with
  | nil=>simp at hl
  | cons v vs=>
   simp only[xr] at hr
   obtain ⟨h1,jG,d1,u1,a1,a2,a3,a4⟩:=Ry S hr (hv 0 v x rfl rfl)
   obtain ⟨U,tk,d2,u2,b1,b2,b3,b5,b4⟩:=Gb S a1 (by simpa using hl) (vs:=vs) (fun j v x hj hx=>hv (j+1) v x (by simpa using hj) (by simpa using hx))
   have a4':mT P w I β hp h1 u1 fun I' μ hp0=> ∀rest,ao P w I' μ hp0 v (iX l (d1++rest)):=a4
   refine ⟨U,tk,d1++d2,u1++u2,b1,a2.trans b2,by simp only[cB,kB];omega,by simp[b5],fun I' μ hp0 i1 i2 ρ m dC dg rest=> ?_⟩
   have k1:=(a4'.later b2) I' μ hp0 i1 i2 ρ m dC dg (d2++rest)
   obtain ⟨k2,k3⟩:=b4.more I' μ hp0 i1 i2 ρ m dC dg rest
   simp only[iB]
   rw[show (d1++d2++rest).drop l.size=d2++rest by rw[cw];exact nX a3,cw]
   refine ⟨by simp[k2],fun j v' y hj hy=> ?_⟩
   cases j with
   | zero=>simp at hj hy;subst hj;subst hy;exact k1
   | succ j=>exact k3 j v' y (by simpa using hj) (by simpa using hy)
theorem acr (S:aH P w I β hp B M w0) {α:Type} {s:VS} {x:V} {h:Hand} {k:Hand→Rd α} {r:α} {rd:List Nat} {v:Value} (hr:(AJ P s x h k).run C hp=some (r,rd)) (hv:ao P w I β hp v x):
  ∃h' fa d u,(k h').run C hp=some (r,fa)∧Ext P w I β hp h h' d u∧d.length=s.size∧
   mT P w I β hp h' u fun I' μ hp0=> ∀rest,ao P w I' μ hp0 v (lp s (d++rest)):=by
 cases s with
 | one l=>
  simp only[AJ] at hr
  obtain ⟨h1,jG,d1,u1,a1,a2,a3,a4⟩:=Ry S hr hv
  exact ⟨h1,jG,d1,u1,a1,a2,a3,a4⟩
 | agg ls=>
  cases x<;>simp only[AJ] at hr<;>first|(cases hr;done)|skip
  rename_i xs
  obtain ⟨cs,rfl,e1,e2⟩:=hv.ly
  obtain ⟨h1,jG,d1,u1,a1,a2,a3,a5,a4⟩:=Gb S hr (vs:=cs.toList) (by simpa using e1) (fun j v x hj hx=>e2 j v x (by simpa using hj) hx)
  refine ⟨h1,jG,d1,u1,a1,a2,a3,fun I' μ hp0 i1 i2 ρ m dC dg rest=> ?_⟩
  obtain ⟨k1,k2⟩:=a4 I' μ hp0 i1 i2 ρ m dC dg rest
  exact .agg (by rw[k1];exact e1) fun j v y hj hy=>k2 j v y (by simpa using hj) hy
 | bn ls=>cases x<;>cases hr
 | pref ts ls=>cases x<;>cases hr
 | fn f a b=>
  cases x<;>simp only[AJ] at hr<;>first|(cases hr;done)|skip
  rename_i f' xs ys
  obtain ⟨hc,vf⟩:=aK hr
  clear hr
  rw[a9] at hc
  subst hc
  cases hv with
  | @fn _ fs cs _ _ q1 q2 q3 q4=>
   obtain ⟨h1,jG,d1,u1,a1,a2,a3,a5,a4⟩:=Gb S vf (vs:=fs.toList) (by simpa using q1) (fun j v x hj hx=>q2 j v x (by simpa using hj) hx)
   obtain ⟨U,tk,d2,u2,b1,b2,b3,b5,b4⟩:=Gb S a1 (vs:=cs.toList) (by simpa using q3) (fun j v x hj hx=>q4 j v x (by simpa using hj) hx)
   refine ⟨U,tk,d1++d2,u1++u2,b1,a2.trans b2,by simp only[cB,VS.size];omega,fun I' μ hp0 i1 i2 ρ m dC dg rest=> ?_⟩
   obtain ⟨k1,k2⟩:=(a4.later b2) I' μ hp0 i1 i2 ρ m dC dg (d2++rest)
   obtain ⟨k3,k4⟩:=b4.more I' μ hp0 i1 i2 ρ m dC dg rest
   simp only[lp]
   rw[show (d1++d2++rest).drop (kB a)=d2++rest by rw[cw];exact nX a3,cw]
   exact .fn (by rw[k1];exact q1) (fun j v y hj hy=>k2 j v y (by simpa using hj) hy) (by rw[k3];exact q3) (fun j v y hj hy=>k4 j v y (by simpa using hj) hy)
theorem K9 (S:aH P w I β hp B M w0) {α:Type}: ∀{ls:List VS} {xs:List V} {h:Hand} {k:Hand→Rd α} {r:α} {rd:List Nat} {vs:List Value},(AK P ls xs h k).run C hp=some (r,rd)→vs.length=xs.length→
  (∀(j:Nat) v x,vs[j]? =some v→xs[j]? =some x→ao P w I β hp v x)→
  ∃h' fa d u,(k h').run C hp=some (r,fa)∧Ext P w I β hp h h' d u∧d.length=sY ls∧ls.length=xs.length∧
   mT P w I β hp h' u fun I' μ hp0=> ∀rest,(fH ls (d++rest)).length=xs.length∧∀(j:Nat) v y,vs[j]? =some v→(fH ls (d++rest))[j]? =some y→ao P w I' μ hp0 v y
 | [],[],h,k,r,rd,vs,hr,hl,hv=>⟨h,rd,[],[],hr,Ext.refl h,rfl,rfl,fun I' μ hp0 _ _ _ _ _ _ rest=>⟨rfl,fun j v y _ hy=>by simp[fH] at hy⟩⟩
 | [],_::_,h,k,r,rd,vs,hr,hl,hv=>by cases hr
 | _::_,[],h,k,r,rd,vs,hr,hl,hv=>by cases hr
 | l::ls,x::xs,h,k,r,rd,vs,hr,hl,hv=>by
  cases vs with
  | nil=>simp at hl
  | cons v vs=>
   simp only[AK] at hr
   obtain ⟨h1,jG,d1,u1,a1,a2,a3,a4⟩:=acr S hr (hv 0 v x rfl rfl)
   obtain ⟨U,tk,d2,u2,b1,b2,b3,b5,b4⟩:=K9 S a1 (by simpa using hl) (vs:=vs) (fun j v x hj hx=>hv (j+1) v x (by simpa using hj) (by simpa using hx))
   refine ⟨U,tk,d1++d2,u1++u2,b1,a2.trans b2,by simp only[cB,sY];omega,by simp[b5],fun I' μ hp0 i1 i2 ρ m dC dg rest=> ?_⟩
   have k1:=(a4.later b2) I' μ hp0 i1 i2 ρ m dC dg (d2++rest)
   obtain ⟨k2,k3⟩:=b4.more I' μ hp0 i1 i2 ρ m dC dg rest
   simp only[fH]
   rw[show (d1++d2++rest).drop l.size=d2++rest by rw[cw];exact nX a3,cw]
   refine ⟨by simp[k2],fun j v' y hj hy=> ?_⟩
   cases j with
   | zero=>simp at hj hy;subst hj;subst hy;exact k1
   | succ j=>exact k3 j v' y (by simpa using hj) (by simpa using hy)
def Gc:List BS→Nat
 | []=>0
 | b::l=>b.size+Gc l
theorem Rz: ∀{b:Nat} {e e':TypeId} {es:List V} {v:V},(∀q b' e' m,At P w b e es q b' e' m→jB P w I b' e' m)→∀(path:Path),kz P e path=some e'→da P e es path=some v→0<v.toList.length→
  ∃b1,At P w b e es path b1 e' v.toList
 | b,e,e',es,v,cM,[],ht,hv,hl=>by
  simp only[kz,ed] at ht
  simp only[da,ed] at hv
  subst ht;subst hv
  exact ⟨b,.here⟩
 | b,e,e',es,v,cM,(i,c)::q,ht,hv,hl=>by
  simp only[kz] at ht
  simp only[da] at hv
  obtain ⟨x,hx,hv⟩:=bind_some hv
  cases La:(kz.Az P e)[c]? with
  | none=>rw[La] at ht;cases ht
  | some t=>
   rw[La] at ht
   simp only at ht
   have Ge:(bc P e)[c]? =some t:=La
   cases hu:P.underlying t with
   | none=>rw[hu] at ht;cases ht
   | some d=>
    rw[hu] at ht
    cases d<;>simp only at ht<;>first|(cases ht;done)|skip
    rename_i e1
    rw[nL Ge] at hv
    have hR:=cM _ _ _ _ .here
    obtain ⟨Ca,c1,c2,c3⟩:=hR.cells
    have uR:c<P.cellsOf e:=by rw[←fL hR.ok];exact (bw.1 Ge).1
    obtain ⟨u,d1,d2⟩:=c3 i c x t hx Ge uR
    rw[d2.tc] at hv
    generalize hy:bQ P e x c=y at d2 hv
    cases d2 with
    | fZ a p=>unfold fW at a;rw[hu] at a;cases a
    | @emp e2 a cap mR ha=>
     rw[hu] at mR;cases mR
     simp only at hv
     cases q with
     | nil=>simp only[da,ed] at hv;subst hv;simp[V.toList] at hl
     | cons a q=>simp[da] at hv
    | @row e2 cf b2 cap mR jZ bd ch nO=>
     rw[hu] at mR;cases mR
     simp only at hv
     have e7: ∀{q b' e' aR},At P w b2 e1 cf q b' e' aR→At P w b e es ((i,c)::q) b' e' aR:=fun h=> .step c1 hx Ge hu hy jZ d1 h
     obtain ⟨b1,l9⟩:=Rz (fun q b' e' m h=>cM _ _ _ _ (e7 h)) q ht hv hl
     exact ⟨b1,e7 l9⟩
theorem RA (S:aH P w I β hp B M w0) {α:Type}: ∀{bs:List BS} {j:Nat} {h:Hand} {k:Hand→Rd α} {r:α} {rd:List Nat},(rh P bs j h k).run C hp=some (r,rd)→
  ∃h' fa d u,(k h').run C hp=some (r,fa)∧Ext P w I β hp h h' d u∧d.length=Gc bs∧
   ∀rest,(eM bs (d++rest)).length=bs.length∧∃o:Nat→Option Nat,
    (∀(i:Nat) blk,(eM bs (d++rest))[i]? =some blk→∃p,en h'.pl (j+i)=some p∧eg P w β hp p (o i) blk)∧
    mT P w I β hp h' u fun I' μ hp0=> ∀(i:Nat) blk,(eM bs (d++rest))[i]? =some blk→(∀b,bC P w (o i) blk b→¬I' b)→ee P w I' μ hp0 (o i) blk
 | [],j,h,k,r,rd,hr=>⟨h,rd,[],[],hr,Ext.refl h,rfl,fun rest=>⟨rfl,fun _=>none,fun i blk hb=>by simp[eM] at hb,fun I' μ hp0 _ _ _ _ _ _ i blk hb=>by simp[eM] at hb⟩⟩
 | b::bs,j,h,k,r,rd,hr=>by
  simp only[rh] at hr
  have fin: ∀{h1:Hand} {jG:List Nat} {d1:List V} {u1:List (Nat × an)} {o1:Option Nat} {p:Place},(rh P bs (j+1) h1 k).run C hp=some (r,jG)→Ext P w I β hp h h1 d1 u1→d1.length=b.size→en h.pl j=some p→
    (∀rest,eg P w β hp p o1 (fX b (d1++rest)))→(∀rest,mT P w I β hp h1 u1 fun I' μ hp0=>(∀bb,bC P w o1 (fX b (d1++rest)) bb→¬I' bb)→ee P w I' μ hp0 o1 (fX b (d1++rest)))→
    ∃h' fa d u,(k h').run C hp=some (r,fa)∧Ext P w I β hp h h' d u∧d.length=Gc (b::bs)∧
     ∀rest,(eM (b::bs) (d++rest)).length=(b::bs).length∧∃o:Nat→Option Nat,
      (∀(i:Nat) blk,(eM (b::bs) (d++rest))[i]? =some blk→∃p,en h'.pl (j+i)=some p∧eg P w β hp p (o i) blk)∧
      mT P w I β hp h' u fun I' μ hp0=> ∀(i:Nat) blk,(eM (b::bs) (d++rest))[i]? =some blk→(∀b,bC P w (o i) blk b→¬I' b)→ee P w I' μ hp0 (o i) blk:=by
   intro h1 jG d1 u1 o1 p hk he hd bx hl ht
   obtain ⟨U,tk,d2,u2,b1,b2,b3,b4⟩:=RA S hk
   refine ⟨U,tk,d1++d2,u1++u2,b1,he.trans b2,by simp only[cB,Gc];omega,fun rest=> ?_⟩
   obtain ⟨c1,o,c2,c3⟩:=b4 rest
   simp only[eM]
   rw[show (d1++d2++rest).drop b.size=d2++rest by rw[cw];exact nX hd,cw]
   refine ⟨by simp[c1],fun i=>match i with|0=>o1|i+1=>o i,fun i blk hb=> ?_,fun I' μ hp0 i1 i2 ρ m dC dg i blk hb cV=> ?_⟩
   ·cases i with
    | zero=>
     simp at hb
     subst hb
     exact ⟨p,b2.look (he.look bx),hl _⟩
    | succ i=>
     obtain ⟨q,e1,e2⟩:=c2 i blk (by simpa using hb)
     exact ⟨q,by rw[show j+(i+1)=j+1+i by omega];exact e1,e2⟩
   ·cases i with
    | zero=>
     simp at hb
     subst hb
     exact ((ht _).later b2) I' μ hp0 i1 i2 ρ m dC dg cV
    | succ i=>exact c3.more I' μ hp0 i1 i2 ρ m dC dg i blk (by simpa using hb) cV
  cases bx:en h.pl j with
  | none=>rw[bx] at hr;cases hr
  | some p=>
   rw[bx] at hr
   cases p with
   | blk id=>
    obtain ⟨l1,hr⟩:=run_get hr
    cases ab:hp id with
    | none=>rw[ab] at hr;cases hr
    | some blk=>
     rw[ab] at hr
     cases blk with
     | dead=>cases hr
     | var T0 cs=>
      cases b<;>simp only at hr<;>first|(cases hr;done)|skip
      rename_i T1 ss
      obtain ⟨hT,hr1⟩:=aK hr
      clear hr
      rw[a9] at hT
      subst hT
      have cL:=S.h.rel id _ ab
      generalize ho:β id=o at cL
      cases cL with
      | @var _ bb Ca T hb hh hs hI hx gu=>
       obtain ⟨h1,jG,d1,u1,a1,a2,a3,a5,a4⟩:=K9 S hr1 (vs:=Ca.toList) (by simpa using hs) (fun j v x hj cF=>hx j v x (by simpa using hj) cF)
       refine fin (o1:=β id) a1 a2 a3 bx (fun rest=> .var ab) fun rest I' μ hp0 i1 i2 ρ m dC dg cV=> ?_
       obtain ⟨k1,k2⟩:=a4 I' μ hp0 i1 i2 ρ m dC dg rest
       exact .var (ho.trans hb) hh (by rw[k1];exact hs) (cV _ (.root (by simp[fX]) (ho.trans hb))) (fun i v y hi hy=>k2 i v y (by simpa using hi) hy) gu
     | arr e' es fz=>
      cases fz with
      | true=>cases hr
      | false=>
       cases b with
       | arr e fz=>
        cases fz with
        | true=>cases hr
        | false=>
         obtain ⟨hc,vf⟩:=aK hr
         clear hr
         rw[a9] at hc
         subst hc
         refine fin (d1:=[.list e es]) (o1:=β id) vf (Ext.leaf h _) rfl bx (fun rest=>eg.arr ab) fun rest I' μ hp0 i1 i2 ρ m dC dg cV=> ?_
         change ee P w I' μ hp0 (β id) (.arr e es false)
         have cL:=S.h.rel id _ ab
         generalize ho:β id=o at cL cV⊢
         cases cL with
         | dP hb=>exact .dP hb
         | arr a1 a2 a3 a4 a5 a6 a7=>
          refine .arr a1 a2 a3 a4 (fun h=>by cases h) (fun _=>cV _ (.root (by simp[fX]) a2)) fun i j x t' y1 y2 y3=> ?_
          obtain ⟨v,z1,z2⟩:=a7 i j x t' y1 y2 y3
          exact ⟨v,z1,z2.mono i1 fun _ _=>rfl⟩
       | _=>cases hr
     | nest e' es aq=>
      cases b with
      | nest e=>
       obtain ⟨hc,vf⟩:=aK hr
       clear hr
       rw[a9] at hc
       subst hc
       refine fin (d1:=[.list e es]) (o1:=β id) vf (Ext.leaf h _) rfl bx (fun rest=>eg.nest ab) fun rest I' μ hp0 i1 i2 ρ m dC dg cV=> ?_
       have RB: ∀bb,bC P w (β id) (.nest e es [0,0,0]) bb→¬I' bb:=cV
       change ee P w I' μ hp0 (β id) (.nest e es [0,0,0])
       have cL:=S.h.rel id _ ab
       generalize ho:β id=o at cL RB⊢
       cases cL with
       | nest hb cM o0=>
        refine .nest hb (fun q b' e1 m1 hq=> ?_) o0
        obtain ⟨ok,⟨Ca,c1,c2,c3⟩,nI⟩:=cM q b' e1 m1 hq
        refine ⟨ok,⟨Ca,c1,c2,fun i j x t' y1 y2 y3=> ?_⟩,RB _ (.row hb hq)⟩
        obtain ⟨v,z1,z2⟩:=c3 i j x t' y1 y2 y3
        exact ⟨v,z1,z2.mono i1 (fun _ _=>rfl) fun _ _ _ _ _=>rfl⟩
      | _=>cases hr
     | map t' es=>
      cases b with
      | map t=>
       obtain ⟨hc,vf⟩:=aK hr
       clear hr
       rw[a9] at hc
       subst hc
       refine fin (d1:=[.list t es]) (o1:=β id) vf (Ext.leaf h _) rfl bx (fun rest=>eg.map ab) fun rest I' μ hp0 i1 i2 ρ m dC dg cV=> ?_
       change ee P w I' μ hp0 (β id) (.map t es)
       have cL:=S.h.rel id _ ab
       generalize ho:β id=o at cL cV⊢
       cases cL with
       | map a1 a2 a3 a4 a5 a6 a7=>exact .map a1 a2 a3 a4 (cV _ (.root (by simp[fX]) a2)) a6 a7
      | _=>cases hr
   | row id ver path=>
    obtain ⟨e0,es,aq,l1,k1,k2,k3,k4,k5⟩:=oX hr
    obtain ⟨e',vv,m1,m2,m3⟩:=xC k5
    cases b with
    | arr e fz=>
     cases fz with
     | true=>cases m3
     | false=>
      obtain ⟨hc,m4⟩:=aK m3
      clear m3
      simp only[aO,a9,jP] at hc
      obtain ⟨rfl,Bs,jZ⟩:=hc
      have cL:=S.h.rel id _ k1
      cases hb:β id with
      | none=>
       rw[hb] at cL
       cases cL with
       | nest aB _ _=>cases aB
      | some b0=>
       rw[hb] at cL
       cases cL with
       | nest aB cM o0=>
        cases aB
        obtain ⟨b1,dr⟩:=Rz cM path m1 m2 jZ
        refine fin (d1:=[.list e vv.toList]) (o1:=some b1) m4 (Ext.leaf h _) rfl bx (fun rest=>eg.row k1 hb dr Bs k2 k3 k4 jZ) fun rest I' μ hp0 i1 i2 ρ m dC dg cV=> ?_
        change ee P w I' μ hp0 (some b1) (.arr e vv.toList false)
        obtain ⟨ok,⟨Ca,c1,c2,c3⟩,nI⟩:=cM _ _ _ _ dr
        refine .arr ok rfl c1 c2 (fun h=>by cases h) (fun _=>cV _ (.root (by simp[fX]) rfl)) fun i j x t' y1 y2 y3=> ?_
        obtain ⟨v,z1,z2⟩:=c3 i j x t' y1 y2 y3
        refine ⟨v,z1,?_⟩
        generalize bQ P e x j=y at z2⊢
        cases z2 with
        | fZ _ p=>exact p.mono i1 fun _ _=>rfl
        | emp hu _=>exact absurd hu (RC Bs y2 _)
        | row hu _ _ _ _=>exact absurd hu (RC Bs y2 _)
    | _=>cases m3
where
 RC {e t:TypeId} {j:Nat} (h:AF P e=true) (ht:(bc P e)[j]? =some t) (e':TypeId):P.underlying t≠some (.slice e'):=by
  intro hu
  have U:=fm.1 h t (jR ht)
  rw[hu] at U
  cases U
end
end Go.AM
