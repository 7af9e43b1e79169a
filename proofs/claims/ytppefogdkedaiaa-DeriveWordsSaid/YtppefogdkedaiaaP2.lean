/-
  Functions of the program, lifted to plain data.
-/
import Derived.Great.BuildSlice
import Derived.Maps.Keyed
import Derived.WideKeyArr
import Derived.MapKept
import Derived.ChangeMaps4
import Derived.Carry
import Derived.Lib.AppendStr
import Derived.Laws.BytesString
import Derived.Lib.Builder
import Derived.Lib.UnsafeStr
import Derived.Test.YtppefogdkedaiaaP1
set_option linter.unusedVariables false
set_option linter.unusedSimpArgs false
namespace Go.AM
section
variable {P:Program} {w w':World} {I I':Nat→Prop} {β β':Nat→Option Nat} {hp hp':Nat→Option an} {C:ag} {B:Nat} {M:Nat→Prop} {w0:Start}
theorem Xb (S:aF P w I β hp B M w0) {t:TypeId} {a v:Value} {xa x:V} {r:R} {rd:List Nat} (ha:ao P w I β hp a xa) (hv:ao P w I β hp v x)
  (h:(GP P t xa x).run C hp=some (r,rd)):pf P ((Instr.storeAt t a v).run P w) w I β hp B M w0 r:=by
 unfold GP at h
 obtain ⟨h0,h⟩:=aG h
 simp only[aK,aR] at h0
 obtain ⟨ht,hn⟩:=h0
 cases xa with
 | ptr id i c=>
  obtain ⟨l,h⟩:=run_get h
  cases ab:hp id with
  | none=>rw[ab] at h;cases h
  | some blk=>
   rw[ab] at h
   cases blk with
   | dead=>cases h
   | var T0 cs=>
    obtain ⟨Nf,h⟩:=aG h
    have mc:o5 P T0=true→0<c:=fun bI=>by
     rw[bI] at Nf
     simpa using Nf
    obtain ⟨b,hb,rfl⟩:=ha.gL ab (by simp)
    simp only[an.sz,Nat.mul_zero,gE]
    cases pe:(yR P t cs&&eI P t x) with
    | true=>
     dsimp only at h
     rw[pe] at h
     simp only[cond_true] at h
     obtain ⟨hc,h⟩:=aG h
     obtain rfl:=aM h
     simp only[aK,jQ] at hc pe
     obtain ⟨o1,o2⟩:=M7 hv pe.2
     have ly:=WM pe.2
     refine M5 S ab hb ht hn (by rw[o2,ly];rfl) mc (fun j u y hu hy=> ?_) (by rw[o2];simp[o1]) (by rw[ly];simp;omega) (M4 _ _ _ _) (fun j y hy hj u hu=> ?_) (fun j y hy hj u hu=> ?_)
     ·rw[o2] at hu
      rw[ly] at hy
      cases j with
      | zero=>simp at hu hy;subst hu;subst hy;exact hv
      | succ j=>simp at hy
     ·rw[Ht] at hy
      cases vU:cs[j]? with
      | none=>rw[vU] at hy;cases hy
      | some y0=>
       rw[vU] at hy
       simp only[Option.map_some,dR] at hy
       rw[ly] at hj
       simp only[List.length_singleton] at hj
       have bC:Nat.beq c (0+j)=false:=by
        cases hq:Nat.beq c (0+j) with
        | false=>rfl
        | true=>rw[aR] at hq;omega
       rw[bC] at hy
       have:=MS (c:=false) hv (hu y0 vU)
       rw[←hy]
       simpa using this
     ·rw[ly] at hj hu
      have Xc:j=0:=by simpa using hj
      subst Xc
      rw[Ht] at hy
      cases vU:cs[c+0]? with
      | none=>rw[vU] at hy;cases hy
      | some y0=>
       rw[vU] at hy
       simp only[Option.map_some,dR] at hy
       have heq:Nat.beq c (0+(c+0))=true:=by rw[aR];omega
       rw[heq] at hy
       have U:ao P w I β hp u x:=hu x rfl
       have:rA true x y0=x:=WN x y0
       rw[←hy,this]
       exact U
    | false=>
     dsimp only at h
     rw[pe] at h
     simp only[cond_false] at h
     obtain ⟨hc,h⟩:=aG h
     simp only[aK,dx] at hc
     obtain ⟨e1,e2⟩:=Hr hv h
     obtain ⟨h1,l2,h⟩:=Dl h (vs:=v.cells.toList) (by simpa using e1) (fun j u y a b=>e2 j u y (by simpa using a) b)
     obtain rfl:=aM h
     refine M5 S ab hb ht hn e1 mc e2 h1 hc.2 (zr _ _ _ hc.2) (fun j y hy hj u hu=> ?_) (fun j y hy hj u hu=> ?_)
     ·unfold fA at hy
      rw[m8 _ _ _ _ hc.2] at hy
      rcases hj with hj|hj
      ·rw[aj hj] at hy;exact hu y hy
      ·rw[ai (by omega),ai (by omega)] at hy;exact hu y hy
     ·unfold fA at hy
      rw[m8 _ _ _ _ hc.2,ai (by omega),aj (by omega)] at hy
      rw[show c+j-c=j by omega] at hy
      exact hu y hy
   | arr e es fz=>
    cases fz with
    | true=>cases h
    | false=>
    obtain ⟨b,hb,rfl⟩:=ha.gL ab (by simp)
    obtain ⟨au,h⟩:=aG h
    obtain ⟨⟨ys,fr⟩,l1,l2,bt,h⟩:=kL h
    obtain ⟨hc,h⟩:=aG h
    obtain ⟨x0,qw,h⟩:=lr h
    obtain rfl:=aM h
    simp only[aK,mL,dx] at hc
    obtain ⟨dH,Xd,ib⟩:=hc
    have pj:v.cells.size=x.cells.length∧∀(j:Nat) u y,v.cells.toList[j]? =some u→x.cells[j]? =some y→ao P w I β hp u y:=by
     cases x with
     | agg xs=>
      obtain ⟨cs,rfl,h1,U⟩:=hv.kM
      exact ⟨h1,fun j u y a b=>U j u y (by simpa[Value.cells] using a) b⟩
     | _=>
      simp only[V.cells] at bt ib⊢
      simp only[rz] at bt
      obtain ⟨⟨y1,u1⟩,l3,l4,hq,bt⟩:=kL bt
      obtain ⟨q1,q2⟩:=C8 S.h.rel hq hv
      obtain ⟨⟨y2,u2⟩,l5,l6,zB,bt⟩:=kL bt
      cases zB
      have:=aM bt
      cases this
      obtain ⟨tl,tg⟩:=tx ib
      have fq:=tg 0 _ y1 (bO (by rw[tl];exact Nat.one_pos)) rfl
      have bE:=q2 (iD P w I β hp u1) (fun _ h=> .inl h) (fun p hp b h=> .inr ⟨p,hp,h⟩)
      have ho:=bE.pure fq
      have HH:v.cells= #[v]:=by cases ho<;>rfl
      rw[HH]
      refine ⟨rfl,fun j u y hu hy=> ?_⟩
      cases j with
      | zero=>simp at hu hy;subst hu;subst hy;exact hv
      | succ j=>simp at hy
    obtain ⟨k1,k2,k3⟩:=Hk S.h.rel bt (vs:=v.cells.toList) (by simpa using pj.1) pj.2
    obtain ⟨qu,S1⟩:=zl S k2
    have zA:bL hp fr id=some (.arr e es false):=by
     rcases tp (hp:=hp) (l:=fr) (id:=id) with h|⟨b',hm,_⟩
     ·exact h.trans ab
     ·exfalso
      have Xe:jS (fr.map (·.1)) id=true:=vO (gh.2 ⟨_,hm,rfl⟩)
      rw[Xe] at dH;cases dH
    have Ng:=k3 (iD P w I β hp fr) (fun _ h=> .inl h) (fun p hp b h=> .inr ⟨p,hp,h⟩)
    obtain ⟨tl,tg⟩:=tx ib
    have vI:=(j4 au).1
    have tB:ys.length=v.cells.size:=by rw[k1,pj.1]
    have hcn:c+v.cells.size≤P.cellsOf e:=by rw[pj.1];exact Xd
    have hr:=S1.h.rel id _ zA
    cases hr with
    | dG aB=>simp at qw
    | @arr _ _ _ b' Ca Hq aB hh hs hf eg hx=>
     rw[hb] at aB
     cases aB
     have lA:i<es.length:=(bu.1 qw).1
     have hbound:i*P.cellsOf e+P.cellsOf e≤Ca.size:=by
      have:(i+1)*P.cellsOf e≤es.length*P.cellsOf e:=dC _ lA
      rw[dh] at this
      omega
     simp only[an.sz]
     have rR:i*P.cellsOf e+c+v.cells.size≤Ca.size:=by omega
     have cL: ¬iD P w I β hp fr b:=eg rfl
     have h1: ∀u∈v.cells.toList,u.oneCell'=true:=by
      intro u hu
      obtain ⟨j,hj⟩:=rp hu
      have cd:j<ys.length:=by rw[tB];simpa using (bu.1 hj).1
      have oh:j<(((flat P e).drop c).take x.cells.length).length:=by rw[tl];exact cd
      exact (Ng j u ys[j] hj (bO cd)).one (tg j _ ys[j] (bO oh) (bO cd))
     have cR:=Hs (t:=t) (o:=i*P.cellsOf e+c) (v:=v) ht (by rw[pj.1];exact hn.symm) hh rR h1
     have hlen:(Ca.toList.take (i*P.cellsOf e+c)++(v.cells.toList++Ca.toList.drop (i*P.cellsOf e+c+v.cells.toList.length))).length=Ca.size:=by
      rw[zr _ _ _ (by simpa using rR)];simp
     have bE:(parts P e x0).length=P.cellsOf e:=by rw[vL];exact fp au
     have zt:=Dm S1 (blk':= .arr e (es.set i (cv P e (fA (parts P e x0) c ys))) false)
      (Cb:=(Ca.toList.take (i*P.cellsOf e+c)++(v.cells.toList++Ca.toList.drop (i*P.cellsOf e+c+v.cells.toList.length))).toArray) zA (by simp) ⟨rfl,by simp⟩ hb cL (by simp) hh (by simpa using hlen)
      (fun hle eK=> .arr au rfl eK (by simp only[pV,nQ];omega) (fun h=>by cases h) (fun _=>cL) fun i' j z t' hz oh hj=>by
       simp only[mM]
       rw[m8 _ _ _ _ (by simpa using rR)]
       simp only[Array.length_toList]
       rw[List.getElem?_set] at hz
       by_cases iH:i=i'
       ·subst iH
        rw[aj rfl,aj lA] at hz
        cases hz
        have Dx:j<(parts P e x0).length:=by omega
        have tC:(fA (parts P e x0) c ys)[j]? =if j<c then (parts P e x0)[j]? else if j<c+ys.length then ys[j-c]? else (parts P e x0)[j]? :=by
         unfold fA;exact m8 _ _ _ _ (by omega)
        by_cases qp:j<c
        ·rw[aj (by omega)]
         rw[aj qp] at tC
         obtain ⟨u,t2,a1,a2,a3⟩:=Di hx au qw (bO Dx)
         rw[oh] at a1;cases a1
         refine ⟨u,by simpa using a2,?_⟩
         rw[qq (tC.trans (bO Dx)) oh]
         exact a3.mono hle.db hle.cb
        ·rw[ai qp] at tC
         by_cases fW:j<c+ys.length
         ·rw[aj fW] at tC
          rw[ai (by omega),aj (by omega)]
          have pk:j-c<ys.length:=by omega
          have Nh:j-c<v.cells.toList.length:=by simp;omega
          have aiI:j-c<v.cells.size:=by omega
          refine ⟨v.cells.toList[j-c],?_,?_⟩
          ·rw[show i*P.cellsOf e+j-(i*P.cellsOf e+c)=j-c by omega]
           exact bO Nh
          ·rw[qq (tC.trans (bO pk)) oh]
           have Xf:(((flat P e).drop c).take x.cells.length)[j-c]? =some t':=by
            rw[eO (by omega),gY,show c+(j-c)=j by omega,←rO]
            exact oh
           exact ((Ng (j-c) _ ys[j-c] (bO Nh) (bO pk)).pure (tg (j-c) t' ys[j-c] Xf (bO pk))).mono hle.db hle.cb
         ·rw[ai fW] at tC
          rw[ai (by omega),ai (by omega)]
          obtain ⟨u,t2,a1,a2,a3⟩:=Di hx au qw (bO Dx)
          rw[oh] at a1;cases a1
          refine ⟨u,by simpa using a2,?_⟩
          rw[qq (tC.trans (bO Dx)) oh]
          exact a3.mono hle.db hle.cb
       ·rw[ai iH] at hz
        obtain ⟨u,a2,a3⟩:=hx i' j z t' hz oh hj
        have bC:i'*P.cellsOf e+j<i*P.cellsOf e+c∨i*P.cellsOf e+c+v.cells.size≤i'*P.cellsOf e+j:=by
         rcases oW i' i with aO|pn
         ·left
          have:(i'+1)*P.cellsOf e≤i*P.cellsOf e:=dC _ aO
          rw[dh] at this
          omega
         ·right
          have:(i+1)*P.cellsOf e≤i'*P.cellsOf e:=dC _ (by omega)
          rw[dh] at this
          omega
        refine ⟨u,?_,a3.mono hle.db hle.cb⟩
        rcases bC with bC|bC
        ·rw[aj bC];simpa using a2
        ·rw[ai (by omega),ai (by omega)];simpa using a2)
     exact ⟨_,_,_,cR,qu.trans zt.1,zt.2,rfl⟩
   | map _ _=>cases h
   | nest e es ar=>
    obtain ⟨b,hb,rfl⟩:=ha.gL ab (by simp)
    exact Nd S ht hn hv ab hb .here h
 | cA id ver path i c=>
  obtain ⟨e0,es,ar,l,ab,h1,U,h3,h⟩:=oa h
  obtain ⟨b,b1,e1,l1,hb,dc,rfl⟩:=ha.MP ab h1 U h3
  exact Nd S ht hn hv ab hb dc h
 | _=>cases h
end
section
variable {P:Program} {w w':World} {I I':Nat→Prop} {β β':Nat→Option Nat} {hp hp':Nat→Option an} {C:ag} {B:Nat} {M:Nat→Prop} {w0:Start}
theorem HI: ∀{ts:List TypeId} {vs:List Value} {j:Nat} {y:V},(iY P ts vs)[j]? =some y→∃t v,ts[j]? =some t∧vs[j]? =some v∧y=o4 P t v
 | [],vs,j,y,h=>by simp[iY] at h
 | _::_,[],j,y,h=>by simp[iY] at h
 | t::ts,v::vs,0,y,h=>by simp[iY] at h;exact ⟨t,v,rfl,rfl,h.symm⟩
 | t::ts,v::vs,j+1,y,h=>by
  simp only[iY,List.getElem?_cons_succ] at h
  obtain ⟨t',v',a,b,c⟩:=HI h
  exact ⟨t',v',by simpa using a,by simpa using b,c⟩
theorem Ni: ∀{ts:List TypeId} {vs:List Value},ts.length=vs.length→(iY P ts vs).length=vs.length
 | [],[],_=>rfl
 | [],_::_,h=>by simp at h
 | _::_,[],h=>by simp at h
 | t::ts,v::vs,h=>by simp[iY,Ni (ts:=ts) (vs:=vs) (by simpa using h)]
theorem j7 {e:TypeId} (h:cM P e=true): ∃i z,P.info? e=some i∧i.zero=some z∧i.size=P.cellsOf e∧z.cells.size=P.cellsOf e∧zeroCells P e=iY P (flat P e) z.cells.toList:=by
 unfold cM at h
 simp only[aK,aR,jQ] at h
 obtain ⟨h1,U,_,h3⟩:=h
 cases hi:P.info? e with
 | none=>rw[hi] at h3;cases h3
 | some i=>
  rw[hi] at h3
  simp only[Option.bind_some] at h3
  cases hz:i.zero with
  | none=>rw[hz] at h3;cases h3
  | some z=>
   rw[hz] at h3
   simp only[aR] at h3
   exact ⟨i,z,rfl,hz,by simp[Program.cellsOf,hi],h3,by simp[zeroCells,hi,hz]⟩
theorem Nj {e:TypeId} (h:cM P e=true): ∃i z,P.info? e=some i∧i.zero=some z∧z.cells.size=(zeroCells P e).length∧z.cells.size=P.cellsOf e∧
  ∀(j:Nat) v x,z.cells[j]? =some v→(zeroCells P e)[j]? =some x→ao P w I β hp v x:=by
 obtain ⟨i,z,h1,U,h3,h4,h5⟩:=j7 h
 have hl:(flat P e).length=z.cells.toList.length:=by rw[(j4 h).1];simpa using h4.symm
 refine ⟨i,z,h1,U,?_,h4,fun j v x hv hx=> ?_⟩
 ·rw[h5,Ni hl];simp
 ·rw[h5] at hx
  obtain ⟨t,v',_,vM,rfl⟩:=HI hx
  have:v'=v:=by
   have e1:z.cells[j]? =some v':=by simpa using vM
   rw[hv] at e1;exact (c6 e1).symm
  subst this
  exact ao.const t v'
theorem m9 {nb:Nat} {b:an} {v:V} {upd:List (Nat × an)} {r:R} {rd:List Nat} (h:(iZ nb b v upd).run C hp=some (r,rd)):hp nb=none∧r=⟨v,(nb,b)::upd⟩:=by
 obtain ⟨l,h⟩:=run_get h
 cases hn:hp nb with
 | none=>rw[hn] at h;exact ⟨rfl,(aM h).symm⟩
 | some x=>rw[hn] at h;cases h
theorem Nk (S:aF P w I β hp B M w0) {nb:Nat} {xs:List V} {C0:Array Value} {T:TypeId} (hn:hp nb=none) (hs:C0.size=xs.length)
  (hx: ∀(j:Nat) v x,C0[j]? =some v→xs[j]? =some x→ao P w I β hp v x) (fV:MK P w.heap.size T C0):
  Le P w I β hp (w.alloc (.cells C0 T)) I (aI β nb (some w.heap.size)) (aI hp nb (some (.var T xs)))∧aF P (w.alloc (.cells C0 T)) I (aI β nb (some w.heap.size)) (aI hp nb (some (.var T xs))) B M w0∧
  ao P (w.alloc (.cells C0 T)) I (aI β nb (some w.heap.size)) (aI hp nb (some (.var T xs))) (.pointer (some ⟨w.heap.size,0,none⟩)) (.ptr nb 0 0):=by
 obtain ⟨h1,U⟩:=Hm S (blk:= .var T xs) (c:=C0) (T:=T) hn (fun b' h=>(c6 (h.flat (by simp))).symm) (fun hle eK cL=> .var rfl eK hs cL (fun j v x a b=>(hx j v x a b).mono hle) fV)
 refine ⟨h1,U,?_⟩
 have:=ao.ptr (P:=P) (w:=w.alloc (.cells C0 T)) (I:=I) (β:=aI β nb (some w.heap.size)) (hp:=aI hp nb (some (.var T xs))) (i:=0) (c:=0) (blk:= .var T xs) (cQ _ _ _) (by simp) (cQ _ _ _)
 simpa using this
theorem Xg (S:aF P w I β hp B M w0) {e:TypeId} {nb:Nat} {r:R} {rd:List Nat}
  (h:(Rd.aC (cM P e&&(!(o5 P e)||MF (zeroCells P e))) (iZ nb (.var e (zeroCells P e)) (.ptr nb 0 0) [])).run C hp=some (r,rd)):cU P ((Instr.alloc e true (.tuple #[])).run P w) w I β hp B M w0 r:=by
 obtain ⟨au,h⟩:=aG h
 rw[aK] at au
 obtain ⟨au,mc⟩:=au
 obtain ⟨hn,rfl⟩:=m9 h
 obtain ⟨i,z,h1,U,h3,h4,h5⟩:=Nj (w:=w) (I:=I) (β:=β) (hp:=hp) au
 obtain ⟨a,b,c⟩:=Nk S (T:=e) hn h3 h5 fun bI=>by
  rw[bI,pW,Bool.false_or] at mc
  cases hz:zeroCells P e with
  | nil=>rw[hz] at mc;cases mc
  | cons y l=>
   rw[hz] at mc h3 h5
   cases y<;>first|(cases mc;done)|skip
   have aO:0<z.cells.size:=by rw[h3];simp
   have:=h5 0 z.cells[0] .dk (kD aO) rfl
   left
   rw[kD aO]
   generalize z.cells[0]=u at this
   cases this;rfl
 exact ⟨_,_,_,_,by simp[Instr.alloc,zeroValue,typeInfo,h1,U,newVar,newRow],a,b,c⟩
theorem Xh (S:aF P w I β hp B M w0) {e:TypeId} {nb:Nat} {x:V} {v:Value} {r:R} {rd:List Nat} (hv:ao P w I β hp v x)
  (h:(Rd.aC (!(o5 P e)) <| lj x.cells (iZ nb (.var e x.cells) (.ptr nb 0 0) [])).run C hp=some (r,rd)):cU P ((Instr.box e v).run P w) w I β hp B M w0 r:=by
 obtain ⟨mc,h⟩:=aG h
 obtain ⟨e1,e2⟩:=Hr hv h
 obtain ⟨_,l,h⟩:=Dl h (vs:=v.cells.toList) (by simpa using e1) (fun j u y a b=>e2 j u y (by simpa using a) b)
 obtain ⟨hn,rfl⟩:=m9 h
 obtain ⟨a,b,c⟩:=Nk S (T:=e) hn e1 e2 fun bI=>by rw[bI] at mc;cases mc
 exact ⟨_,_,_,_,by simp[Instr.box,newVar,newRow],a,b,c⟩
theorem foldl_set (off:Nat): ∀(vs:List Value) (k:Nat) (cs:Array Value) (i:Nat),off+k+vs.length≤cs.size→
  ((vs.zipIdx k).foldl (fun cs p=>cs.setIfInBounds (off+p.2) p.1) cs)[i]? =if i<off+k then cs[i]? else if i<off+k+vs.length then vs[i-(off+k)]? else cs[i]?
 | [],k,cs,i,h=>by simp;intro h1 U;omega
 | v::vs,k,cs,i,h=>by
  simp only[List.zipIdx_cons,List.foldl_cons]
  simp only[List.length_cons] at h⊢
  rw[foldl_set off vs (k+1) _ i (by simp;omega)]
  by_cases h1:i<off+k
  ·rw[aj (by omega),aj h1]
   rw[Cp (by omega)]
  ·rw[ai h1]
   by_cases U:i=off+k
   ·subst U
    rw[aj (by omega),aj (by omega)]
    rw[GM (by omega)]
    simp
   ·rw[ai (by omega)]
    by_cases h3:i<off+k+(vs.length+1)
    ·rw[aj (by omega),aj h3,show i-(off+k)=(i-(off+(k+1)))+1 by omega]
     simp
    ·rw[ai (by omega),ai h3,Cp (by omega)]
theorem Nl (off:Nat): ∀(vs:List Value) (k:Nat) (cs:Array Value),((vs.zipIdx k).foldl (fun cs p=>cs.setIfInBounds (off+p.2) p.1) cs).size=cs.size
 | [],k,cs=>rfl
 | v::vs,k,cs=>by
  simp only[List.zipIdx_cons,List.foldl_cons]
  rw[Nl off vs (k+1)]
  simp
theorem Nn {cells:Array Value} {off:Nat} {v:Value} (h:off+v.cells.size≤cells.size) (i:Nat):
  (v.cells.zipIdx.foldl (fun cs (p:Value × Nat)=>cs.setIfInBounds (off+p.2) p.1) cells)[i]? =if i<off then cells[i]? else if i<off+v.cells.size then v.cells[i-off]? else cells[i]? :=by
 have:=foldl_set off v.cells.toList 0 cells i (by simpa using h)
 rw[←Cq]
 simpa[Array.toList_zipIdx] using this
theorem No {cells:Array Value} {off:Nat} {v:Value}:(v.cells.zipIdx.foldl (fun cs (p:Value × Nat)=>cs.setIfInBounds (off+p.2) p.1) cells).size=cells.size:=by
 have:=Nl off v.cells.toList 0 cells
 rw[←Cq]
 simpa[Array.toList_zipIdx] using this
inductive vV (P:Program) (w:World) (I:Nat→Prop) (β:Nat→Option Nat) (hp:Nat→Option an):List (Nat × Value)→List (Nat × V)→Prop
 | nil:vV P w I β hp [] []
 | cons {i:Nat} {v:Value} {x:V} {vs:List (Nat × Value)} {xs:List (Nat × V)}:v.cells.size=x.cells.length→(∀(j:Nat) u y,v.cells[j]? =some u→x.cells[j]? =some y→ao P w I β hp u y)→
   vV P w I β hp vs xs→vV P w I β hp ((i,v)::vs) ((i,x)::xs)
theorem Np (place:Nat→Option (Nat × Nat)): ∀{vs:List (Nat × Value)} {px:List (Nat × V)} {cells:Array Value} {xs ys:List V},vV P w I β hp vs px→cells.size=xs.length→
  (∀(j:Nat) v x,cells[j]? =some v→xs[j]? =some x→ao P w I β hp v x)→s8 place xs px=some ys→
  ∃po:Array Value,Instr.fill place cells vs=some po∧po.size=ys.length∧∀(j:Nat) v x,po[j]? =some v→ys[j]? =some x→ao P w I β hp v x
 | _,_,cells,xs,ys,.nil,hs,hx,h=>by
  simp only[s8,dR] at h
  subst h
  exact ⟨cells,by simp[Instr.fill],hs,hx⟩
 | _,_,cells,xs,ys,@vV.cons _ _ _ _ _ i v x vs px h1 U h3,hs,hx,h=>by
  simp only[s8] at h
  cases bE:place i with
  | none=>rw[bE] at h;cases h
  | some os=>
   obtain ⟨off,size⟩:=os
   rw[bE] at h
   simp only at h
   cases hc:(Nat.beq x.cells.length size&&Nat.ble (off+size) xs.length) with
   | false=>rw[hc] at h;cases h
   | true=>
    rw[hc] at h
    simp only[cond_true] at h
    simp only[aK,aR,dx] at hc
    have hv:off+v.cells.size≤cells.size:=by omega
    have hb:off+x.cells.length≤xs.length:=by omega
    have hl:(fA xs off x.cells).length=xs.length:=zr _ _ _ hb
    obtain ⟨po,f1,f2,f3⟩:=Np place (cells:=v.cells.zipIdx.foldl (fun cs (p:Value × Nat)=>cs.setIfInBounds (off+p.2) p.1) cells) (xs:=fA xs off x.cells) h3 (by rw[No,hl,hs])
     (fun j u y hu hy=>by
      rw[Nn hv] at hu
      unfold fA at hy
      rw[m8 _ _ _ _ hb] at hy
      by_cases j1:j<off
      ·rw[aj j1] at hu hy;exact hx j u y hu hy
      ·rw[ai j1] at hu hy
       by_cases j2:j<off+x.cells.length
       ·rw[aj (by omega)] at hu
        rw[aj j2] at hy
        exact U (j-off) u y hu hy
       ·rw[ai (by omega)] at hu
        rw[ai j2] at hy
        exact hx j u y hu hy) h
    refine ⟨po,?_,f2,f3⟩
    simp only[Instr.fill,bE]
    rw[ai (by simp;omega)]
    exact f1
theorem Xi {t:TypeId} {parts:Array (Nat × Value)} {cells:Array Value} {z:Value} {i:TypeInfo} (hi:P.info? t=some i) (hz:i.zero=some z) (h:Instr.fill (placeOf P t) z.cells parts.toList=some cells) (ha:bK P t=true)
  (bE: ∀fs,P.underlying t=some (.struct fs)→(fs.toList.mapM fun f=>(P.info? f.type).map fun i=>(f.offset,i.size)).isSome=true) (qx: ∀n e,P.underlying t=some (.array n e)→(P.info? e).isSome=true):
  (Instr.build t parts).run P w= .ok (.agg cells) w:=by
 refine run_build w t parts cells ?_
 unfold Program.built
 unfold bK at ha
 rw[hi]
 split at ha
 ·rename_i fs hu
  have:=bE fs hu
  cases hm:fs.toList.mapM fun f=>(P.info? f.type).map fun i=>(f.offset,i.size) with
  | none=>rw[hm] at this;cases this
  | some G2=>
   simp only[hu,hz,hm]
   have hq:placeOf P t=fun i=>G2[i]? :=by simp[placeOf,hu,hm]
   rw[hq] at h
   simpa using h
 ·rename_i n e hu
  have:=qx n e hu
  cases jz:P.info? e with
  | none=>rw[jz] at this;cases this
  | some ie=>
   simp only[hu,hz,jz]
   have hq:placeOf P t=fun i=>some (i*ie.size,ie.size):=by simp[placeOf,hu,jz]
   rw[hq] at h
   exact h
 ·cases ha
theorem Nq {α:Type}: ∀(xs ys:List V) (k:Rd α),lj (xs++ys) k=lj xs (lj ys k)
 | [],_,_=>rfl
 | x::xs,ys,k=>by simp only[List.cons_append,lj,Nq xs ys k]
theorem Nr {a:Act} {sl:Nat→V} (hs:kK P w I β hp a sl) {G:Nat→V} (hg:gf P G w I) (t:TypeId) {α:Type}: ∀{l:List (Nat × Operand)} {k:Rd α} {r:α} {rd:List Nat},
  (lj ((l.map fun p=>(aN P G t sl p.2).cells).flatten) k).run C hp=some (r,rd)→
  vV P w I β hp (l.map fun p=>(p.1,a.eval p.2)) (l.map fun p=>(p.1,aN P G t sl p.2))∧∃eL,k.run C hp=some (r,eL)
 | [],k,r,rd,h=>⟨.nil,rd,h⟩
 | (i,x)::l,k,r,rd,h=>by
  simp only[cz,List.flatten_cons,Nq] at h
  obtain ⟨e1,e2⟩:=Hr (hs.ev hg t x) h
  obtain ⟨_,l1,h⟩:=Dl h (vs:=(a.eval x).cells.toList) (by simpa using e1) (fun j u y a b=>e2 j u y (by simpa using a) b)
  obtain ⟨h1,U⟩:=Nr hs hg t h
  exact ⟨.cons e1 e2 h1,U⟩
theorem Xj (S:aF P w I β hp B M w0) {a:Act} {sl:Nat→V} (hs:kK P w I β hp a sl) {G:Nat→V} (hg:gf P G w I) {t ty:TypeId} {ps:Array (Nat × Operand)} {r:R} {rd:List Nat}
  (h:(Rd.aC (cM P t&&(bK P t&&CQ P t)) (lj ((ps.toList.map fun p=>(aN P G ty sl p.2).cells).flatten)
   (vq (s8 (placeOf P t) (zeroCells P t) (ps.toList.map fun p=>(p.1,aN P G ty sl p.2))) fun cs=> .ret ⟨.agg cs,[]⟩))).run C hp=some (r,rd)):
  cU P ((Instr.build t (ps.map fun (i,x)=>(i,a.eval x))).run P w) w I β hp B M w0 r:=by
 obtain ⟨au,h⟩:=aG h
 simp only[aK] at au
 obtain ⟨h1,l,h⟩:=Nr hs hg ty h
 cases hf:s8 (placeOf P t) (zeroCells P t) (ps.toList.map fun p=>(p.1,aN P G ty sl p.2)) with
 | none=>rw[hf] at h;cases h
 | some cs=>
  rw[hf] at h
  obtain rfl:=aM h
  obtain ⟨i,z,hi,hz,h3,h4,h5⟩:=Nj (w:=w) (I:=I) (β:=β) (hp:=hp) au.1
  obtain ⟨cells,f1,f2,f3⟩:=Np (placeOf P t) h1 h3 h5 hf
  have Ns:=au.2.2
  refine .same S (v:= .agg cells) (Xi hi hz (by simpa using f1) au.2.1 (fun fs hu=> ?_) (fun n e hu=> ?_)) (.agg f2 f3)
  ·simpa[CQ,hu] using Ns
  ·simpa[CQ,hu] using Ns
theorem Xk (cD: ∀id blk,hp id=some blk→dS P w I β hp (β id) blk) {x:V} {v:Value} {ys:List V} {fr:List (Nat × an)} {rd:List Nat} {ts:List TypeId} (hv:ao P w I β hp v x)
  (h:(rz P x.cells).run C hp=some ((ys,fr),rd)) (ht:p5 P ts ys=true):
  v.cells.size=x.cells.length∧∀(j:Nat) u y,v.cells.toList[j]? =some u→x.cells[j]? =some y→ao P w I β hp u y:=by
 cases x with
 | agg xs=>
  obtain ⟨cs,rfl,h1,U⟩:=hv.kM
  exact ⟨h1,fun j u y a b=>U j u y (by simpa[Value.cells] using a) b⟩
 | _=>
  simp only[V.cells] at h⊢
  simp only[rz] at h
  obtain ⟨⟨y1,u1⟩,l3,l4,hq,h⟩:=kL h
  obtain ⟨q1,q2⟩:=C8 cD hq hv
  obtain ⟨⟨y2,u2⟩,l5,l6,zB,h⟩:=kL h
  cases zB
  have:=aM h
  cases this
  obtain ⟨tl,tg⟩:=tx ht
  have fq:=tg 0 _ y1 (bO (by rw[tl];exact Nat.one_pos)) rfl
  have bE:=q2 (iD P w I β hp u1) (fun _ h=> .inl h) (fun p hp b h=> .inr ⟨p,hp,h⟩)
  have ho:=bE.pure fq
  have HH:v.cells= #[v]:=by cases ho<;>rfl
  rw[HH]
  refine ⟨rfl,fun j u y hu hy=> ?_⟩
  cases j with
  | zero=>simp at hu hy;subst hu;subst hy;exact hv
  | succ j=>simp at hy
def vW (P:Program) (w:World) (I:Nat→Prop) (e:TypeId) (cells:Array Value) (es:List V):Prop:=
 cells.size=es.length*P.cellsOf e∧∀(i j:Nat) (x:V) (t':TypeId),es[i]? =some x→(aS P e)[j]? =some t'→j<P.cellsOf e→∃v,cells[i*P.cellsOf e+j]? =some v∧Pure P w I t' v (bM P e x j)
theorem vW.set {e:TypeId} {cells:Array Value} {es ys:List V} {i:Nat} {v:Value} (h:vW P w I e cells es) (hi:i<es.length) (hv:v.cells.size=P.cellsOf e) (hy:ys.length=P.cellsOf e)
  (hr: ∀(j:Nat) (t':TypeId) (u:Value) (y:V),(aS P e)[j]? =some t'→v.cells[j]? =some u→ys[j]? =some y→Pure P w I t' u y):
  vW P w I e (v.cells.zipIdx.foldl (fun cs (p:Value × Nat)=>cs.setIfInBounds (i*P.cellsOf e+p.2) p.1) cells) (es.set i (cv P e ys)):=by
 obtain ⟨h1,U⟩:=h
 have hb:i*P.cellsOf e+v.cells.size≤cells.size:=by
  have:(i+1)*P.cellsOf e≤es.length*P.cellsOf e:=dC _ hi
  rw[dh] at this
  omega
 refine ⟨by rw[No,nQ,h1],fun i' j x t' hx ht hj=> ?_⟩
 rw[Nn hb]
 rw[List.getElem?_set] at hx
 by_cases iH:i=i'
 ·subst iH
  rw[aj rfl,aj hi] at hx
  cases hx
  rw[ai (by omega),aj (by omega),show i*P.cellsOf e+j-i*P.cellsOf e=j by omega]
  have h3:j<v.cells.size:=by omega
  have h4:j<ys.length:=by omega
  refine ⟨v.cells[j],kD h3,?_⟩
  rw[qq (bO h4) ht]
  exact hr j t' _ _ ht (kD h3) (bO h4)
 ·rw[ai iH] at hx
  have bC:i'*P.cellsOf e+j<i*P.cellsOf e∨i*P.cellsOf e+v.cells.size≤i'*P.cellsOf e+j:=by
   rcases oW i' i with aO|pn
   ·left
    have:(i'+1)*P.cellsOf e≤i*P.cellsOf e:=dC _ aO
    rw[dh] at this
    omega
   ·right
    have:(i+1)*P.cellsOf e≤i'*P.cellsOf e:=dC _ (by omega)
    rw[dh] at this
    omega
  rcases bC with bC|bC
  ·rw[aj bC];exact U i' j x t' hx ht hj
  ·rw[ai (by omega),ai (by omega)];exact U i' j x t' hx ht hj
theorem Xl {t':TypeId} {v:Value} (fq:eI P t' (vk (o4 P t' v))=true):Pure P w I t' v (vk (o4 P t' v)):=by
 have hc:=ao.const (P:=P) (w:=w) (I:=I) (β:=fun _=>none) (hp:=fun _=>none) t' v
 cases tD:o4 P t' v<;>rw[tD] at fq hc<;>simp only[vk] at fq⊢
 case int k n=>rw[hc.ei];exact Plain.pure (v:= .int k n) (y:= .int k n) rfl fq
 case bool b=>rw[hc.j5];exact Plain.pure (v:= .bool b) (y:= .bool b) rfl fq
 case str l=>obtain ⟨s,e1,e2⟩:=hc.ma;rw[e1];exact Plain.pure (v:= .string s) (y:= .str l) ⟨s,rfl,e2⟩ fq
 case nilS e'=>
  cases hc
  exact Plain.pure (y:= .list e' []) (iB.any fun _=>rfl) fq
 case list e' es=>
  cases hc with
  | list hp=>exact Plain.pure (y:= .list e' es) hp fq
 all_goals (unfold eI at fq;split at fq<;>simp_all)
theorem zC {e:TypeId} (h:lW P e=true): ∃i z,P.info? e=some i∧i.zero=some z∧i.size=P.cellsOf e∧z.cells.size=P.cellsOf e∧
  ∀(j:Nat) (t':TypeId),(aS P e)[j]? =some t'→j<P.cellsOf e→∃v,z.cells[j]? =some v∧Pure P w I t' v (bM P e (cv P e (eB P e)) j):=by
 unfold lW at h
 simp only[aK] at h
 obtain ⟨i,z,h1,U,h3,h4,h5⟩:=j7 h.1
 refine ⟨i,z,h1,U,h3,h4,fun j t' ht hj=> ?_⟩
 obtain ⟨tl,tg⟩:=tx h.2
 have cd:j<(eB P e).length:=by rw[←tl,(j4 h.1).1];exact hj
 have hz:=bO cd
 have fq:=tg j t' _ (by rw[←rO];exact ht) hz
 refine ⟨z.cells[j],kD (by omega),?_⟩
 rw[qq hz ht]
 have tE:(eB P e)[j]=vk (o4 P t' z.cells[j]):=by
  have:(eB P e)[j]? =((zeroCells P e)[j]?).map vk:=by simp[eB]
  rw[hz] at this
  cases hc:(zeroCells P e)[j]? with
  | none=>rw[hc] at this;cases this
  | some y=>
   rw[hc] at this
   simp only[Option.map_some,dR] at this
   rw[h5] at hc
   obtain ⟨t2,v2,a1,a2,rfl⟩:=HI hc
   have Xm:t2=t':=by
    rw[←rO,ht] at a1;exact (c6 a1).symm
   have qj:v2=z.cells[j]:=by
    have Xn:j<z.cells.size:=by omega
    have:z.cells.toList[j]? =some z.cells[j]:=by simp[Xn]
    rw[this] at a2;exact (c6 a2).symm
   rw[this,Xm,qj]
 rw[tE] at fq⊢
 exact Xl fq
end
section
variable {P:Program} {w w':World} {I I':Nat→Prop} {β β':Nat→Option Nat} {hp hp':Nat→Option an} {C:ag} {B:Nat} {M:Nat→Prop} {w0:Start}
theorem vX (S:aF P w I β hp B M w0) {nb cap:Nat} {e:TypeId} {es:List V} {C0:Array Value} (au:cM P e=true) (hn:hp nb=none) (hs:C0.size=cap*P.cellsOf e) (hl:es.length≤cap) (hm:cap≤maxLen)
  (hx: ∀(i j:Nat) (x:V) (t':TypeId),es[i]? =some x→(aS P e)[j]? =some t'→j<P.cellsOf e→∃v,C0[i*P.cellsOf e+j]? =some v∧Pure P w I t' v (bM P e x j)):
  Le P w I β hp (w.alloc (.cells C0 e)) I (aI β nb (some w.heap.size)) (aI hp nb (some (.arr e es false)))∧aF P (w.alloc (.cells C0 e)) I (aI β nb (some w.heap.size)) (aI hp nb (some (.arr e es false))) B M w0∧
  ao P (w.alloc (.cells C0 e)) I (aI β nb (some w.heap.size)) (aI hp nb (some (.arr e es false))) (.slice (some ⟨w.heap.size,0,none⟩) es.length cap) (.whole e nb):=by
 obtain ⟨h1,U⟩:=Hm S (blk:= .arr e es false) (c:=C0) (T:=e) hn (fun b' h=>(c6 (h.flat (by simp))).symm) (fun hle eK cL=> .arr au rfl eK (by rw[hs];exact dC _ hl) (fun h=>by cases h) (fun _=>cL) fun i j x t' a b c=>by
  obtain ⟨v,hv,hp⟩:=hx i j x t' a b c
  exact ⟨v,hv,hp.mono hle.db hle.cb⟩)
 refine ⟨h1,U,.whole (cQ _ _ _) (cQ _ _ _) ?_ hl hm⟩
 rw[mX (heap_alloc_new w (.cells C0 e)),hs]
theorem At.only {b b':Nat} {e e':TypeId} {es aL:List V} {q:Path} (hz: ∀(i j:Nat) x t' e1 l,es[i]? =some x→(aS P e)[j]? =some t'→bM P e x j= .list e1 l→l=[])
  (h:At P w b e es q b' e' aL):q=[]∧b'=b∧e'=e∧aL=es:=by
 cases h with
 | here=>exact ⟨rfl,rfl,rfl,rfl⟩
 | step h1 U h3 h4 h5 h6=>have:=hz _ _ _ _ _ _ U h3 h5;subst this;simp at h6
theorem l9.qg {t:TypeId} {v:Value} {x:V} (h:Pure P w I t v x) (hz: ∀e1 l,x= .list e1 l→l=[]):l9 P w I t v x:=by
 cases h with
 | int h=>exact .fE (by unfold fB;rw[h]) (.int h)
 | bool h=>exact .fE (by unfold fB;rw[h]) (.bool h)
 | str h hl=>exact .fE (by unfold fB;rw[h]) (.str h hl)
 | nil h=>exact .emp h fun _=>rfl
 | emp h=>exact .emp h fun h=>by cases h
 | list g hu hl _ _ _ _=>
  have:=hz _ _ rfl
  subst this
  simp at hl
  subst hl
  exact .emp hu fun h=>by cases h
theorem Xo (S:aF P w I β hp B M w0) {nb cap:Nat} {e:TypeId} {es:List V} {C0:Array Value} (au:cM P e=true) (hn:hp nb=none) (hs:C0.size=cap*P.cellsOf e) (hl:es.length≤cap) (hm:cap≤maxLen)
  (hx: ∀(i j:Nat) (x:V) (t':TypeId),es[i]? =some x→(aS P e)[j]? =some t'→j<P.cellsOf e→∃v,C0[i*P.cellsOf e+j]? =some v∧Pure P w I t' v (bM P e x j))
  (hz: ∀(i j:Nat) x t' e1 l,es[i]? =some x→(aS P e)[j]? =some t'→bM P e x j= .list e1 l→l=[]):
  Le P w I β hp (w.alloc (.cells C0 e)) I (aI β nb (some w.heap.size)) (aI hp nb (some (.nest e es [0,0,0])))∧aF P (w.alloc (.cells C0 e)) I (aI β nb (some w.heap.size)) (aI hp nb (some (.nest e es [0,0,0]))) B M w0∧
  ao P (w.alloc (.cells C0 e)) I (aI β nb (some w.heap.size)) (aI hp nb (some (.nest e es [0,0,0]))) (.slice (some ⟨w.heap.size,0,none⟩) es.length cap) (.whole e nb):=by
 obtain ⟨h1,U⟩:=Hm S (blk:= .nest e es [0,0,0]) (c:=C0) (T:=e) hn (fun b' h=>by
   cases h with
   | root _ h=>exact (c6 h).symm
   | row h ha=>cases h;exact (At.only hz ha).2.1)
  (fun hle eK cL=> .nest rfl (fun q b' e' aL ha=>by
   obtain ⟨rfl,rfl,rfl,rfl⟩:=At.only hz ha
   refine ⟨au,⟨C0,eK,by rw[hs];exact dC _ hl,fun i j x t' a b c=> ?_⟩,cL⟩
   obtain ⟨v,hv,hp⟩:=hx i j x t' a b c
   exact ⟨v,hv,.qg (hp.mono hle.db hle.cb) fun e1 l h=>hz i j x t' e1 l a b h⟩)
   fun q1 q2 b' e1 ch e2 b8 a1 a2=>(At.only hz a1).1.trans (At.only hz a2).1.symm)
 refine ⟨h1,U,.er (cQ _ _ _) (cQ _ _ _) ?_ hl hm⟩
 rw[mX (heap_alloc_new w (.cells C0 e)),hs]
theorem Nt (cD: ∀id blk,hp id=some blk→dS P w I β hp (β id) blk) {a:Act} {sl:Nat→V} (hs:kK P w I β hp a sl) {G:Nat→V} (hg:gf P G w I) {e:TypeId} {len:Nat}: ∀{l:List (Nat × Operand)} {ps:List (Nat × V)} {upd:List (Nat × an)} {rd:List Nat},
  (yU P e len (l.map fun p=>(p.1,aN P G e sl p.2))).run C hp=some ((ps,upd),rd)→cM P e=true→(∀p∈upd,zh hp p)∧∀I':Nat→Prop,(∀b,I b→I' b)→(∀p∈upd,∀b,rN P w β hp p.1 b→I' b)→
   ∀(cells:Array Value) (es:List V),es.length=len→vW P w I' e cells es→∃po,Instr.fill (fun i=>some (i*P.cellsOf e,P.cellsOf e)) cells (l.map fun p=>(p.1,a.eval p.2))=some po∧vW P w I' e po (yT es ps)∧(yT es ps).length=len
 | [],ps,upd,rd,h,_=>by
  cases h
  exact ⟨by simp,fun I' _ _ cells es hl he=>⟨cells,by simp[Instr.fill],he,hl⟩⟩
 | (i,x)::l,ps,upd,rd,h,au=>by
  simp only[cz,yU] at h
  obtain ⟨⟨ys,u1⟩,l1,l2,h1,h⟩:=kL h
  obtain ⟨hc,h⟩:=aG h
  obtain ⟨⟨ps',u2⟩,l3,l4,U,h⟩:=kL h
  have:=aM h
  cases this
  simp only[aK,jQ] at hc
  obtain ⟨hi,fq⟩:=hc
  obtain ⟨tl,tg⟩:=tx fq
  have vN:=hs.ev hg e x
  obtain ⟨v1,v2⟩:=Xk cD vN h1 fq
  obtain ⟨k1,k2,k3⟩:=Hk cD h1 (vs:=(a.eval x).cells.toList) (by simpa using v1) v2
  obtain ⟨m1,m2⟩:=Nt cD hs hg U au
  refine ⟨fun p hp=> ?_,fun I' i1 i2 cells es hl he=> ?_⟩
  ·rcases ez.1 hp with h|h
   ·exact k2 p h
   ·exact m1 p h
  ·have bE:=k3 I' i1 (fun p hp=>i2 p (ez.2 (.inl hp)))
   have aX:=(j4 au).1
   have tB:ys.length=P.cellsOf e:=by rw[←tl,aX]
   have M6:(a.eval x).cells.size=P.cellsOf e:=by rw[v1,←k1,tB]
   have gN:=he.set (i:=i) (ys:=ys) (by omega) M6 tB (fun j t' u y ht hu hy=>by
    exact (bE j u y (by simpa using hu) hy).pure (tg j t' y (by rw[←rO];exact ht) hy))
   obtain ⟨po,f1,f2,f3⟩:=m2 I' i1 (fun p hp=>i2 p (ez.2 (.inr hp))) _ (es.set i (cv P e ys)) (by simpa using hl) gN
   refine ⟨po,?_,f2,f3⟩
   have hb:i*P.cellsOf e+P.cellsOf e≤cells.size:=by
    rw[he.1,hl]
    have:(i+1)*P.cellsOf e≤len*P.cellsOf e:=dC _ hi
    rw[dh] at this
    omega
   simp only[cz,Instr.fill]
   rw[ai (by simp;omega)]
   exact f1
theorem Nu {z:Array Value} {n k:Nat} (hk:k<n) (hz:0<z.size):((Array.range n).map (z[· %z.size]!))[k]? =z[k %z.size]? :=by
 have hm:k %z.size<z.size:=Nat.mod_lt _ hz
 simp[hk,hm]
theorem Dy {e:TypeId} (h:lW P e=true) {i:TypeInfo} {z:Value} (hi:P.info? e=some i) (hz:i.zero=some z) (n m:Nat) (lg:n≤m):
  ∀(k j:Nat) (x:V) (t':TypeId),(List.replicate n (cv P e (eB P e)))[k]? =some x→(aS P e)[j]? =some t'→j<P.cellsOf e→
   ∃v,((Array.range (m*P.cellsOf e)).map (z.cells[· %z.cells.size]!))[k*P.cellsOf e+j]? =some v∧Pure P w I t' v (bM P e x j):=by
 intro k j x t' hx ht hj
 obtain ⟨i2,z2,h1,U,h3,h4,h5⟩:=zC (w:=w) (I:=I) h
 rw[hi] at h1;cases h1
 rw[hz] at U;cases U
 rw[List.getElem?_replicate] at hx
 split at hx
 ·rename_i hk
  cases hx
  obtain ⟨v,hv,hp⟩:=h5 j t' ht hj
  refine ⟨v,?_,hp⟩
  have hb:k*P.cellsOf e+j<m*P.cellsOf e:=by
   have:(k+1)*P.cellsOf e≤m*P.cellsOf e:=dC _ (by omega)
   rw[dh] at this
   omega
  rw[Nu hb (by omega),h4,show (k*P.cellsOf e+j) %P.cellsOf e=j by rw[nR,Nat.mul_add_mod];exact Nat.mod_eq_of_lt hj]
  exact hv
 ·cases hx
theorem Xp {P:Program} (w:World) (t e:TypeId) (len:Nat) (parts:Array (Nat × Value)) (cells:Array Value) (ie:TypeInfo) (z:Value)
  (hu:P.underlying t=some (.slice e)) (jz:P.info? e=some ie) (hz:ie.zero=some z) (Xq: ¬len*ie.size>2^24)
  (h:Instr.fill (fun i=>some (i*ie.size,ie.size)) ((Array.range (len*ie.size)).map (z.cells[· %z.cells.size]!)) parts.toList=some cells):
  (Instr.buildSlice t len parts).run P w= .ok (.slice (some ⟨w.heap.size,0,none⟩) len len) (w.alloc (.cells cells e)):=by
 by_cases lg:len*ie.size=0
 ·have h0: ∀g:Nat→Value,(Array.range (len*ie.size)).map g= #[]:=by intro g;exact Array.eq_empty_of_size_eq_zero (by simp[lg])
  have hp: ∀(u:Array Value),(Pure.pure u:Sem (Array Value)).run P w= .ok u w:=fun _=>rfl
  rw[h0] at h
  simp only[Instr.buildSlice,Sem.run_bind,run_underlying hu,Result.andThen_ok,sizeOf,typeInfo,jz]
  have h1:(Array.range (len*ie.size)).map (fun _:Nat=>(default:Value))= #[]:=h0 _
  have hs: ¬16777216<len*ie.size:=by omega
  simp[jz,hs,lg]
  simp only[lg] at h1
  simp[h1,h,newRow]
 ·exact run_buildSlice w t e len parts cells ie z hu jz hz Xq lg h
theorem Xr (S:aF P w I β hp B M w0) {a:Act} {sl:Nat→V} (hs:kK P w I β hp a sl) {G:Nat→V} (hg:gf P G w I) {t e:TypeId} {len nb:Nat} {ps:Array (Nat × Operand)} {r:R} {rd:List Nat} (hu:P.underlying t=some (.slice e))
  (h:(Rd.aC (lW P e&&Nat.ble (len*P.cellsOf e) (2^24)) ((yU P e len (ps.toList.map fun p=>(p.1,aN P G e sl p.2))).bind fun r=>
    iZ nb (.arr e (yT (List.replicate len (cv P e (eB P e))) r.1) false) (.whole e nb) r.2)).run C hp=some (r,rd)):
  cU P ((Instr.buildSlice t len (ps.map fun (i,x)=>(i,a.eval x))).run P w) w I β hp B M w0 r:=by
 obtain ⟨hc,h⟩:=aG h
 simp only[aK,dx] at hc
 obtain ⟨cN,rJ⟩:=hc
 have au:cM P e=true:=by
  unfold lW at cN;simp only[aK] at cN;exact cN.1
 obtain ⟨⟨pv,upd⟩,l1,l2,h1,h⟩:=kL h
 obtain ⟨hn,rfl⟩:=m9 h
 obtain ⟨m1,m2⟩:=Nt S.h.rel hs hg h1 au
 obtain ⟨qu,S1⟩:=zl S m1
 obtain ⟨i,z,hi,hz,h3,h4,_⟩:=zC (w:=w) (I:=I) cN
 have lq:=(j4 au).2
 have h0:vW P w (iD P w I β hp upd) e ((Array.range (len*P.cellsOf e)).map (z.cells[· %z.cells.size]!)) (List.replicate len (cv P e (eB P e))):=
  ⟨by simp,Dy cN hi hz len len (bY _)⟩
 obtain ⟨cells,f1,f2,f3⟩:=m2 (iD P w I β hp upd) (fun _ h=> .inl h) (fun p hp b h=> .inr ⟨p,hp,h⟩) _ _ (by simp) h0
 have j8:bL hp upd nb=none:=by
  rcases tp (hp:=hp) (l:=upd) (id:=nb) with h|⟨b',hm,_⟩
  ·exact h.trans hn
  ·obtain ⟨e1,ch,_,h5⟩:=m1 _ hm
   simp only[hn] at h5
   rcases h5 with ⟨_,h5⟩|⟨_,h5⟩<;>cases h5
 have oc:len≤maxLen:=by
  have:len*1≤len*P.cellsOf e:=sV _ lq
  simp only[maxLen]
  omega
 obtain ⟨n1,n2,n3⟩:=vX S1 (cap:=len) au j8 (by rw[f2.1,f3]) (by rw[f3];exact bY _) oc f2.2
 have cR:=Xp w t e len (ps.map fun (i,x)=>(i,a.eval x)) cells i z hu hi hz (by rw[h3];omega) (by rw[h3];simpa using f1)
 refine ⟨_,_,_,_,cR,qu.trans n1,n2,?_⟩
 rw[f3] at n3
 exact n3
theorem Nw (S:aF P w I β hp B M w0) {t e:TypeId} {nb:Nat} {kl kc:IntKind} {n m:Int} {r:R} {rd:List Nat} (hu:P.underlying t=some (.slice e))
  (h:(Rd.aC (lW P e&&(decide (0≤n)&&(decide (n≤m)&&Nat.ble (m.toNat*P.bytesOf e) bU)))
    (iZ nb (.arr e (List.replicate n.toNat (cv P e (eB P e))) false) (.whole e nb) [])).run C hp=some (r,rd)):
  cU P ((Instr.makeSlice t (.int kl n) (.int kc m)).run P w) w I β hp B M w0 r:=by
 obtain ⟨hc,h⟩:=aG h
 simp only[aK,dx,ec] at hc
 obtain ⟨cN,h0,lg,dO⟩:=hc
 have au:cM P e=true:=by
  unfold lW at cN;simp only[aK] at cN;exact cN.1
 obtain ⟨hn,rfl⟩:=m9 h
 obtain ⟨i,z,hi,hz,h3,h4,_⟩:=zC (w:=w) (I:=I) cN
 have mf:P.bytesOf e=i.bytes:=by simp[Program.bytesOf,hi]
 have HJ:m≤9223372036854775807:=by
  have h1:m.toNat*1≤m.toNat*P.bytesOf e:=sV _ (vE au)
  simp only[bU] at dO
  omega
 have cR:=run_make (P:=P) w t e i z hu hi hz kl kc n m h0 lg (by
  rw[mf] at dO
  simp only[bU] at dO
  have:(i.bytes:Int)*m=((m.toNat*i.bytes:Nat):Int):=by
   rw[Int.natCast_mul,Int.toNat_of_nonneg (by omega),Int.mul_comm]
  rw[this]
  omega) HJ
 have hlen:(List.replicate n.toNat (cv P e (eB P e))).length=n.toNat:=by simp
 obtain ⟨n1,n2,n3⟩:=vX S (cap:=m.toNat) (es:=List.replicate n.toNat (cv P e (eB P e))) (C0:=madeCells z.cells (m.toNat*i.size)) au hn (by rw[size_madeCells,h3]) (by rw[hlen];omega) (by simp only[maxLen];omega)
  (by rw[h3];exact Dy cN hi hz n.toNat m.toNat (by omega))
 refine ⟨_,_,_,_,cR,n1,n2,?_⟩
 rw[hlen] at n3
 exact n3
theorem HK: ∀{l:List V} {j:Nat} {e1:TypeId} {k:List V},y7 l=true→V.nth l j= .list e1 k→k=[]
 | [],j,e1,k,_,h=>by cases j<;>cases h
 | x::l,0,e1,k,hn,h=>by
  simp only[V.nth] at h
  subst h
  cases k with
  | nil=>rfl
  | cons _ _=>cases hn
 | x::l,j+1,e1,k,hn,h=>by
  refine HK (l:=l) (j:=j) ?_ h
  cases x with
  | list e2 k2=>
   cases k2 with
   | nil=>exact hn
   | cons _ _=>cases hn
  | _=>exact hn
theorem Xs {e:TypeId} {n:Nat} (au:cM P e=true) (h:y7 (eB P e)=true):
  ∀(i j:Nat) x t' e1 l,(List.replicate n (cv P e (eB P e)))[i]? =some x→(aS P e)[j]? =some t'→bM P e x j= .list e1 l→l=[]:=by
 intro i j x t' e1 l hx ht hl
 have:=List.eq_of_mem_replicate (jo hx)
 subst this
 unfold bM cv at hl
 cases ha:bK P e with
 | true=>rw[ha] at hl;exact HK h hl
 | false=>rw[ha] at hl;exact HK h hl
theorem Xt (S:aF P w I β hp B M w0) {t e:TypeId} {nb:Nat} {kl kc:IntKind} {n m:Int} {r:R} {rd:List Nat} (hu:P.underlying t=some (.slice e))
  (h:(Rd.aC (lW P e&&(decide (0≤n)&&(decide (n≤m)&&Nat.ble (m.toNat*P.bytesOf e) bU)))
    (Rd.aC (y7 (eB P e)) (iZ nb (.nest e (List.replicate n.toNat (cv P e (eB P e))) [0,0,0]) (.whole e nb) []))).run C hp=some (r,rd)):
  cU P ((Instr.makeSlice t (.int kl n) (.int kc m)).run P w) w I β hp B M w0 r:=by
 obtain ⟨hc,h⟩:=aG h
 simp only[aK,dx,ec] at hc
 obtain ⟨cN,h0,lg,dO⟩:=hc
 have au:cM P e=true:=by
  unfold lW at cN;simp only[aK] at cN;exact cN.1
 obtain ⟨Xu,h⟩:=aG h
 obtain ⟨hn,rfl⟩:=m9 h
 obtain ⟨i,z,hi,hz,h3,h4,_⟩:=zC (w:=w) (I:=I) cN
 have mf:P.bytesOf e=i.bytes:=by simp[Program.bytesOf,hi]
 have HJ:m≤9223372036854775807:=by
  have h1:m.toNat*1≤m.toNat*P.bytesOf e:=sV _ (vE au)
  simp only[bU] at dO
  omega
 have cR:=run_make (P:=P) w t e i z hu hi hz kl kc n m h0 lg (by
  rw[mf] at dO
  simp only[bU] at dO
  have:(i.bytes:Int)*m=((m.toNat*i.bytes:Nat):Int):=by
   rw[Int.natCast_mul,Int.toNat_of_nonneg (by omega),Int.mul_comm]
  rw[this]
  omega) HJ
 have hlen:(List.replicate n.toNat (cv P e (eB P e))).length=n.toNat:=by simp
 obtain ⟨n1,n2,n3⟩:=Xo S (cap:=m.toNat) (es:=List.replicate n.toNat (cv P e (eB P e))) (C0:=madeCells z.cells (m.toNat*i.size)) au hn (by rw[size_madeCells,h3]) (by rw[hlen];omega) (by simp only[maxLen];omega)
  (by rw[h3];exact Dy cN hi hz n.toNat m.toNat (by omega))
  (Xs au Xu)
 refine ⟨_,_,_,_,cR,n1,n2,?_⟩
 rw[hlen] at n3
 exact n3
theorem Pure.one {t:TypeId} {v:Value} {x:V} (h:Pure P w I t v x):v.oneCell'=true:=by cases h<;>rfl
structure Row (P:Program) (w:World) (I:Nat→Prop) (e:TypeId) (v:Value) (xs:List V) (a:Addr) (c:Nat) (news:List Value):Prop where
 val:v= .slice (some a) xs.length c
 len:news.length=xs.length*P.cellsOf e
 cell: ∀(j:Nat) u,news[j]? =some u→w.cell? (a.add j)=some u
 el: ∀(i j:Nat) (x:V) (t':TypeId),xs[i]? =some x→(aS P e)[j]? =some t'→j<P.cellsOf e→∃u,news[i*P.cellsOf e+j]? =some u∧Pure P w I t' u (bM P e x j)
theorem Row.one {e:TypeId} {v:Value} {xs:List V} {a:Addr} {c:Nat} {news:List Value} (h:Row P w I e v xs a c news) (au:cM P e=true): ∀u∈news,u.oneCell'=true:=by
 intro u hu
 obtain ⟨k,hk⟩:=rp hu
 have ik:=(bu.1 hk).1
 have lq:=(j4 au).2
 rw[h.len] at ik
 have hi:k/P.cellsOf e<xs.length:=Nat.div_lt_of_lt_mul (by rw[nR];exact ik)
 have hj:k %P.cellsOf e<P.cellsOf e:=Nat.mod_lt _ lq
 have gl:k %P.cellsOf e<(aS P e).length:=by rw[fp au];exact hj
 obtain ⟨u',fG,hp⟩:=h.el (k/P.cellsOf e) (k %P.cellsOf e) _ _ (bO hi) (bO gl) hj
 rw[Nat.div_add_mod'] at fG
 rw[hk] at fG
 cases fG
 exact hp.one
theorem Nx {e:TypeId} {es:List V} {b:Nat} {Ca:Array Value} {off len cap o:Nat} (hh:w.heap[b]? =some (.cells Ca e (0,0))) (hs:es.length*P.cellsOf e≤Ca.size)
  (hx: ∀(i j:Nat) (x:V) (t':TypeId),es[i]? =some x→(aS P e)[j]? =some t'→j<P.cellsOf e→∃v,Ca[i*P.cellsOf e+j]? =some v∧Pure P w I t' v (bM P e x j))
  (kJ:off+len≤es.length) (ho:0<len→o=off*P.cellsOf e):
  Row P w I e (.slice (some ⟨b,o,none⟩) len cap) ((es.drop off).take len) ⟨b,o,none⟩ cap ((Ca.toList.drop (off*P.cellsOf e)).take (len*P.cellsOf e)):=by
 have hlen:((es.drop off).take len).length=len:=by simp;omega
 have hb:(off+len)*P.cellsOf e≤Ca.size:=la (dC _ kJ) hs
 rw[dh] at hb
 refine ⟨by rw[hlen],by rw[hlen];simp;omega,fun j u hj=> ?_,fun i j x t' gj ht hj=> ?_⟩
 ·have cd:=(bu.1 hj).1
  have HL:j<len*P.cellsOf e:=by
   rw[eP] at cd;omega
  have jx:0<len:=by
   rcases Nat.eq_zero_or_pos len with h|h
   ·rw[h] at HL;simp at HL
   ·exact h
  rw[eO HL,gY] at hj
  rw[m7,cell?_cells hh,ho jx]
  simpa using hj
 ·have hi:i<len:=by rw[←hlen];exact (bu.1 gj).1
  rw[eO hi,gY] at gj
  obtain ⟨u,hu,hp⟩:=hx (off+i) j x t' gj ht hj
  refine ⟨u,?_,hp⟩
  have:i*P.cellsOf e+j<len*P.cellsOf e:=by
   have:(i+1)*P.cellsOf e≤len*P.cellsOf e:=dC _ hi
   rw[dh] at this
   omega
  rw[eO this,gY]
  rw[dh] at hu
  rw[←nP]
  simpa using hu
theorem Dz (cD: ∀id blk,hp id=some blk→dS P w I β hp (β id) blk) {e:TypeId} {v:Value} {x:V} {k:List V→Rd R} {r:R} {rd:List Nat} (au:cM P e=true) (hv:ao P w I β hp v x)
  (h:(rD e x k).run C hp=some (r,rd)): ∃xs,(((∃a,v= .slice a 0 0)∧xs=[])∨∃a c news,Row P w I e v xs a c news)∧∃l,(k xs).run C hp=some (r,l):=by
 cases hv with
 | list hp'=>
  obtain ⟨hc,U⟩:=aG h
  clear h
  rw[aR] at hc
  subst hc
  cases hp' with
  | nil=>exact ⟨[],.inl ⟨⟨_,rfl⟩,rfl⟩,rd,U⟩
  | @emp a cap=>exact ⟨[],.inr ⟨a,cap,[],⟨rfl,by simp,fun j u hj=>by simp at hj,fun i j x t' hx _ _=>by simp at hx⟩⟩,rd,U⟩
  | @list b o len cap es g hl b9 hI fU hx=>
   refine ⟨_,.inr ⟨⟨b,o,none⟩,cap,(List.range (len*P.cellsOf e)).map fun k=>g (k/P.cellsOf e) (k %P.cellsOf e),⟨by rw[hl],by rw[hl];simp,fun j u hj=> ?_,fun i j x t' gj ht hj=> ?_⟩⟩,rd,U⟩
   ·obtain ⟨cd,ig⟩:=bu.1 hj
    simp at cd ig
    have lq:=(j4 au).2
    have hi:j/P.cellsOf e<len:=Nat.div_lt_of_lt_mul (by rw[nR];exact cd)
    have fW:j %P.cellsOf e<P.cellsOf e:=Nat.mod_lt _ lq
    rw[m7,←ig]
    have:=fU (j/P.cellsOf e) (j %P.cellsOf e) hi fW
    rwa [Nat.div_add_mod'] at this
   ·have hi:i<len:=by rw[←hl];exact (bu.1 gj).1
    have hb:i*P.cellsOf e+j<len*P.cellsOf e:=by
     have:(i+1)*P.cellsOf e≤len*P.cellsOf e:=dC _ hi
     rw[dh] at this
     omega
    refine ⟨g i j,?_,hx i j x t' gj ht⟩
    have e1:(i*P.cellsOf e+j)/P.cellsOf e=i:=by
     rw[nR,Nat.mul_add_div (j4 au).2,Nat.div_eq_of_lt hj,Nat.add_zero]
    have e2:(i*P.cellsOf e+j) %P.cellsOf e=j:=by
     rw[nR,Nat.mul_add_mod];exact Nat.mod_eq_of_lt hj
    simp[hb,e1,e2]
 | nilS=>
  obtain ⟨hc,h⟩:=aG h
  exact ⟨[],.inl ⟨⟨_,rfl⟩,rfl⟩,rd,h⟩
 | dF ab hb=>
  obtain ⟨l,h⟩:=run_get h
  simp only[ab] at h
  obtain ⟨hc,h⟩:=aG h
  exact ⟨[],.inl ⟨⟨_,rfl⟩,rfl⟩,l,h⟩
 | @whole e' id es fz b cap ab hb aX b9 hm=>
  obtain ⟨l,h⟩:=run_get h
  simp only[ab] at h
  obtain ⟨hc,U⟩:=aG h
  clear h
  simp only[aK,aR] at hc
  obtain ⟨rfl,_⟩:=hc
  have hr:=cD _ _ ab
  cases hr with
  | dG aB=>rw[aB] at hb;cases hb
  | arr Hq aB hh hs hf eg hx=>
   rw[hb] at aB;cases aB
   have:=Nx (cap:=cap) (off:=0) (len:=es.length) (o:=0) hh hs hx (by omega) (fun _=>by simp)
   exact ⟨es,.inr ⟨_,_,_,by simpa using this⟩,l,U⟩
 | fF ab hb=>
  obtain ⟨l,h⟩:=run_get h
  simp only[ab] at h
  obtain ⟨hc,h⟩:=aG h
  exact ⟨[],.inl ⟨⟨_,rfl⟩,rfl⟩,l,by simpa using h⟩
 | @sub e' id off len es fz b o cap ab hb kJ b9 ho=>
  obtain ⟨l,h⟩:=run_get h
  simp only[ab] at h
  obtain ⟨hc,U⟩:=aG h
  clear h
  simp only[aK,aR] at hc
  obtain ⟨rfl,_⟩:=hc
  have hr:=cD _ _ ab
  cases hr with
  | dG aB=>rw[aB] at hb;cases hb
  | arr Hq aB hh hs hf eg hx=>
   rw[hb] at aB;cases aB
   exact ⟨_,.inr ⟨_,_,_,Nx (cap:=cap) hh hs hx kJ ho⟩,l,U⟩
 | ef ab=>
  obtain ⟨l,h⟩:=run_get h
  simp only[ab] at h
  cases h
 | fT ab=>
  obtain ⟨l,h⟩:=run_get h
  simp only[ab] at h
  cases h
 | undef=>cases h
 | int=>cases h
 | bool=>cases h
 | str=>cases h
 | agg=>cases h
 | bn=>cases h
 | dk=>cases h
 | fn=>cases h
 | pref=>cases h
 | jY=>cases h
 | ptr=>cases h
 | ju=>cases h
 | jv=>cases h
 | row=>cases h
 | cA=>cases h
 | dy=>cases h
 | ia=>cases h
 | ct=>cases h
 | er ab=>
  obtain ⟨l,h⟩:=run_get h
  simp only[ab] at h
  cases h
theorem Ny {t ty e:TypeId} {i:TypeInfo} (ht:P.underlying t=some (.slice e)) (hi:P.info? e=some i) (a:Option Addr) (n cap:Nat) (x:Value) (hx: ∃a c,x= .slice a 0 c) (hn:n≤cap):
  (Builtin.append_ #[t,t] ty #[.slice a n cap,x]).run P w= .ok (.slice a n cap) w:=by
 obtain ⟨a',c,rfl⟩:=hx
 cases a' with
 | none=>cases a<;>simp[Builtin.append_,run_underlying ht,sizeOf,typeInfo,hi,Builtin.lenOf,Builtin.firstCells,hn,storeCells]
 | some a'=>cases a<;>simp[Builtin.append_,run_underlying ht,sizeOf,typeInfo,hi,Builtin.lenOf,Builtin.firstCells,hn,storeCells,loadCells,loadCellsFrom]
theorem DA {e:TypeId} {es xs:List V} {n:Nat} {c:List Value} {news:List Value} (hn:es.length=n)
  (h1: ∀(i j:Nat) (x:V) (t':TypeId),es[i]? =some x→(aS P e)[j]? =some t'→j<P.cellsOf e→∃v,c[i*P.cellsOf e+j]? =some v∧Pure P w I t' v (bM P e x j))
  (U: ∀(i j:Nat) (x:V) (t':TypeId),xs[i]? =some x→(aS P e)[j]? =some t'→j<P.cellsOf e→∃v,news[i*P.cellsOf e+j]? =some v∧Pure P w I t' v (bM P e x j))
  (hb:n*P.cellsOf e≤c.length) (rest:List Value):
  ∀(i j:Nat) (x:V) (t':TypeId),(es++xs)[i]? =some x→(aS P e)[j]? =some t'→j<P.cellsOf e→∃v,(c.take (n*P.cellsOf e)++news++rest)[i*P.cellsOf e+j]? =some v∧Pure P w I t' v (bM P e x j):=by
 intro i j x t' hx ht hj
 have hl:(c.take (n*P.cellsOf e)).length=n*P.cellsOf e:=by simp;omega
 by_cases hi:i<n
 ·rw[iu (by omega)] at hx
  obtain ⟨v,hv,hp⟩:=h1 i j x t' hx ht hj
  have:i*P.cellsOf e+j<n*P.cellsOf e:=by
   have:(i+1)*P.cellsOf e≤n*P.cellsOf e:=dC _ hi
   rw[dh] at this
   omega
  exact ⟨v,by rw[cq,iu (by omega),eO this];exact hv,hp⟩
 ·rw[iv (by omega),hn] at hx
  obtain ⟨v,hv,hp⟩:=U (i-n) j x t' hx ht hj
  have gO:i-n<xs.length:=(bu.1 hx).1
  have e1:i*P.cellsOf e+j-n*P.cellsOf e=(i-n)*P.cellsOf e+j:=by
   rw[Nat.sub_mul]
   have:n*P.cellsOf e≤i*P.cellsOf e:=dC _ (by omega)
   omega
  have h3:(i-n)*P.cellsOf e+j<news.length:=(bu.1 hv).1
  refine ⟨v,?_,hp⟩
  have h4:n*P.cellsOf e≤i*P.cellsOf e+j:=by
   have:n*P.cellsOf e≤i*P.cellsOf e:=dC _ (by omega)
   omega
  rw[cq,iv (by omega),hl,e1,iu h3]
  exact hv
theorem Pure.drew {t:TypeId} {v:Value} {x:V} (h:Pure P w I t v x):Pure P w.drew I t v x:=Pure.mono (w:=w) (w':=w.drew) (fun _ h=>h) (fun _ _=>rfl) h
theorem Xv (w:World) (t ty e:TypeId) (i:TypeInfo) (z:Value) (ht:P.underlying t=some (.slice e)) (hi:P.info? e=some i) (hz:i.zero=some z)
  (a0:Option Addr) (a:Addr) (n c:Nat) (news:List Value) (hl:news.length=n*i.size) (DB: ∀j v,news[j]? =some v→w.cell? (a.add j)=some v)
  (h0:0<n) (DC:(n:Int)≤9223372036854775807) (DD:n*i.bytes≤281474976710656):
  (Builtin.append_ #[t,t] ty #[.slice a0 0 0,.slice (some a) n c]).run P w=
   .ok (.slice (some ⟨w.heap.size,0,none⟩) n (grownCap w n 0 e)) (w.drew.alloc (.cells (news.toArray++Builtin.zeroCells z.cells (grownCap w n 0 e-n)) e)):=by
 cases a0 with
 | none=>exact run_append_nil w t ty e i z ht hi hz a n c news hl DB h0 DC DD
 | some b=>
  have:=run_append_grow (P:=P) w t ty e i z ht hi hz b 0 0 [] (by simp) (by simp) a n c news hl DB (by omega) (by omega) (by rw[gE,nextslicecap_zero h0];omega)
  simpa using this
theorem HM (S:aF P w I β hp B M w0) {t ty e:TypeId} {nb:Nat} {x:Value} {xs:List V} (hu:P.underlying t=some (.slice e)) (au:cM P e=true) (hn:hp nb=none)
  (dO:xs.length*P.bytesOf e≤bU) {a0:Option Addr} (hx:((∃a,x= .slice a 0 0)∧xs=[])∨∃a c news,Row P w I e x xs a c news):
  ∃v w' β',(Builtin.append_ #[t,t] ty #[.slice a0 0 0,x]).run P w= .ok v w'∧Le P w I β hp w' I β' (aI hp nb (some (.arr e xs false)))∧aF P w' I β' (aI hp nb (some (.arr e xs false))) B M w0∧
   ao P w' I β' (aI hp nb (some (.arr e xs false))) v (.whole e nb):=by
 obtain ⟨i,z,hi,hz,h3,h4,_⟩:=j7 au
 have tF:=vE au
 have mf:P.bytesOf e=i.bytes:=by simp[Program.bytesOf,hi]
 have hlen:xs.length≤2^45:=by
  have:xs.length*1≤xs.length*P.bytesOf e:=sV _ tF
  simp only[bU] at dO
  omega
 have empty:xs=[]→(∃a c,x= .slice a 0 c)→∃v w' β',(Builtin.append_ #[t,t] ty #[.slice a0 0 0,x]).run P w= .ok v w'∧Le P w I β hp w' I β' (aI hp nb (some (.arr e xs false)))∧aF P w' I β' (aI hp nb (some (.arr e xs false))) B M w0∧
   ao P w' I β' (aI hp nb (some (.arr e xs false))) v (.whole e nb):=by
  intro gm HN
  subst gm
  obtain ⟨a1,a2⟩:=Db S e hn
  exact ⟨_,_,_,Ny hu hi a0 0 0 x HN (bY _),a1,a2,.dF (cQ _ _ _) (cQ _ _ _)⟩
 rcases hx with ⟨⟨_,rfl⟩,rfl⟩|⟨a,c,news,hr⟩
 ·exact empty rfl ⟨_,_,rfl⟩
 ·by_cases h0:xs.length=0
  ·have gm:xs=[]:=lb h0
   refine empty gm ⟨some a,c,?_⟩
   rw[hr.val,h0]
  ·have cR:=Xv (P:=P) w t ty e i z hu hi hz a0 a xs.length c news (by rw[hr.len,h3]) hr.cell (by omega) (by omega) (by rw[←mf];simp only[bU] at dO;omega)
   have pn:=grownCap_ge w xs.length 0 e
   have tG:grownCap w xs.length 0 e≤maxLen:=grownCap_le_maxLen w xs.length 0 e (by simp only[maxLen];omega)
   obtain ⟨n1,n2,n3⟩:=vX S.drew (nb:=nb) (cap:=grownCap w xs.length 0 e) (es:=xs) (C0:=news.toArray++Builtin.zeroCells z.cells (grownCap w xs.length 0 e-xs.length)) au hn
    (by simp only[Cr,pV,size_zeroCells,h4,hr.len,←dh];congr 1;omega) pn tG
    (fun i' j y t' hy ht hj=>by
     obtain ⟨u,fG,hp⟩:=hr.el i' j y t' hy ht hj
     have aO:=(bu.1 fG).1
     refine ⟨u,?_,Pure.drew hp⟩
     rw[Array.getElem?_append_left (by simpa using aO)]
     simpa using fG)
   rw[hr.val]
   exact ⟨_,_,_,cR,(Le.drew w I β hp).trans n1,n2,n3⟩
theorem Xw (S:aF P w I β hp B M w0) {t ty e:TypeId} {nb:Nat} {s x:Value} {sv xv:V} {r:R} {rd:List Nat} (hu:P.underlying t=some (.slice e)) (hs:ao P w I β hp s sv) (hx:ao P w I β hp x xv)
  (h:(vp P nb e sv xv).run C hp=some (r,rd)):cU P ((Builtin.append_ #[t,t] ty #[s,x]).run P w) w I β hp B M w0 r:=by
 unfold vp at h
 obtain ⟨au,h⟩:=aG h
 obtain ⟨xs,lF,l0,h⟩:=Dz S.h.rel au hx h
 cases sv with
 | nilS e'=>
  obtain ⟨hc,h⟩:=aG h
  simp only[aK,aR,dx] at hc
  obtain ⟨hn,rfl⟩:=m9 h
  obtain ⟨a0,rfl⟩: ∃a0,s= .slice a0 0 0:=by cases hs;exact ⟨_,rfl⟩
  obtain ⟨v,w',β',a1,a2,a3,a4⟩:=HM (ty:=ty) S hu au hn hc.2 lF
  exact ⟨v,w',I,β',a1,a2,a3,a4⟩
 | whole e' id=>
  obtain ⟨l,h⟩:=run_get h
  cases ab:hp id with
  | none=>rw[ab] at h;cases h
  | some blk=>
   rw[ab] at h
   cases blk with
   | dead=>cases h
   | var _=>cases h
   | nest _ _ _=>cases h
   | map _ _=>cases h
   | arr dD es fz=>
    cases fz with
    | true=>cases h
    | false=>
     obtain ⟨hc,h⟩:=aG h
     obtain ⟨hn,rfl⟩:=m9 h
     simp only[aK,aR,dx] at hc
     obtain ⟨HO,HP,dO⟩:=hc
     subst HO
     subst HP
     have bC:nb≠id:=fun e=>by rw[e,ab] at hn;cases hn
     obtain ⟨k1,k2⟩:=Dc S ab
     have j8:aI hp id (some an.dead) nb=none:=by rw[eh _ _ bC];exact hn
     cases hs with
     | ef hd=>rw[ab] at hd;cases hd
     | er hd=>rw[ab] at hd;cases hd
     | dF hd hb=>
      rw[ab] at hd
      cases hd
      simp only[List.length_nil,gE] at dO
      have Xx:((∃a,x= .slice a 0 0)∧xs=[])∨∃a c news,Row P w I e x xs a c news:=lF
      obtain ⟨v,w',β',a1,a2,a3,a4⟩:=HM (ty:=ty) k2 hu au j8 dO Xx
      exact ⟨v,w',I,β',a1,k1.trans a2,a3,a4⟩
     | @whole _ _ aL mT b cap hd hb aX b9 hm=>
      rw[ab] at hd
      cases hd
      have hr:=S.h.rel id _ ab
      cases hr with
      | dG aB=>rw[aB] at hb;cases hb
      | @arr _ _ _ b' Ca _ aB hh pq hf eg mg=>
       rw[hb] at aB
       cases aB
       obtain ⟨i,z,hi,hz,h3,h4,_⟩:=j7 au
       have tF:=vE au
       have mf:P.bytesOf e=i.bytes:=by simp[Program.bytesOf,hi]
       have hlen:es.length+xs.length≤2^45:=by
        have:(es.length+xs.length)*1≤(es.length+xs.length)*P.bytesOf e:=sV _ tF
        simp only[bU] at dO
        omega
       rw[mX hh] at aX
       have qm: ∀aD blk',aI hp id (some an.dead) aD=some blk'→¬bw P w (β aD) blk' b:=by
        intro aD blk' h1 U
        by_cases iH:aD=id
        ·subst iH;rw[cQ] at h1;cases h1;exact U.alive rfl
        ·rw[eh _ _ iH] at h1
         exact iH (S.h.inj aD id blk' _ b h1 ab U (.root (by simp) hb))
       have HQ:=S.h.rL id _ b ab (by simp) hb
       have room: ∀(C':Array Value) (w':World) (ys:List V),w'.heap[b]? =some (.cells C' e (0,0))→C'.size=Ca.size→(∀b',b'≠b→w'.heap[b']? =w.heap[b']?)→w.heap.size≤w'.heap.size→(w'.os=w.os∧w'.output=w.output)→ys.length≤cap→
         (∀(i j:Nat) (y:V) (t':TypeId),ys[i]? =some y→(aS P e)[j]? =some t'→j<P.cellsOf e→∃v,C'[i*P.cellsOf e+j]? =some v∧Pure P w I t' v (bM P e y j))→
         Le P w I β hp w' I (aI β nb (some b)) (aI (aI hp id (some .dead)) nb (some (.arr e ys false)))∧aF P w' I (aI β nb (some b)) (aI (aI hp id (some .dead)) nb (some (.arr e ys false))) B M w0∧
         ao P w' I (aI β nb (some b)) (aI (aI hp id (some .dead)) nb (some (.arr e ys false))) (.slice (some ⟨b,0,none⟩) ys.length cap) (.whole e nb):=by
        intro C' w' ys hC oj Xy Xz XA tB hy
        obtain ⟨a1,a2⟩:=zm k2 (blk:= .arr e ys false) (w':=w') j8 qm (eg rfl) (fun b' h _=>Xy b' h) Xz XA HQ
         (fun b' h=>(c6 (h.flat (by simp))).symm) (fun hle=> .arr au rfl hC (by rw[oj,←aX];exact dC _ tB) (fun h=>by cases h) (fun _=>eg rfl) fun i j y t' a b c=>by
          obtain ⟨v,hv,hp⟩:=hy i j y t' a b c
          exact ⟨v,hv,hp.mono hle.db hle.cb⟩)
        refine ⟨k1.trans a1,a2,.whole (cQ _ _ _) (cQ _ _ _) ?_ tB hm⟩
        rw[mX hC,oj,aX]
       have same:xs=[]→(∃a c,x= .slice a 0 c)→cU P ((Builtin.append_ #[t,t] ty #[.slice (some ⟨b,0,none⟩) es.length cap,x]).run P w) w I β hp B M w0 ⟨.whole e nb,[(nb,.arr e (es++xs) false),(id,.dead)]⟩:=by
        intro gm HN
        subst gm
        rw[cP]
        obtain ⟨a1,a2,a3⟩:=room Ca w es hh rfl (fun _ _=>rfl) (bY _) ⟨rfl,rfl⟩ b9 mg
        exact ⟨_,_,_,_,Ny hu hi _ _ _ x HN b9,a1,a2,a3⟩
       rcases lF with ⟨⟨_,rfl⟩,rfl⟩|⟨a,c,news,cE⟩
       ·exact same rfl ⟨_,_,rfl⟩
       ·have h1:=cE.one au
        have lE:es.length*P.cellsOf e≤Ca.toList.length:=by simpa using pq
        by_cases rU:es.length+xs.length≤cap
        ·have zD:es.length*P.cellsOf e+news.length≤Ca.size:=by rw[cE.len,←dh,←aX];exact dC _ rU
         have cR:=run_append_room (P:=P) w t ty e i hu hi b es.length cap Ca hh a xs.length c news (by rw[cE.len,h3]) cE.cell h1 rU (by rw[h3];exact zD)
         rw[h3] at cR
         have cN:=DA (P:=P) (w:=w) (I:=I) (n:=es.length) (c:=Ca.toList) rfl (fun i j y t' a b c=>by
          obtain ⟨v,hv,hp⟩:=mg i j y t' a b c
          exact ⟨v,by simpa using hv,hp⟩) cE.el lE (Ca.toList.drop (es.length*P.cellsOf e+news.length))
         obtain ⟨a1,a2,a3⟩:=room (Ca.toList.take (es.length*P.cellsOf e)++news++Ca.toList.drop (es.length*P.cellsOf e+news.length)).toArray (w.setRow b _) (es++xs)
          (setRow_heap w b Ca _ e _ hh) (by simp;omega) (fun b' aB=>setRow_other w b b' _ aB) (by simp) ⟨rfl,rfl⟩ (by simpa using rU)
          (fun i j y t' a b c=>by
           obtain ⟨v,hv,hp⟩:=cN i j y t' a b c
           exact ⟨v,by simpa using hv,hp⟩)
         rw[cE.val]
         rw[bS] at a3
         exact ⟨_,_,_,_,cR,a1,a2,a3⟩
        ·have hold: ∀(j:Nat) v,(Ca.toList.take (es.length*P.cellsOf e))[j]? =some v→w.cell? ((⟨b,0,none⟩:Addr).add j)=some v:=by
          intro j v hj
          have cd:=(bu.1 hj).1
          have fW:j<es.length*P.cellsOf e:=by rw[eP] at cd;omega
          rw[eO fW] at hj
          rw[m7,cell?_cells hh,gE]
          simpa using hj
         have cR:=run_append_grow (P:=P) w t ty e i z hu hi hz ⟨b,0,none⟩ es.length cap (Ca.toList.take (es.length*P.cellsOf e)) (by rw[h3];simp;omega) hold a xs.length c news (by rw[cE.len,h3]) cE.cell (by omega) (by omega)
          (growslice_fits (by omega) (by rw[←mf];simp only[bU] at dO;omega))
         have pn:=grownCap_ge w (es.length+xs.length) cap e
         have tG:grownCap w (es.length+xs.length) cap e≤maxLen:=grownCap_le_maxLen w _ cap e (by simp only[maxLen];omega)
         have cN:=DA (P:=P) (w:=w) (I:=I) (n:=es.length) (c:=Ca.toList) rfl (fun i j y t' a b c=>by
          obtain ⟨v,hv,hp⟩:=mg i j y t' a b c
          exact ⟨v,by simpa using hv,hp⟩) cE.el lE (Builtin.zeroCells z.cells (grownCap w (es.length+xs.length) cap e-(es.length+xs.length))).toList
         obtain ⟨n1,n2,n3⟩:=vX k2.drew (nb:=nb) (cap:=grownCap w (es.length+xs.length) cap e) (es:=es++xs)
          (C0:=(Ca.toList.take (es.length*P.cellsOf e)).toArray++news.toArray++Builtin.zeroCells z.cells (grownCap w (es.length+xs.length) cap e-(es.length+xs.length))) au j8
          (by
           have e1:(Ca.toList.take (es.length*P.cellsOf e)).length=es.length*P.cellsOf e:=by simp;omega
           simp only[Cr,pV,size_zeroCells,h4,cE.len,e1,←dh];congr 1;omega) (by simpa using pn) tG
          (fun i j y t' a b c=>by
           obtain ⟨v,hv,hp⟩:=cN i j y t' a b c
           refine ⟨v,?_,Pure.drew hp⟩
           rw[←rq]
           simpa using hv)
         rw[cE.val]
         rw[bS] at n3
         exact ⟨_,_,_,_,cR,(k1.trans (Le.drew w I β _)).trans n1,n2,n3⟩
 | _=>cases h
end
section
variable {P:Program} {w w':World} {I I':Nat→Prop} {β β':Nat→Option Nat} {hp hp':Nat→Option an} {C:ag} {B:Nat} {M:Nat→Prop} {w0:Start}
theorem run_copy_none (w:World) {dT sT ty elem:TypeId} {i:TypeInfo} (a0:Option Addr) (Nz XB:Nat) (a1:Option Addr) (NA XC:Nat) (hu:P.underlying dT=some (.slice elem)) (hi:P.info? elem=some i) (h0:Nat.min NA Nz=0):
  (Builtin.copy_ #[dT,sT] ty #[.slice a0 Nz XB,.slice a1 NA XC]).run P w= .ok (goInt 0) w:=by
 cases a0<;>cases a1<;>simp[Builtin.copy_,run_underlying hu,Builtin.lenOf,Builtin.firstCells,sizeOf,typeInfo,hi,h0,storeCells,loadCells,loadCellsFrom]
theorem XD (S:aF P w I β hp B M w0) {t u ty e:TypeId} {s x:Value} {sv xv:V} {r:R} {rd:List Nat} (hu:P.underlying t=some (.slice e)) (hs:ao P w I β hp s sv) (hx:ao P w I β hp x xv)
  (h:(GX P e sv xv).run C hp=some (r,rd)):cU P ((Builtin.copy_ #[t,u] ty #[s,x]).run P w) w I β hp B M w0 r:=by
 unfold GX at h
 obtain ⟨au,h'⟩:=aG h
 clear h
 simp only[aK,aR] at au
 obtain ⟨au,h1⟩:=au
 obtain ⟨xs,lF,l0,h⟩:=Dz S.h.rel au hx h'
 obtain ⟨i,z,hi,hz,aX,_⟩:=j7 au
 cases sv<;>simp only at h<;>first|(cases h;done)|skip
 rename_i e' id
 obtain ⟨l,U⟩:=run_get h
 clear h
 cases ab:hp id with
 | none=>rw[ab] at U;cases U
 | some blk=>
  rw[ab] at U
  cases blk<;>simp only at U<;>first|(cases U;done)|skip
  rename_i e2 es fz
  cases fz with
  | true=>cases U
  | false=>
  obtain ⟨hc,h3⟩:=aG U
  simp only[aK,aR] at hc
  obtain ⟨rfl,rfl⟩:=hc
  obtain rfl:=aM h3
  have na:min xs.length es.length=0→(Builtin.copy_ #[t,u] ty #[s,x]).run P w= .ok (goInt 0) w→cU P ((Builtin.copy_ #[t,u] ty #[s,x]).run P w) w I β hp B M w0 ⟨.int .i64 (min xs.length es.length:Nat),[(id,.arr e (xs.take es.length++es.drop xs.length) false)]⟩:=by
   intro h0 hr
   have he:xs.take es.length++es.drop xs.length=es:=by
    rcases Nat.le_total xs.length es.length with hl|hl
    ·have:xs=[]:=lb (by omega)
     simp[this]
    ·have:es=[]:=lb (by omega)
     simp[this]
   have fV:bL hp [(id,.arr e (xs.take es.length++es.drop xs.length) false)]=hp:=by
    rw[he];exact G7 hp id _ ab
   refine ⟨goInt 0,w,I,β,hr,?_⟩
   simp only[fV,h0]
   exact ⟨Le.refl w I β hp,S,.int⟩
  cases hs with
  | ef hd=>rw[ab] at hd;cases hd
  | er hd=>rw[ab] at hd;cases hd
  | @dF _ _ fz a hd hb=>
   rw[ab] at hd
   cases hd
   refine na (by simp) ?_
   rcases lF with ⟨⟨a',rfl⟩,rfl⟩|⟨a',c,news,cE⟩
   ·exact run_copy_none w _ _ _ _ _ _ hu hi (by simp)
   ·rw[cE.val];exact run_copy_none w _ _ _ _ _ _ hu hi (by simp)
  | @whole _ _ aL mT b cap hd hb zF b9 hm=>
   have eD:=hd
   rw[ab] at hd
   cases hd
   rcases lF with ⟨⟨a',rfl⟩,rfl⟩|⟨a',c,news,cE⟩
   ·exact na (by simp) (run_copy_none w _ _ _ _ _ _ hu hi (by simp))
   have hr:=S.h.rel id _ ab
   cases hr with
   | dG aB=>rw[aB] at hb;cases hb
   | @arr _ _ _ b' Ca _ aB hh pq hf eg mg=>
    rw[hb] at aB
    cases aB
    have lC:news.length=xs.length:=by rw[cE.len,h1,mN]
    rw[h1,mN] at pq
    have kO:(news.take es.length).length=Nat.min xs.length es.length:=by
     rw[eP,lC,Nat.min_comm]
    have NB:Nat.min xs.length es.length=min xs.length es.length:=rfl
    have cR:=run_copy_row (P:=P) w t u ty e b 0 es.length cap a' xs.length c Ca e (news.take es.length) hu (by rw[hi];simp[aX,h1]) hh kO
     (fun j v hj=>cE.cell j v (by
      have:=(bu.1 hj).1
      rw[eP] at this
      rwa [eO (by omega)] at hj)) (by rw[kO,NB];omega) (fun v hv=>cE.one au v (List.mem_of_mem_take hv))
    rw[cE.val]
    have hq:(goInt (news.take es.length).length)= .int .i64 ((min xs.length es.length:Nat):Int):=by rw[kO];rfl
    have je:(xs.take es.length++es.drop xs.length).length=es.length:=by simp;omega
    have oj:(Ca.toList.take 0++news.take es.length++Ca.toList.drop (0+(news.take es.length).length)).toArray.size=Ca.size:=by
     simp only[pV,bS,oX,eP,kO,NB]
     simp
     omega
    obtain ⟨a1,a2⟩:=Dm S (blk':= .arr e (xs.take es.length++es.drop xs.length) false) (Cb:=(Ca.toList.take 0++news.take es.length++Ca.toList.drop (0+(news.take es.length).length)).toArray) ab (by simp) ⟨rfl,je.symm⟩ hb (eg rfl) (by simp) hh oj
     (fun hle eK=> .arr au rfl eK (by rw[oj,je,h1,mN];exact pq) (fun h=>by cases h) (fun _=>eg rfl) fun i j y t' hy ht hj=>by
      rw[h1] at hj⊢
      obtain rfl:j=0:=by omega
      rw[mN,Nat.add_zero]
      have qy:=(bu.1 hy).1
      rw[je] at qy
      by_cases bV:i<xs.length
      ·rw[iu (by rw[eP];omega),eO qy] at hy
       obtain ⟨u',k1,k2⟩:=cE.el i 0 y t' hy ht (by omega)
       rw[h1,mN,Nat.add_zero] at k1
       refine ⟨u',?_,k2.mono hle.db hle.cb⟩
       simp only[List.take_zero,List.nil_append,mM]
       rw[iu (by rw[eP];omega),eO qy]
       exact k1
      ·have e1:(xs.take es.length).length=xs.length:=by rw[eP];omega
       rw[iv (by omega),e1,gY,show xs.length+(i-xs.length)=i by omega] at hy
       obtain ⟨u',k1,k2⟩:=mg i 0 y t' hy ht (by omega)
       rw[h1,mN,Nat.add_zero] at k1
       refine ⟨u',?_,k2.mono hle.db hle.cb⟩
       simp only[List.take_zero,List.nil_append,mM,gE]
       have e2:(news.take es.length).length=xs.length:=by rw[eP];omega
       rw[iv (by omega),e2,gY,show xs.length+(i-xs.length)=i by omega]
       simpa using k1)
    exact ⟨_,_,_,_,cR,a1,a2,by rw[hq];exact .int⟩
theorem XF (S:aF P w I β hp B M w0) {t ty e:TypeId} {x:Value} {xv:V} {r:R} {rd:List Nat} (hu:P.underlying t=some (.slice e)) (hx:ao P w I β hp x xv)
  (h:(GW P e xv).run C hp=some (r,rd)):cU P ((Builtin.clear_ #[t] ty #[x]).run P w) w I β hp B M w0 r:=by
 unfold GW at h
 obtain ⟨cN,h'⟩:=aG h
 clear h
 have au:cM P e=true:=by
  unfold lW at cN;simp only[aK] at cN;exact cN.1
 obtain ⟨i,z,hi,hz,aX,zG,XG⟩:=zC (w:=w) (I:=I) cN
 have lq:=(j4 au).2
 cases xv<;>simp only at h'<;>first|(cases h';done)|skip
 rename_i e' id off len
 obtain ⟨l,U⟩:=run_get h'
 clear h'
 cases ab:hp id with
 | none=>rw[ab] at U;cases U
 | some blk=>
  rw[ab] at U
  cases blk<;>simp only at U<;>first|(cases U;done)|skip
  rename_i e2 es fz
  cases fz with
  | true=>cases U
  | false=>
  obtain ⟨hc,h3⟩:=aG U
  simp only[aK,aR] at hc
  obtain ⟨rfl,rfl⟩:=hc
  obtain rfl:=aM h3
  have na:len=0→(Builtin.clear_ #[t] ty #[x]).run P w= .ok (.tuple #[]) w→cU P ((Builtin.clear_ #[t] ty #[x]).run P w) w I β hp B M w0 ⟨.bn [],[(id,.arr e (es.take off++(List.replicate len (cv P e (eB P e))++es.drop (off+len))) false)]⟩:=by
   intro h0 hr
   subst h0
   have fV:bL hp [(id,.arr e (es.take off++(List.replicate 0 (cv P e (eB P e))++es.drop (off+0))) false)]=hp:=by
    simp only[List.replicate_zero,List.nil_append,Nat.add_zero,Cs]
    exact G7 hp id _ ab
   refine ⟨.tuple #[],w,I,β,hr,?_⟩
   simp only[fV]
   exact ⟨Le.refl w I β hp,S,.bn rfl fun j v x hj hx=>by simp at hx⟩
  cases hx with
  | fT hd=>rw[ab] at hd;cases hd
  | @fF _ _ _ a0 hd hb=>exact na rfl (by cases a0<;>simp[Builtin.clear_,run_underlying hu])
  | @sub _ _ _ _ aL mT b o cap hd hb kJ b9 ho=>
   by_cases hlen:len=0
   ·refine na hlen ?_
    subst hlen
    simp[Builtin.clear_,run_underlying hu]
   have XH:0<len:=by omega
   have eD:=hd
   rw[ab] at hd
   cases hd
   have hr:=S.h.rel id _ ab
   cases hr with
   | dG aB=>rw[aB] at hb;cases hb
   | @arr _ _ _ b' Ca _ aB hh pq hf eg mg=>
    rw[hb] at aB
    cases aB
    have ho:=ho XH
    subst ho
    have tE:(Builtin.zeroCells z.cells len).toList.length=len*P.cellsOf e:=by rw[Array.length_toList,size_zeroCells,zG]
    have hmul:off*P.cellsOf e+len*P.cellsOf e≤es.length*P.cellsOf e:=by rw[←dh];exact dC _ kJ
    have qv: ∀v∈(Builtin.zeroCells z.cells len).toList,v.oneCell'=true:=by
     intro v hv
     obtain ⟨k,hk⟩:=rp hv
     have ik:=(bu.1 hk).1
     rw[tE] at ik
     have XI:(Builtin.zeroCells z.cells len)[k]? =z.cells[k %z.cells.size]? :=Nu (z:=z.cells) (n:=len*z.cells.size) (by rw[zG];exact ik) (by rw[zG];exact lq)
     rw[rq,XI] at hk
     have hm:k %z.cells.size<P.cellsOf e:=by rw[zG];exact Nat.mod_lt _ lq
     have XJ:k %z.cells.size<(aS P e).length:=by rw[fp au];exact hm
     obtain ⟨v',vM,hp'⟩:=XG (k %z.cells.size) _ (bO XJ) hm
     rw[hk] at vM
     cases vM
     generalize bM P e (cv P e (eB P e)) (k %z.cells.size)=y at hp'
     cases hp'<;>rfl
    have bI:=run_storeCells_at P b (off*P.cellsOf e) e (Builtin.zeroCells z.cells len).toList 0 Ca w hh (by rw[tE];omega) qv
    simp only[Nat.add_zero] at bI
    have cR:(Builtin.clear_ #[t] ty #[.slice (some ⟨b,off*P.cellsOf e,none⟩) len cap]).run P w= .ok (.tuple #[]) (w.setRow b (Ca.toList.take (off*P.cellsOf e)++(Builtin.zeroCells z.cells len).toList++Ca.toList.drop (off*P.cellsOf e+(Builtin.zeroCells z.cells len).toList.length)).toArray):=by
     obtain ⟨n,rfl⟩: ∃n,len=n+1:=⟨len-1,by omega⟩
     simp[Builtin.clear_,run_underlying hu,zeroValue,typeInfo,hi,hz,bI]
    have je:(es.take off++(List.replicate len (cv P e (eB P e))++es.drop (off+len))).length=es.length:=by simp;omega
    have oj:(Ca.toList.take (off*P.cellsOf e)++(Builtin.zeroCells z.cells len).toList++Ca.toList.drop (off*P.cellsOf e+(Builtin.zeroCells z.cells len).toList.length)).toArray.size=Ca.size:=by
     simp only[pV,bS,oX,eP,tE,Array.length_toList]
     omega
    obtain ⟨a1,a2⟩:=Dm S (blk':= .arr e (es.take off++(List.replicate len (cv P e (eB P e))++es.drop (off+len))) false) ab (by simp) ⟨rfl,je.symm⟩ hb (eg rfl) (by simp) hh oj
     (fun hle eK=> .arr au rfl eK (by rw[oj,je];exact pq) (fun h=>by cases h) (fun _=>eg rfl) fun i' j y t' hy ht hj=>by
      have gP:=m8 es (List.replicate len (cv P e (eB P e))) off i' (by simp;omega)
      rw[sW] at gP
      rw[gP] at hy
      have hC:(Ca.toList.take (off*P.cellsOf e)++(Builtin.zeroCells z.cells len).toList++Ca.toList.drop (off*P.cellsOf e+(Builtin.zeroCells z.cells len).toList.length)).toArray[i'*P.cellsOf e+j]? =
        if i'*P.cellsOf e+j<off*P.cellsOf e then Ca.toList[i'*P.cellsOf e+j]? else if i'*P.cellsOf e+j<off*P.cellsOf e+len*P.cellsOf e then (Builtin.zeroCells z.cells len).toList[i'*P.cellsOf e+j-off*P.cellsOf e]? else Ca.toList[i'*P.cellsOf e+j]? :=by
       have:=m8 Ca.toList (Builtin.zeroCells z.cells len).toList (off*P.cellsOf e) (i'*P.cellsOf e+j) (by rw[tE,Array.length_toList];omega)
       rw[mM,cq,this,tE]
      by_cases HR:i'<off
      ·rw[aj HR] at hy
       have:(i'+1)*P.cellsOf e≤off*P.cellsOf e:=dC _ HR
       rw[dh] at this
       rw[aj (by omega)] at hC
       obtain ⟨u,k1,k2⟩:=mg i' j y t' hy ht hj
       exact ⟨u,hC.trans (by simpa using k1),k2.mono hle.db hle.cb⟩
      ·rw[ai HR] at hy
       have h1:off*P.cellsOf e≤i'*P.cellsOf e:=dC _ (by omega)
       rw[ai (by omega)] at hC
       by_cases gO:i'<off+len
       ·rw[aj gO] at hy
        have:(i'+1)*P.cellsOf e≤(off+len)*P.cellsOf e:=dC _ gO
        rw[dh,dh] at this
        rw[aj (by omega)] at hC
        obtain ⟨v,k1,k2⟩:=Dy (w:=w) (I:=I) cN hi hz len len (bY _) (i'-off) j y t' hy ht hj
        refine ⟨v,hC.trans ?_,k2.mono hle.db hle.cb⟩
        rw[show i'*P.cellsOf e+j-off*P.cellsOf e=(i'-off)*P.cellsOf e+j by rw[Nat.sub_mul];omega,rq]
        unfold Builtin.zeroCells
        rw[zG] at k1⊢
        exact k1
       ·rw[ai gO] at hy
        have:(off+len)*P.cellsOf e≤i'*P.cellsOf e:=dC _ (by omega)
        rw[dh] at this
        rw[ai (by omega)] at hC
        obtain ⟨u,k1,k2⟩:=mg i' j y t' hy ht hj
        exact ⟨u,hC.trans (by simpa using k1),k2.mono hle.db hle.cb⟩)
    exact ⟨_,_,_,_,cR,a1,a2,.bn rfl fun j v x hj hx=>by simp at hx⟩
end
section
variable {P:Program} {w w':World} {I I':Nat→Prop} {β β':Nat→Option Nat} {hp hp':Nat→Option an} {C:ag} {B:Nat} {M:Nat→Prop} {w0:Start}
theorem XK (S:aF P w I β hp B M w0) {s:TypeId} {f:Nat} {v:Value} {x:V} {r:R} {rd:List Nat} (hv:ao P w I β hp v x)
  (h:(G0 P s f x).run C hp=some (r,rd)):cU P ((Instr.field s v f).run P w) w I β hp B M w0 r:=by
 unfold G0 CI at h
 split at h
 ·rename_i fs hu
  cases hf:fs[f]? with
  | none=>rw[hf] at h;cases h
  | some fd=>
   rw[hf] at h
   simp only[vq] at h
   obtain ⟨ht,h⟩:=aG h
   obtain ⟨d,tH⟩:=zq ht
   obtain ⟨i,hi⟩:=vK tH
   have aX:i.size=P.cellsOf fd.type:=by simp[Program.cellsOf,hi]
   cases x with
   | agg xs=>
    obtain ⟨cs,rfl,h1,U⟩:=hv.kM
    dsimp only at h
    cases ha:bK P fd.type with
    | true=>
     rw[ha] at h
     simp only[cond_true] at h
     obtain ⟨hc,h⟩:=aG h
     obtain rfl:=aM h
     rw[dx] at hc
     refine .same S (v:= .agg (cs.extract fd.offset (fd.offset+P.cellsOf fd.type))) ?_ (.agg (by simp;omega) fun j u y fG hy=> ?_)
     ·simp[Instr.field,run_underlying hu,hf,part,Ho tH,ha,asAgg,sizeOf,typeInfo,hi,aX]
     ·have hj:j<P.cellsOf fd.type:=by
       have:=(gZ.1 fG).1
       simp at this;omega
      rw[eO hj,gY] at hy
      refine U (fd.offset+j) u y ?_ hy
      rw[Array.getElem?_extract] at fG
      split at fG
      ·exact fG
      ·cases fG
    | false=>
     rw[ha] at h
     simp only[cond_false] at h
     obtain ⟨y,hy,h⟩:=lr h
     obtain rfl:=aM h
     have aO:fd.offset<cs.size:=by rw[h1];exact (bu.1 hy).1
     refine .same S (v:=cs[fd.offset]) ?_ (U _ _ _ (kD aO) hy)
     simp[Instr.field,run_underlying hu,hf,part,Ho tH,ha,asAgg,aO]
   | _=>cases h
 ·cases h
theorem XL (S:aF P w I β hp B M w0) {i:Nat} {v:Value} {xs:List V} {r:R} {rd:List Nat} (hv:ao P w I β hp v (.bn xs))
  (h:(Rd.opt xs[i]? fun v=> .ret ⟨v,[]⟩).run C hp=some (r,rd)):cU P ((Instr.extract v i).run P w) w I β hp B M w0 r:=by
 obtain ⟨cs,rfl,h1,U⟩:=hv.tu
 obtain ⟨y,hy,h⟩:=lr h
 obtain rfl:=aM h
 have aO:i<cs.size:=by rw[h1];exact (bu.1 hy).1
 exact .same S (v:=cs[i]) (by simp[Instr.extract,aO]) (U _ _ _ (kD aO) hy)
theorem XM (S:aF P w I β hp B M w0) {t:TypeId} {s:ByteArray} {l:List UInt8} {k:IntKind} {i:Int} {r:R} {rd:List Nat} (hu:P.underlying t=some .string) (hs:s.data.toList=l)
  (h:(Rd.opt (bif decide (0≤i) then (l[i.toNat]?).map fun b=>V.int .u8 b.toNat else none) fun v=> .ret ⟨.int .u8 v.toInt,[]⟩).run C hp=some (r,rd)):
  cU P ((Instr.index t (.string s) (.int k i)).run P w) w I β hp B M w0 r:=by
 obtain ⟨v,hv,h⟩:=lr h
 obtain rfl:=aM h
 cases hc:decide (0≤i) with
 | false=>rw[hc] at hv;cases hv
 | true=>
  rw[hc] at hv
  simp only[cond_true] at hv
  have h0:0≤i:=by simpa using hc
  cases hb:l[i.toNat]? with
  | none=>rw[hb] at hv;cases hv
  | some b=>
   rw[hb] at hv
   simp only[Option.map_some,dR] at hv
   subst hv
   have XN:s[i.toNat]? =some b:=by
    subst hs
    obtain ⟨aO,he⟩:=bu.1 hb
    have HS:i.toNat<s.size:=by simpa using aO
    rw[getElem?_pos s i.toNat HS]
    congr 1
   refine .same S (v:= .int .u8 b.toNat) ?_ .int
   simp[Instr.index,asIntOf,run_underlying hu,h0,XN]
theorem HT (S:aF P w I β hp B M w0) (mx:Bool): ∀{vs:List Value} {xs:List V} {v:Value} {x:V} {r:R} {rd:List Nat},ao P w I β hp v x→vs.length=xs.length→
  (∀(j:Nat) u y,vs[j]? =some u→xs[j]? =some y→ao P w I β hp u y)→(vr mx x xs).run C hp=some (r,rd)→
  cU P ((vs.foldlM (if mx then Builtin.max2 else Builtin.min2) v).run P w) w I β hp B M w0 r
 | [],[],v,x,r,rd,hv,_,_,h=>by
  have:r=⟨x,[]⟩:=by
   cases x<;>(simp only[vr] at h;exact (aM h).symm)
  subst this
  exact .same S (by simp) hv
 | [],_::_,v,x,r,rd,hv,hl,_,h=>by simp at hl
 | _::_,[],v,x,r,rd,hv,hl,_,h=>by simp at hl
 | u::vs,y::xs,v,x,r,rd,hv,hl,hx,h=>by
  cases x<;>cases y<;>simp only[vr] at h<;>first|(cases h;done)|skip
  rename_i k a k' b
  obtain ⟨hc,h4⟩:=aG h
  clear h
  obtain rfl:k=k':=by simpa using hc
  have hu:=hx 0 u _ rfl rfl
  rw[hv.ei,hu.ei]
  have ih:=HT S mx (vs:=vs) (xs:=xs) (v:= .int k (bif mx then (if b>a then b else a) else (if b<a then b else a))) .int (by simpa using hl)
   (fun j u y h1 U=>hx (j+1) u y (by simpa using h1) (by simpa using U)) h4
  cases mx with
  | true=>simpa[List.foldlM_cons,Builtin.max2] using ih
  | false=>simpa[List.foldlM_cons,Builtin.min2] using ih
theorem qz {n cap:Nat} {isS:Bool} {lo hi:Option V} {lov hiv:Option Value} {k:Nat→Nat→Rd R} {r:R} {rd:List Nat} (hn:n≤cap)
  (iI: ∀x,lo=some x→∃v,lov=some v∧ao P w I β hp v x) (gQ: ∀x,hi=some x→∃v,hiv=some v∧ao P w I β hp v x) (nc:lo=none→lov=none) (om:hi=none→hiv=none)
  (h:(rE n lo hi k).run C hp=some (r,rd)): ∃l u,l≤u∧u≤n∧(Instr.sliceBounds isS n cap lov hiv none).run P w= .ok (l,u,cap) w∧(k l u).run C hp=some (r,rd):=by
 have ok: ∀(kk:IntKind) (i:Int) (y:Nat) (c:BoundsCode),0≤i→i≤y→(Instr.sliceBound (.int kk i) y c).run P w= .ok i.toNat w:=by
  intro kk i y c h1 U
  simp[Instr.sliceBound,asIntOf,h1,U]
 unfold rE at h
 cases lo with
 | none=>
  rw[nc rfl]
  cases hi with
  | none=>
   rw[om rfl]
   exact ⟨0,n,kC _,bY _,by simp[Instr.sliceBounds],h⟩
  | some x=>
   obtain ⟨v,rfl,hv⟩:=gQ x rfl
   cases x<;>simp only at h<;>first|(cases h;done)|skip
   rename_i kk u
   obtain ⟨hc,h⟩:=aG h
   simp only[aK,ec] at hc
   rw[hv.ei]
   have:=ok kk u cap (if isS then .sliceAcap else .sliceAlen) hc.1 (by omega)
   exact ⟨0,u.toNat,kC _,by omega,by simp[Instr.sliceBounds,this],h⟩
 | some x=>
  obtain ⟨v,rfl,hv⟩:=iI x rfl
  cases hi with
  | none=>
   rw[om rfl]
   cases x<;>simp only at h<;>first|(cases h;done)|skip
   rename_i kk l
   obtain ⟨hc,h⟩:=aG h
   simp only[aK,ec] at hc
   rw[hv.ei]
   have:=ok kk l n .sliceB hc.1 (by omega)
   exact ⟨l.toNat,n,by omega,bY _,by simp[Instr.sliceBounds,this],h⟩
  | some y=>
   obtain ⟨v2,rfl,qj⟩:=gQ y rfl
   cases x<;>cases y<;>simp only at h<;>first|(cases h;done)|skip
   rename_i kk l XO u
   obtain ⟨hc,h⟩:=aG h
   simp only[aK,ec] at hc
   rw[hv.ei,qj.ei]
   have h1:=ok XO u cap (if isS then .sliceAcap else .sliceAlen) (by omega) (by omega)
   have U:=ok kk l u.toNat .sliceB hc.1 (by omega)
   exact ⟨l.toNat,u.toNat,by omega,by omega,by simp[Instr.sliceBounds,h1,U],h⟩
theorem DE {a:Option Addr} {t e:TypeId} {i:TypeInfo} (hu:P.underlying t=some (.slice e)) (hi:P.info? e=some i) {lov hiv:Option Value}
  (hb:(Instr.sliceBounds true 0 0 lov hiv none).run P w= .ok (0,0,0) w):(Instr.sliceAt t (.slice a 0 0) lov hiv none).run P w= .ok (.slice a 0 0) w:=by
 cases a<;>simp[Instr.sliceAt,Instr.slice,run_underlying hu,hb,sizeOf,typeInfo,hi]
theorem HU {t e:TypeId} {i:TypeInfo} {b o len cap l u:Nat} (hu:P.underlying t=some (.slice e)) (hi:P.info? e=some i) {lov hiv:Option Value} (huc:u≤cap)
  (hb:(Instr.sliceBounds true len cap lov hiv none).run P w= .ok (l,u,cap) w): ∃o',(0<u-l→o'=o+l*i.size)∧(Instr.sliceAt t (.slice (some ⟨b,o,none⟩) len cap) lov hiv none).run P w= .ok (.slice (some ⟨b,o',none⟩) (u-l) (cap-l)) w:=by
 by_cases hc:cap=l
 ·subst hc
  refine ⟨o,fun h=>by omega,?_⟩
  ·simp[Instr.sliceAt,Instr.slice,run_underlying hu,hb,sizeOf,typeInfo,hi]
 ·refine ⟨o+l*i.size,fun _=>rfl,?_⟩
  simp[Instr.sliceAt,Instr.slice,run_underlying hu,hb,sizeOf,typeInfo,hi,hc,m7]
theorem XP (s:ByteArray) (l:List UInt8) (h:s.data.toList=l) (a b:Nat):(s.extract a b).data.toList=(l.drop a).take (b-a):=by
 subst h
 simp[ByteArray.data_extract]
theorem XQ (S:aF P w I β hp B M w0) {t:TypeId} {v:Value} {x:V} {lo hi:Option V} {lov hiv:Option Value} {r:R} {rd:List Nat} (hv:ao P w I β hp v x)
  (iI: ∀x,lo=some x→∃v,lov=some v∧ao P w I β hp v x) (gQ: ∀x,hi=some x→∃v,hiv=some v∧ao P w I β hp v x) (nc:lo=none→lov=none) (om:hi=none→hiv=none)
  (h:(CO P t x lo hi).run C hp=some (r,rd)):cU P ((Instr.sliceAt t v lov hiv none).run P w) w I β hp B M w0 r:=by
 unfold CO at h
 cases hu:P.underlying t with
 | none=>rw[hu] at h;cases h
 | some d=>
  rw[hu] at h
  cases d<;>simp only at h<;>first|(cases h;done)|skip
  case string=>
   cases x<;>simp only at h<;>first|(cases h;done)|skip
   rename_i l
   obtain ⟨s,rfl,hs⟩:=hv.ma
   have aX:l.length=s.size:=by rw[←hs];simp
   obtain ⟨a,u,h1,U,h3,h4⟩:=qz (isS:=false) (cap:=s.size) (by omega) iI gQ nc om h
   obtain rfl:=aM h4
   rw[aX] at h3
   refine .same S (v:= .string (s.extract a u)) ?_ (.str (XP s l hs a u))
   simp[Instr.sliceAt,Instr.slice,run_underlying hu,h3]
  case slice e=>
   cases x<;>simp only at h<;>first|(cases h;done)|skip
   case list e' es=>
    obtain ⟨hc,h⟩:=aG h
    simp only[aK,aR] at hc
    obtain ⟨dH,au⟩:=hc
    obtain ⟨i,z,dU,_,aX,_⟩:=j7 au
    cases hv with
    | list hp'=>
     cases hp' with
     | nil=>
      obtain ⟨a,u,h1,U,h3,h4⟩:=qz (n:=0) (isS:=true) (cap:=0) (bY _) iI gQ nc om h
      obtain rfl:=aM h4
      obtain rfl:u=0:=by omega
      obtain rfl:a=0:=by omega
      exact .same S (DE hu dU h3) (by simpa using ao.list iB.nil)
     | @emp ad cap=>
      obtain ⟨a,u,h1,U,h3,h4⟩:=qz (n:=0) (isS:=true) (cap:=cap) (kC _) iI gQ nc om h
      obtain rfl:=aM h4
      obtain rfl:u=0:=by omega
      obtain rfl:a=0:=by omega
      refine .same S (v:= .slice (some ad) 0 cap) ?_ (by simpa using ao.list iB.emp)
      by_cases hc:cap=0
      ·subst hc
       simp[Instr.sliceAt,Instr.slice,run_underlying hu,h3,sizeOf,typeInfo,dU]
      ·simp[Instr.sliceAt,Instr.slice,run_underlying hu,h3,sizeOf,typeInfo,dU,hc,Addr.add]
     | @list b o len cap _ g hl b9 hI fU hx=>
      obtain ⟨a,u,h1,U,h3,h4⟩:=qz (isS:=true) (cap:=cap) (by omega) iI gQ nc om h
      obtain rfl:=aM h4
      rw[hl] at U h3
      obtain ⟨o',jd,cR⟩:=HU (b:=b) (o:=o) hu dU (by omega) h3
      have gn:e=e':=dH
      refine .same S cR (.list ?_)
      rw[←gn]
      rw[←gn] at fU hx hI
      have hlen:((es.drop a).take (u-a)).length=u-a:=by simp;omega
      refine .list (fun i j=>g (a+i) j) hlen (by omega) (fun h=>hI (rk h (dC _ (by omega)))) (fun i j hi hj=> ?_) (fun i j y t' hy ht=> ?_)
      ·have:=fU (a+i) j (by omega) hj
       rw[dh,nP,←nP o] at this
       rw[jd (by omega),aX]
       exact this
      ·have hi:i<u-a:=by rw[←hlen];exact (bu.1 hy).1
       rw[eO hi,gY] at hy
       exact hx (a+i) j y t' hy ht
   case whole e' id=>
    obtain ⟨l,h⟩:=run_get h
    cases ab:hp id with
    | none=>rw[ab] at h;cases h
    | some blk=>
     rw[ab] at h
     cases blk<;>simp only at h<;>first|(cases h;done)|skip
     rename_i dD es fz
     obtain ⟨hc,h9⟩:=aG h
     clear h
     simp only[aK,aR] at hc
     obtain ⟨dH,ib,au⟩:=hc
     obtain ⟨i,z,dU,_,aX,_⟩:=j7 au
     cases hv with
     | ef hd=>rw[ab] at hd;cases hd
     | er hd=>rw[ab] at hd;cases hd
     | dF hd hb=>
      rw[ab] at hd
      cases hd
      obtain ⟨a,u,h1,U,h3,h4⟩:=qz (n:=0) (isS:=true) (cap:=0) (bY _) iI gQ nc om h9
      obtain rfl:=aM h4
      obtain rfl:u=0:=by omega
      obtain rfl:a=0:=by omega
      exact .same S (DE hu dU h3) (.fF ab hb)
     | @whole _ _ aL mT b cap hd hb zF b9 hm=>
      have eD:=hd
      rw[ab] at hd
      cases hd
      obtain ⟨a,u,h1,U,h3,h4⟩:=qz (isS:=true) (cap:=cap) b9 iI gQ nc om h9
      obtain rfl:=aM h4
      obtain ⟨o',jd,cR⟩:=HU (b:=b) (o:=0) hu dU (by omega) h3
      have gn:e=e':=dH
      exact .same S cR (.sub eD hb (by omega) (by omega) (fun h=>by rw[jd h,aX,gn,gE]))
   case sub e' id off len=>
    obtain ⟨l,h⟩:=run_get h
    cases ab:hp id with
    | none=>rw[ab] at h;cases h
    | some blk=>
     rw[ab] at h
     cases blk<;>simp only at h<;>first|(cases h;done)|skip
     rename_i dD es fz
     obtain ⟨hc,h⟩:=aG h
     simp only[aK,aR] at hc
     obtain ⟨dH,ib,au⟩:=hc
     obtain ⟨i,z,dU,_,aX,_⟩:=j7 au
     cases hv with
     | fT hd=>rw[ab] at hd;cases hd
     | fF hd hb=>
      have eD:=hd
      obtain ⟨a,u,h1,U,h3,h4⟩:=qz (isS:=true) (cap:=0) (bY _) iI gQ nc om h
      obtain rfl:=aM h4
      obtain rfl:u=0:=by omega
      obtain rfl:a=0:=by omega
      exact .same S (DE hu dU h3) (.fF eD hb)
     | @sub _ _ _ _ aL mT b o cap hd hb kJ b9 ho=>
      have eD:=hd
      obtain ⟨a,u,h1,U,h3,h4⟩:=qz (isS:=true) (cap:=cap) b9 iI gQ nc om h
      obtain rfl:=aM h4
      obtain ⟨o',jd,cR⟩:=HU (b:=b) (o:=o) hu dU (by omega) h3
      have gn:e=e':=dH
      exact .same S cR (.sub eD hb (by omega) (by omega) (fun h=>by rw[jd h,aX,ho (by omega),gn,dh]))
theorem XR (S:aF P w I β hp B M w0) {t:TypeId} {v:Value} {x:V} {lo hi mx:Option V} {lov hiv NC:Option Value} {r:R} {rd:List Nat} (hv:ao P w I β hp v x)
  (iI:lo=none→lov=none) (gQ: ∀y,hi=some y→∃u,hiv=some u∧ao P w I β hp u y) (oc: ∀y,mx=some y→∃u,NC=some u∧ao P w I β hp u y)
  (h:(GY P t x lo hi mx).run C hp=some (r,rd)):cU P ((Instr.sliceAt t v lov hiv NC).run P w) w I β hp B M w0 r:=by
 unfold GY at h
 cases hu:P.underlying t with
 | none=>rw[hu] at h;cases h
 | some d=>
  rw[hu] at h
  cases d<;>(try (cases h;done))
  rename_i e
  cases lo<;>(try (cases h;done))
  cases hi<;>(try (cases h;done))
  rename_i vY
  cases vY<;>(try (cases h;done))
  cases mx<;>(try (cases h;done))
  rename_i XS
  cases XS<;>(try (cases h;done))
  obtain ⟨hc,h9⟩:=aG h
  clear h
  have h:=h9
  clear h9
  simp only[aK,ec] at hc
  obtain ⟨rfl,rfl,au⟩:=hc
  obtain ⟨i,z,dU,_,_,_⟩:=j7 au
  obtain ⟨u1,rfl,k1⟩:=gQ _ rfl
  obtain ⟨u2,rfl,k2⟩:=oc _ rfl
  rw[k1.ei,k2.ei,iI rfl]
  have run: ∀{k k2:IntKind} (a:Option Addr) (len cap:Nat),(Instr.sliceAt t (.slice a len cap) none (some (.int k 0)) (some (.int k2 0))).run P w= .ok (.slice a 0 0) w:=by
   intro k k2 a len cap
   cases a<;>simp[Instr.sliceAt,Instr.slice,Instr.sliceBounds,Instr.sliceBound,asIntOf,run_underlying hu,sizeOf,typeInfo,dU]
  cases x<;>(try (cases h;done))
  ·simp only at h
   obtain rfl:=aM h
   cases hv with
   | list hp'=>cases hp'<;>exact .same S (run _ _ _) .nilS
  ·simp only at h
   obtain rfl:=aM h
   cases hv
   exact .same S (run _ _ _) .nilS
  ·rename_i e' id
   simp only at h
   obtain ⟨l,h⟩:=run_get h
   cases ab:hp id with
   | none=>rw[ab] at h;cases h
   | some blk=>
    rw[ab] at h
    cases blk<;>simp only at h<;>first|(cases h;done)|skip
    all_goals
     obtain rfl:=aM h
     cases hv with
     | ef hd=>rw[ab] at hd;cases hd
     | er hd=>exact .same S (run _ _ _) .nilS
     | dF hd hb=>exact .same S (run _ _ _) .nilS
     | whole hd=>exact .same S (run _ _ _) .nilS
theorem XT (S:aF P w I β hp B M w0) {t:TypeId} {v ix:Value} {x y:V} {r:R} {rd:List Nat} (hv:ao P w I β hp v x) (hy:ao P w I β hp ix y)
  (h:(G1 P t x y).run C hp=some (r,rd)):cU P ((Instr.indexAt t v ix).run P w) w I β hp B M w0 r:=by
 unfold G1 at h
 cases hu:P.underlying t with
 | none=>rw[hu] at h;cases h
 | some d=>
  rw[hu] at h
  cases y<;>(try (cases d<;>cases h;done))
  rename_i k i
  rw[hy.ei]
  cases d<;>simp only at h<;>first|(cases h;done)|skip
  case slice e=>
   have run: ∀(b o len cap:Nat) (ie:TypeInfo),P.info? e=some ie→0≤i→i<(len:Int)→(Instr.indexAt t (.slice (some ⟨b,o,none⟩) len cap) (.int k i)).run P w= .ok (.pointer (some ⟨b,o+i.toNat*ie.size,none⟩)) w:=by
    intro b o len cap ie jz h0 h1
    simp[Instr.indexAt,asIntOf,run_underlying hu,h0,h1,sizeOf,typeInfo,jz,m7]
   cases x<;>simp only at h<;>first|(cases h;done)|skip
   case list e' es=>
    obtain ⟨hc,h⟩:=aG h
    simp only[aK,aR] at hc
    obtain ⟨dH,au⟩:=hc
    have gn:e=e':=dH
    obtain ⟨ie,z,dU,_,aX,_⟩:=j7 au
    obtain ⟨el,cN,h⟩:=lr h
    obtain rfl:=aM h
    unfold idx at cN
    cases h0:decide (0≤i) with
    | false=>rw[h0] at cN;cases cN
    | true=>
     rw[h0] at cN
     simp only[cond_true] at cN
     have vZ:0≤i:=by simpa using h0
     have aO:i.toNat<es.length:=(bu.1 cN).1
     cases hv with
     | list hp'=>
      cases hp' with
      | nil=>simp at aO
      | emp=>simp at aO
      | @list b o len cap _ g hl b9 hI fU hx=>
       rw[←gn] at fU hx hI
       refine .same S (run b o len cap ie dU vZ (by omega)) ?_
       have bE:=vL (P:=P) e el
       have HV:=fp au
       have ND:(bif bK P e then flat P e else [e])=aS P e:=rfl
       rw[ND]
       refine .pref (by rw[bE]) (fun _=>hI ?_) (fun j t' y' ht zn=> ?_)
       ·have:=Nat.mul_pos (show 0<len by omega) (j4 au).2
        exact this
       ·obtain ⟨t2,a1,a2⟩:=Hp zn
        rw[ht] at a1;cases a1
        have hj:j<P.cellsOf e:=by rw[←HV];exact (bu.1 ht).1
        have gJ:=hx i.toNat j el t' cN ht
        refine ⟨g i.toNat j,?_,?_⟩
        ·rw[aX,nP];exact fU i.toNat j (by omega) hj
        ·rw[a2,gJ.rP];exact gJ
   case whole e' id=>
    obtain ⟨l,h⟩:=run_get h
    cases ab:hp id with
    | none=>rw[ab] at h;cases h
    | some blk=>
     rw[ab] at h
     cases blk<;>simp only at h<;>first|(cases h;done)|skip
     rename_i dD es fz
     obtain ⟨hc,h⟩:=aG h
     simp only[aK,aR] at hc
     obtain ⟨dH,ib⟩:=hc
     obtain ⟨eE,h⟩:=aG h
     simp only[aK,ec] at eE
     obtain rfl:=aM h
     cases hv with
     | ef hd=>rw[ab] at hd;cases hd
     | er hd=>rw[ab] at hd;cases hd
     | dF hd hb=>rw[ab] at hd;cases hd;simp at eE;omega
     | @whole _ _ aL mT b cap hd hb zF b9 hm=>
      have eD:=hd
      rw[ab] at hd
      cases hd
      have hr:=S.h.rel id _ ab
      cases hr with
      | dG aB=>rw[aB] at hb;cases hb
      | arr au aB hh hs hf eg hx=>
       have gn:e=e':=dH
       obtain ⟨ie,z,dU,_,aX,_⟩:=j7 au
       rw[←gn] at dU aX
       refine .same S (run b 0 _ cap ie dU eE.1 eE.2) ?_
       have:=ao.ptr (P:=P) (w:=w) (I:=I) (i:=i.toNat) (c:=0) eD (by simp) hb
       simp only[an.sz] at this
       rw[gE,aX,gn]
       simpa using this
     rename_i dD es ar
     obtain ⟨hc,h⟩:=aG h
     simp only[aK,aR] at hc
     obtain ⟨dH,ib⟩:=hc
     obtain ⟨eE,h⟩:=aG h
     simp only[aK,ec] at eE
     obtain rfl:=aM h
     cases hv with
     | ef hd=>rw[ab] at hd;cases hd
     | dF hd hb=>rw[ab] at hd;cases hd
     | whole hd=>rw[ab] at hd;cases hd
     | @er _ _ aL vers' b cap hd hb zF b9 hm=>
      have eD:=hd
      rw[ab] at hd
      cases hd
      have au:=(S.rows eD hb .here).ok
      have gn:e=e':=dH
      obtain ⟨ie,z,dU,_,aX,_⟩:=j7 au
      rw[←gn] at dU aX
      refine .same S (run b 0 _ cap ie dU eE.1 eE.2) ?_
      have:=ao.ptr (P:=P) (w:=w) (I:=I) (i:=i.toNat) (c:=0) eD (by simp) hb
      simp only[an.sz] at this
      rw[gE,aX,gn]
      simpa using this
   case row e' id ver path=>
    obtain ⟨e0,es,ar,l,ab,h1,U,h3,h⟩:=oa h
    obtain ⟨e2,v',k1,k2,h⟩:=vF h
    obtain ⟨hc,h⟩:=aG h
    simp only[aK,aR] at hc
    obtain ⟨dH,ib⟩:=hc
    obtain ⟨eE,h⟩:=aG h
    simp only[aK,ec] at eE
    obtain rfl:=aM h
    cases hv with
    | ju hd hp'=>rw[ab] at hd;cases hd;exact absurd hp' (vG h1 U h3)
    | @row v _ e0 t1 _ ver b i1 c1 q es l1 ar hd hb hq HD ht fU=>
     have XU:=fU
     obtain ⟨b',e3,aL,Ca,T,f,x,m1,m2,m3,m4,m5,m6⟩:=fU
     have iE:=hd
     rw[ab] at iE
     cases iE
     obtain ⟨n1,n2⟩:=C7 m1 m3 m4 ht m5
     rw[n2] at k2
     cases k2
     simp only[V.toList] at eE
     have hR:=S.rows hd hb m1
     obtain ⟨C1,c2,c3,c4⟩:=hR.cells
     rw[m2] at c2
     cases c2
     have hj:c1<P.cellsOf e3:=by
      rw[←fp hR.ok];exact (bu.1 m4).1
     obtain ⟨v2,d1,d2⟩:=c4 _ _ _ _ m3 m4 hj
     rw[m6] at d1
     cases d1
     rw[m5] at d2
     cases d2 with
     | fE a _=>unfold fB at a;rw[ht] at a;cases a
     | emp _ _=>simp at eE;omega
     | @row _ _ b1 cap _ hl _ _ _=>
      have au:=(S.rows hd hb (m1.snoc m2 m3 m4 ht m5 hl m6)).ok
      have gn:e=e':=dH
      obtain ⟨ie,z,dU,_,aX,_⟩:=j7 au
      rw[←gn] at dU aX
      refine .same S (run b1 0 _ cap ie dU eE.1 eE.2) ?_
      have:=ao.cA (P:=P) (I:=I) (i:=i.toNat) (c:=0) hd hb hq HD ht hl XU
      rw[gE,aX,gn]
      simpa using this
   case sub e' id off len=>
    obtain ⟨l,h⟩:=run_get h
    cases ab:hp id with
    | none=>rw[ab] at h;cases h
    | some blk=>
     rw[ab] at h
     cases blk<;>simp only at h<;>first|(cases h;done)|skip
     rename_i dD es fz
     obtain ⟨hc,h⟩:=aG h
     simp only[aK,aR] at hc
     obtain ⟨dH,ib⟩:=hc
     obtain ⟨eE,h⟩:=aG h
     simp only[aK,ec] at eE
     obtain rfl:=aM h
     cases hv with
     | fT hd=>rw[ab] at hd;cases hd
     | fF hd hb=>simp at eE;omega
     | @sub _ _ _ _ aL mT b o cap hd hb kJ b9 ho=>
      have eD:=hd
      rw[ab] at hd
      cases hd
      have hr:=S.h.rel id _ ab
      cases hr with
      | dG aB=>rw[aB] at hb;cases hb
      | arr au aB hh hs hf eg hx=>
       have gn:e=e':=dH
       obtain ⟨ie,z,dU,_,aX,_⟩:=j7 au
       rw[←gn] at dU aX
       refine .same S (run b o _ cap ie dU eE.1 eE.2) ?_
       have:=ao.ptr (P:=P) (w:=w) (I:=I) (i:=off+i.toNat) (c:=0) eD (by simp) hb
       simp only[an.sz] at this
       rw[ho (by omega),aX,gn,←dh]
       simpa using this
  case array n e=>
   have run: ∀(b o:Nat) (ie:TypeInfo),P.info? e=some ie→0≤i→i<(n:Int)→(Instr.indexAt t (.pointer (some ⟨b,o,none⟩)) (.int k i)).run P w= .ok (.pointer (some ⟨b,o+i.toNat*ie.size,none⟩)) w:=by
    intro b o ie jz h0 h1
    simp[Instr.indexAt,asIntOf,run_underlying hu,h0,h1,sizeOf,typeInfo,jz,m7,Instr.sureAddr]
   cases x<;>simp only at h<;>first|(cases h;done)|skip
   case ptr id j c=>
    obtain ⟨⟨blk,ab,hd⟩,l,h⟩:=vJ h
    obtain ⟨eE,h⟩:=aG h
    simp only[aK,ec] at eE
    obtain rfl:=aM h
    obtain ⟨b,hb,rfl⟩:=hv.gL ab hd
    obtain ⟨d,tH⟩:=zq eE.1
    obtain ⟨ie,jz⟩:=vK tH
    have aX:ie.size=P.cellsOf e:=by simp[Program.cellsOf,jz]
    refine .same S (run b _ ie jz eE.2.1 eE.2.2) ?_
    rw[aX,nP]
    exact .ptr ab hd hb
   case pref ts cs=>
    obtain ⟨eE,h⟩:=aG h
    simp only[aK,ec] at eE
    obtain rfl:=aM h
    obtain ⟨b,o,rfl,h1,U,h3⟩:=hv.Dg
    obtain ⟨d,tH⟩:=zq eE.1
    obtain ⟨ie,jz⟩:=vK tH
    have aX:ie.size=P.cellsOf e:=by simp[Program.cellsOf,jz]
    refine .same S (run b _ ie jz eE.2.1 eE.2.2) ?_
    rw[aX]
    exact ao.MU h1 U h3
end
end Go.AM
namespace Go.AM
open Go.Maps
section
variable {P:Program} {w w':World} {I I':Nat→Prop} {β β':Nat→Option Nat} {hp hp':Nat→Option an} {C:ag} {B:Nat} {M:Nat→Prop} {w0:Start}
theorem XV (S:aF P w I β hp B M w0) {nb:Nat} {t:TypeId} {v:Value} {x:V} {lo hi:Option V} {lov hiv:Option Value} {r:R} {rd:List Nat} (hv:ao P w I β hp v x)
  (gQ: ∀x,hi=some x→∃v,hiv=some v∧ao P w I β hp v x) (nc:lo=none→lov=none)
  (h:(CP P nb t x lo hi).run C hp=some (r,rd)):cU P ((Instr.sliceAt t v lov hiv none).run P w) w I β hp B M w0 r:=by
 unfold CP at h
 split at h
 case h_2=>cases h
 rename_i e e' id k hh hu
 obtain ⟨l,h1⟩:=run_get h
 cases ab:hp id with
 | none=>rw[ab] at h1;cases h1
 | some blk=>
  rw[ab] at h1
  cases blk<;>simp only at h1<;>first|(cases h1;done)|skip
  rename_i e2 es fz
  cases fz with
  | true=>cases h1
  | false=>
  obtain ⟨hc,U⟩:=aG h1
  simp only[aK,aR,ec] at hc
  obtain ⟨rfl,rfl,au,NF,NG⟩:=hc
  obtain ⟨hn,rfl⟩:=m9 U
  have iI:=nc rfl
  subst iI
  obtain ⟨HW,rfl,XW⟩:=gQ _ rfl
  obtain rfl:=XW.ei
  obtain ⟨i,z,dU,_,aX,_⟩:=j7 au
  have bC:nb≠id:=fun e=>by rw[e,ab] at hn;cases hn
  obtain ⟨k1,k2⟩:=Dc S ab
  have j8:aI hp id (some an.dead) nb=none:=by rw[eh _ _ bC];exact hn
  have NH: ∀cap,es.length≤cap→(Instr.sliceBounds true es.length cap none (some (.int k hh)) none).run P w= .ok (0,hh.toNat,cap) w:=by
   intro cap b9
   have hb:(rE es.length none (some (.int k hh)) fun l u=> .aC (decide (l=0∧u=hh.toNat)) (.ret (⟨.undef,[]⟩:R))).run C hp=some (⟨.undef,[]⟩,[]):=by
    simp[rE,Rd.run,NF,NG]
   obtain ⟨l,u,b1,b2,b3,b4⟩:=qz (P:=P) (w:=w) (I:=I) (β:=β) (hp:=hp) (n:=es.length) (isS:=true) (cap:=cap) (lov:=none) (hiv:=some (.int k hh)) b9 (by simp) (fun x hx=>by cases hx;exact ⟨_,rfl,.int⟩) (fun _=>rfl) (by simp) hb
   obtain ⟨b5,_⟩:=aG b4
   simp only[ec] at b5
   obtain ⟨rfl,rfl⟩:=b5
   exact b3
  cases hv with
  | ef hd=>rw[ab] at hd;cases hd
  | er hd=>rw[ab] at hd;cases hd
  | @dF _ _ _ a0 hd hb=>
   rw[ab] at hd
   cases hd
   have Hv:hh=0:=by simpa using Int.le_antisymm NG NF
   subst Hv
   have aB:=NH 0 (bY _)
   obtain ⟨a1,a2⟩:=Db k2 e j8
   refine ⟨_,w,I,_,DE hu dU aB,k1.trans a1,a2,.dF (cQ _ _ _) (cQ _ _ _)⟩
  | @whole _ _ aL mT b cap hd hb zF b9 hm=>
   have eD:=hd
   rw[ab] at hd
   cases hd
   have hr:=S.h.rel id _ ab
   cases hr with
   | dG aB=>rw[aB] at hb;cases hb
   | @arr _ _ _ b' Ca _ aB DF pq hf eg mg=>
    rw[hb] at aB
    cases aB
    have je:(es.take hh.toNat).length=hh.toNat:=by rw[eP];omega
    have cR:(Instr.sliceAt t (.slice (some ⟨b,0,none⟩) es.length cap) none (some (.int k hh)) none).run P w= .ok (.slice (some ⟨b,0,none⟩) hh.toNat cap) w:=by
     have aB:=NH cap b9
     by_cases NI:cap=0
     ·subst NI
      simp[Instr.sliceAt,Instr.slice,run_underlying hu,aB,sizeOf,typeInfo,dU]
     ·simp[Instr.sliceAt,Instr.slice,run_underlying hu,aB,sizeOf,typeInfo,dU,NI,m7]
    have qm: ∀aD blk',aI hp id (some an.dead) aD=some blk'→¬bw P w (β aD) blk' b:=by
     intro aD blk' h1 U
     by_cases iH:aD=id
     ·subst iH;rw[cQ] at h1;cases h1;exact U.alive rfl
     ·rw[eh _ _ iH] at h1
      exact iH (S.h.inj aD id blk' _ b h1 ab U (.root (by simp) hb))
    obtain ⟨a1,a2⟩:=zm k2 (blk:= .arr e (es.take hh.toNat) false) (w':=w) j8 qm (eg rfl) (fun _ _ _=>rfl) (bY _) ⟨rfl,rfl⟩ (S.h.rL id _ b ab (by simp) hb)
     (fun b' h=>(c6 (h.flat (by simp))).symm) (fun hle=> .arr au rfl DF (by rw[je];exact la (dC _ (by omega)) pq) (fun h=>by cases h) (fun _=>eg rfl) fun i j y t' hy ht hj=>by
      have qy:=(bu.1 hy).1
      rw[je] at qy
      rw[eO qy] at hy
      obtain ⟨v,hv,hp⟩:=mg i j y t' hy ht hj
      exact ⟨v,hv,hp.mono hle.db hle.cb⟩)
    refine ⟨_,w,I,_,cR,k1.trans a1,a2,?_⟩
    have:=ao.whole (P:=P) (w:=w) (I:=I) (β:=aI β nb (some b)) (hp:=aI (aI hp id (some .dead)) nb (some (.arr e (es.take hh.toNat) false))) (cap:=cap) (cQ _ _ _) (cQ _ _ _) zF (by rw[je];omega) hm
    rw[je] at this
    exact this
theorem qA {t:TypeId} {x:V} (h:o6 P t x=true):
  (∃q n,P.underlying t=some (.int q)∧x= .int q n∧GS q n=true)∨(∃b,P.underlying t=some .bool∧x= .bool b)∨(∃s,P.underlying t=some .string∧x= .str s∧s.length≤maxLen):=by
 unfold o6 at h
 split at h
 ·rename_i q q' n hu
  simp only[aK,ec] at h
  obtain ⟨rfl,h⟩:=h
  exact .inl ⟨_,_,hu,rfl,h⟩
 ·rename_i b hu
  exact .inr (.inl ⟨_,hu,rfl⟩)
 ·rename_i s hu
  exact .inr (.inr ⟨_,hu,rfl,by simpa using h⟩)
 ·cases h
theorem size_data (s:ByteArray):s.data.toList.length=s.size:=by simp
theorem XX {q:IntKind} {n:Int} (h:GS q n=true):(Lit.int q n).wf=true:=h
theorem NJ {t:TypeId} {x:V} {v:Value} (h:o6 P t x=true) (hv:jc v x): ∃l,mapKey P t v=some l∧∀d,P.keyLits (d+1) t [v]=some [l]:=by
 rcases qA h with ⟨q,n,hu,rfl,hn⟩|⟨b,hu,rfl⟩|⟨s,hu,rfl,hs⟩
 ·obtain rfl:v= .int q n:=hv
  have hw:=XX hn
  exact ⟨.int q n,by simp[mapKey,hu,hw],fun d=>by simp[Program.keyLits,hu,hw]⟩
 ·obtain rfl:v= .bool b:=hv
  exact ⟨.bool b,by simp[mapKey,hu],fun d=>by simp[Program.keyLits,hu]⟩
 ·obtain ⟨s',rfl,HX⟩:=hv
  have:s'.size≤maxLen:=by rw[←size_data,HX];exact hs
  exact ⟨.string s'.data.toList,by simp[mapKey,hu,this],fun d=>by simp[Program.keyLits,hu,this]⟩
theorem HY {t:TypeId}: ∀{xs:List V} {j:Nat} {x:V},p7 P t xs=true→xs[j]? =some x→o6 P t x=true
 | [],j,x,_,h=>by simp at h
 | y::ys,0,x,h,hx=>by
  simp only[p7,aK] at h
  simp at hx;subst hx;exact h.1
 | y::ys,j+1,x,h,hx=>by
  simp only[p7,aK] at h
  exact HY (j:=j) h.2 (by simpa using hx)
theorem mapM_some {α β:Type} {f:α→Option β}: ∀{l:List α},(∀a∈l,∃b,f a=some b)→∃bs,l.mapM f=some bs
 | [],_=>⟨[],rfl⟩
 | a::l,h=>by
  obtain ⟨b,hb⟩:=h a (rr ..)
  obtain ⟨bs,gK⟩:=mapM_some (l:=l) fun x hx=>h x (ld _ hx)
  exact ⟨b::bs,by simp[List.mapM_cons,hb,gK]⟩
inductive HZ (P:Program) (t:TypeId) (x:V):Prop
 | one:o6 P t x=true→x.cells=[x]→HZ P t x
 | arr {n:Nat} {e:TypeId} {xs:List V}:x= .agg xs→WideMaps.ArrKey P t e n→xs.length=n→0<P.types.size→p7 P e xs=true→HZ P t x
theorem v5 {t:TypeId} {x:V} (h:mS P t x=true):HZ P t x:=by
 unfold mS at h
 split at h
 ·rename_i n e xs hu
  simp only[aK,aR] at h
  rw[jQ] at h
  exact .arr rfl ⟨hu,h.2.2.2.1,h.2.1,h.2.2.1⟩ h.1 h.2.2.2.2.1 h.2.2.2.2.2
 ·refine .one h ?_
  rcases qA h with ⟨q,n,hu,rfl,hn⟩|⟨b,hu,rfl⟩|⟨s,hu,rfl,hs⟩<;>rfl
theorem qf.one {x:V} {v:Value} (h:qf v x) (hx:x.cells=[x]):jc v x:=by
 cases x<;>first|exact h|skip
 simp only[V.cells] at hx
 rename_i cs
 have:=congrArg List.length hx
 cases cs with
 | nil=>simp at hx
 | cons c cs=>
  simp only[List.cons.injEq] at hx
  have:=congrArg SizeOf.sizeOf hx.1
  simp at this
  omega
theorem DG {t:TypeId} {x:V} {v:Value} (h:mS P t x=true) (hv:qf v x): ∃l,Go.keyOf P t v=some l:=by
 cases v5 h with
 | one h1 hx=>
  obtain ⟨l,hl,_⟩:=NJ h1 (hv.one hx)
  refine ⟨l,?_⟩
  rcases qA h1 with ⟨q,n,hu,_⟩|⟨b,hu,_⟩|⟨s,hu,_⟩<;>simp only[Go.keyOf,hu,hl]
 | @arr n e xs hx A hl hp0 hf=>
  subst hx
  obtain ⟨cs,rfl,hs,hc⟩:=hv
  obtain ⟨m,hm⟩: ∃m,P.types.size=m+1:=⟨P.types.size-1,by omega⟩
  have XY:=A.keyType ⟨m,hm⟩
  have hlen:cs.toList.length=P.cellsOf t:=by rw[A.size];simp[hs,hl]
  have XZ:(Value.agg cs).formed P t=true:=by simp[Value.formed,A.hu,A.size,hs,hl]
  have hex: ∀i∈List.range n,∃y,P.keyLits (m+1) e (((Value.agg cs).cells.toList.drop (i*P.cellsOf e)).take (P.cellsOf e))=some y:=by
   intro i hi
   have hi:=List.mem_range.1 hi
   rw[A.one]
   have fX:i<cs.size:=by omega
   have bV:i<xs.length:=by omega
   obtain ⟨l,_,U⟩:=NJ (HY hf (bO bV)) (hc i cs[i] xs[i] (kD fX) (bO bV))
   have e1:((Value.agg cs).cells.toList.drop (i*1)).take 1=[cs[i]]:=by
    show (cs.toList.drop (i*1)).take 1=_
    rw[mN,List.drop_eq_getElem_cons (by simpa using fX)]
    simp
   rw[e1]
   exact ⟨_,U m⟩
  obtain ⟨bs,gK⟩:=mapM_some hex
  refine ⟨.string (keyBytes bs.flatten),?_⟩
  have X0:(Value.agg cs).cells.toList.length=P.cellsOf t:=hlen
  unfold Go.keyOf
  rw[A.hu]
  simp only[XY,XZ,Bool.and_self,cI]
  unfold Program.keyLits
  rw[A.hu,hm]
  simp only[X0,cI,gK,Option.map_some]
theorem H0 {t:TypeId} {x:V} (h:mS P t x=true):Keyed P t:=by
 cases v5 h with
 | one h1 hx=>
  rcases qA h1 with ⟨q,n,hu,_⟩|⟨b,hu,_⟩|⟨s,hu,_⟩
  ·exact int_keyed hu
  ·exact bool_keyed hu
  ·exact string_keyed hu
 | arr hx A hl _ hf=>exact Keyed.of_law A.law
theorem NK {t:TypeId} {x y:V} {v u:Value} (h1:o6 P t x=true) (U:o6 P t y=true) (hv:jc v x) (hu:jc u y):vo x y=true↔v=u:=by
 rcases qA h1 with ⟨q,n,mh,rfl,_⟩|⟨b,mh,rfl⟩|⟨s,mh,rfl,_⟩<;>
 rcases qA U with ⟨q',n',mi,rfl,_⟩|⟨b',mi,rfl⟩|⟨s',mi,rfl,_⟩<;>
  (rw[mh] at mi;cases mi)
 ·obtain rfl:v= .int q n:=hv
  obtain rfl:u= .int q n':=hu
  simp[vo]
 ·obtain rfl:v= .bool b:=hv
  obtain rfl:u= .bool b':=hu
  simp[vo]
 ·obtain ⟨s1,rfl,e1⟩:=hv
  obtain ⟨s2,rfl,e2⟩:=hu
  simp only[vo,beq_iff_eq,Value.string.injEq,←e1,←e2]
  constructor
  ·intro h
   have:=Array.toList_inj.1 h
   cases s1;cases s2;simp_all
  ·rintro rfl;rfl
theorem NL {t:TypeId}: ∀{xs ys:List V} {vs us:List Value},p7 P t xs=true→p7 P t ys=true→xs.length=ys.length→vs.length=xs.length→us.length=ys.length→
  (∀(j:Nat) v x,vs[j]? =some v→xs[j]? =some x→jc v x)→(∀(j:Nat) v x,us[j]? =some v→ys[j]? =some x→jc v x)→(s7 xs ys=true↔vs=us)
 | [],[],vs,us,_,_,_,h1,U,_,_=>by
  have e1:=lb (l:=vs) (by simpa using h1)
  have e2:=lb (l:=us) (by simpa using U)
  simp[s7,e1,e2]
 | [],_::_,_,_,_,_,h,_,_,_,_=>by simp at h
 | _::_,[],_,_,_,_,h,_,_,_,_=>by simp at h
 | x::xs,y::ys,[],us,_,_,_,h,_,_,_=>by simp at h
 | x::xs,y::ys,v::vs,[],_,_,_,_,h,_,_=>by simp at h
 | x::xs,y::ys,v::vs,u::us,f1,f2,h,h1,U,r1,r2=>by
  simp only[p7,aK] at f1 f2
  have a:=NK f1.1 f2.1 (r1 0 v x rfl rfl) (r2 0 u y rfl rfl)
  have b:=NL (vs:=vs) (us:=us) f1.2 f2.2 (by simpa using h) (by simpa using h1) (by simpa using U) (fun j v x hj hx=>r1 (j+1) v x (by simpa using hj) (by simpa using hx)) (fun j v x hj hx=>r2 (j+1) v x (by simpa using hj) (by simpa using hx))
  simp only[s7,aK,a,b,List.cons.injEq]
theorem H2 {t:TypeId} {x y:V} {v u:Value} (h1:mS P t x=true) (U:mS P t y=true) (hv:qf v x) (hu:qf u y):lY x y=true↔v=u:=by
 unfold lY
 cases v5 h1 with
 | one f1 c1=>
  cases v5 U with
  | one f2 c2=>
   rw[c1,c2]
   simp only[s7,Bool.and_true]
   exact NK f1 f2 (hv.one c1) (hu.one c2)
  | arr hy A hl _ hf=>
   rcases qA f1 with ⟨q,n,mh,_⟩|⟨b,mh,_⟩|⟨s,mh,_⟩<;>(rw[A.hu] at mh;cases mh)
 | arr hx A hl _ hf=>
  cases v5 U with
  | one f2 c2=>
   rcases qA f2 with ⟨q,n,mh,_⟩|⟨b,mh,_⟩|⟨s,mh,_⟩<;>(rw[A.hu] at mh;cases mh)
  | arr hy A2 jr _ zH=>
   have gn:=A.hu.symm.trans A2.hu
   cases gn
   subst hx
   subst hy
   obtain ⟨cs,rfl,s1,r1⟩:=hv
   obtain ⟨ds,rfl,s2,r2⟩:=hu
   have:=NL (vs:=cs.toList) (us:=ds.toList) hf zH (by omega) (by simpa using s1) (by simpa using s2) (fun j v x hj hx=>r1 j v x (by simpa using hj) hx) (fun j v x hj hx=>r2 j v x (by simpa using hj) hx)
   simp only[V.cells,this,Value.agg.injEq]
   exact Array.toList_inj
theorem NM {k:V}: ∀{es:List V},(∀x∈es,lY k (x.comp 0)=false)→lk k es=false∧(∀z,lZ k es z=z)∧∀v,iw k v es=es++[.bn [k,v]]
 | [],_=>⟨rfl,fun _=>rfl,fun _=>rfl⟩
 | e::es,h=>by
  have h0:=h e (rr ..)
  obtain ⟨a,b,c⟩:=NM (k:=k) (es:=es) fun x hx=>h x (ld _ hx)
  exact ⟨by simp[lk,h0,a],fun z=>by simp[lZ,h0,b],fun v=>by simp[iw,h0,c]⟩
theorem NN {k:V}: ∀{es:List V} {j:Nat} {k' y:V},es[j]? =some (.bn [k',y])→lY k k'=true→(∀i x,i<j→es[i]? =some x→lY k (x.comp 0)=false)→
  lk k es=true∧(∀z,lZ k es z=y)∧∀v,iw k v es=es.set j (.bn [k',v])
 | [],j,k',y,h,_,_=>by simp at h
 | e::es,0,k',y,h,he,_=>by
  simp at h
  subst h
  exact ⟨by simp[lk,V.comp,V.nth,he],fun z=>by simp[lZ,V.comp,V.nth,he],fun v=>by simp[iw,V.comp,V.nth,he]⟩
 | e::es,j+1,k',y,h,he,aO=>by
  have h0:=aO 0 e (by omega) rfl
  obtain ⟨a,b,c⟩:=NN (k:=k) (es:=es) (j:=j) (by simpa using h) he fun i x hi hx=>aO (i+1) x (by omega) (by simpa using hx)
  exact ⟨by simp[lk,h0,a],fun z=>by simp[lZ,h0,b],fun v=>by simp[iw,h0,c]⟩
theorem NO {kt vt:TypeId} {E:Array MapEntry} {es:List V} {k:V} {kv:Value} (hs:E.size=es.length) (hx: ∀(j:Nat) (e:MapEntry) (x:V),E[j]? =some e→es[j]? =some x→CZ P kt vt e x)
  (hn:E.toList.Pairwise (fun a b=>a.key≠b.key)) (hk:mS P kt k=true) (DH:qf kv k) (w:World):
  ((Instr.findKey kt kv E.toList).run P w= .ok none w∧(∀e∈E.toList,e.key≠kv)∧lk k es=false∧(∀z,lZ k es z=z)∧∀v,iw k v es=es++[.bn [k,v]])∨
  ∃j e k' y,(Instr.findKey kt kv E.toList).run P w= .ok (some (j,e.val)) w∧E[j]? =some e∧e.key=kv∧es[j]? =some (.bn [k',y])∧mS P kt k'=true∧qf kv k'∧eI P vt y=true∧jc e.val y∧
   lk k es=true∧(∀z,lZ k es z=y)∧∀v,iw k v es=es.set j (.bn [k',v]):=by
 have K:=H0 hk
 obtain ⟨l,hl⟩:=DG hk DH
 have NP: ∀(j:Nat) x,es[j]? =some x→∃e,E[j]? =some e∧CZ P kt vt e x:=by
  intro j x hj
  have aO:j<E.size:=by rw[hs];exact (bu.1 hj).1
  exact ⟨E[j],kD aO,hx j _ x (kD aO) hj⟩
 have keys: ∀e∈E.toList,∃l,Go.keyOf P kt e.key=some l:=by
  intro e he
  obtain ⟨j,hj⟩:=rp he
  have gl:E[j]? =some e:=by simpa using hj
  have aO:j<es.length:=by rw[←hs];exact (gZ.1 gl).1
  obtain ⟨k',y,_,h1,U,_⟩:=hx j e es[j] gl (bO aO)
  exact DG h1 U
 rcases K.find w hl E.toList keys with ⟨h1,U⟩|⟨j,e,h1,U,h3⟩
 ·left
  refine ⟨h1,U,NM fun x X1=> ?_⟩
  obtain ⟨j,hj⟩:=rp X1
  obtain ⟨e,he,k',y,rfl,f1,f2,_⟩:=NP j x hj
  cases hq:lY k (V.comp (.bn [k',y]) 0) with
  | false=>rfl
  | true=>
   have:=(H2 hk f1 DH f2).1 hq
   exact absurd this.symm (U e (jo (by simpa using he)))
 ·right
  have hE:E[j]? =some e:=by simpa using U
  have aO:j<es.length:=by rw[←hs];exact (gZ.1 hE).1
  obtain ⟨k',y,hy,f1,f2,f3,f4⟩:=hx j e es[j] hE (bO aO)
  have hj:=bO aO
  rw[hy] at hj
  rw[h3] at f2
  refine ⟨j,e,k',y,h1,hE,h3,hj,f1,f2,f3,f4,NN hj ((H2 hk f1 DH f2).2 rfl) fun i x hi gj=> ?_⟩
  obtain ⟨e',gN,k2,y2,rfl,g1,g2,_⟩:=NP i x gj
  cases hq:lY k (V.comp (.bn [k2,y2]) 0) with
  | false=>rfl
  | true=>
   have:=(H2 hk g1 DH g2).1 hq
   have i1:i<E.toList.length:=by have:=(bu.1 gj).1;simp;omega
   have i2:j<E.toList.length:=by simp;omega
   have:=Ct.1 hn i j i1 i2 hi
   have a1:E.toList[i]=e':=by
    have:E.toList[i]? =some e':=by simpa using gN
    rw[bO i1] at this;exact c6 this
   have a2:E.toList[j]=e:=by
    have:=U
    rw[bO i2] at this;exact c6 this
   rw[a1,a2,h3] at this
   exact absurd (by rw[← ‹kv=e'.key›]) this
theorem ao.NQ {v:Value} {x:V} (h:ao P w I β hp v x) {t:TypeId} (hx:o6 P t x=true):jc v x:=by
 rcases qA hx with ⟨q,n,_,rfl,_⟩|⟨b,_,rfl⟩|⟨s,_,rfl,_⟩
 ·exact h.ei
 ·exact h.j5
 ·exact h.ma
theorem ao.NR {v:Value} {x:V} (h:ao P w I β hp v x) {t:TypeId} (hx:mS P t x=true):qf v x:=by
 cases v5 hx with
 | one f c=>
  have:=h.NQ f
  cases x<;>first|exact this|cases this
 | arr hx A hl _ hf=>
  subst hx
  obtain ⟨cs,rfl,h1,U⟩:=h.kM
  exact ⟨cs,rfl,h1,fun j u y hu hy=>(U j u y hu hy).NQ (HY hf hy)⟩
theorem NS {vt:TypeId} {y:V} (h:mapVal P vt=true) (ht:eI P vt y=true):(∃q n,P.underlying vt=some (.int q)∧y= .int q n)∨∃b,P.underlying vt=some .bool∧y= .bool b:=by
 unfold mapVal at h
 unfold eI at ht
 split at h
 ·rename_i q hu
  rw[hu] at ht
  cases y<;>first|(simp at ht;done)|skip
  simp only[ec] at ht
  subst ht
  exact .inl ⟨_,_,hu,rfl⟩
 ·rename_i hu
  rw[hu] at ht
  cases y<;>first|(simp at ht;done)|skip
  exact .inr ⟨_,hu,rfl⟩
 ·cases h
theorem jc.H3 {vt:TypeId} {v:Value} {y:V} (h:mapVal P vt=true) (ht:eI P vt y=true) (hv:jc v y):ao P w I β hp v y:=by
 rcases NS h ht with ⟨q,n,_,rfl⟩|⟨b,_,rfl⟩
 ·obtain rfl:v= .int q n:=hv;exact .int
 ·obtain rfl:v= .bool b:=hv;exact .bool
theorem ao.X2 {vt:TypeId} {v:Value} {y:V} (h:mapVal P vt=true) (ht:eI P vt y=true) (hv:ao P w I β hp v y):jc v y:=by
 rcases NS h ht with ⟨q,n,_,rfl⟩|⟨b,_,rfl⟩
 ·exact hv.ei
 ·exact hv.j5
theorem X3 {vt:TypeId} {z:V} (h:CK P vt=some z) (w:World): ∃v,(zeroValue vt).run P w= .ok v w∧jc v z:=by
 unfold CK at h
 cases hi:P.info? vt with
 | none=>rw[hi] at h;cases h
 | some i=>
  rw[hi] at h
  simp only[Option.bind_some] at h
  cases hz:i.zero with
  | none=>rw[hz] at h;cases h
  | some v=>
   rw[hz] at h
   refine ⟨v,by simp[zeroValue,typeInfo,hi,hz],?_⟩
   cases v<;>simp only at h<;>first|(cases h;done)|skip
   ·cases h;rfl
   ·cases h;rfl
theorem H4 {t kt vt:TypeId} (h:ll P t=some (kt,vt)):P.underlying t=some (.map kt vt):=by
 unfold ll at h
 split at h
 ·rename_i k e hu;cases h;exact hu
 ·cases h
theorem H5 (S:aF P w I β hp B M w0) {ok:Bool} {v:Value} {x:V} {b:Bool} {r:R} {rd:List Nat} {res:Result Value} (hv:ao P w I β hp v x)
  (hr:res= .ok (if ok then .tuple #[v,.bool b] else v) w) (h:(CL ok x b).run C hp=some (r,rd)):cU P res w I β hp B M w0 r:=by
 unfold CL at h
 obtain rfl:=aM h
 cases ok with
 | false=>exact .same S hr hv
 | true=>
  refine .same S hr (.bn rfl fun j u y hu hy=> ?_)
  match j,hu,hy with
  | 0,hu,hy=>simp at hu hy;subst hu;subst hy;exact hv
  | 1,hu,hy=>simp at hu hy;subst hu;subst hy;exact .bool
  | j+2,hu,hy=>simp at hy
theorem X4 (S:aF P w I β hp B M w0) {t kt vt:TypeId} (ht:ll P t=some (kt,vt)) {m k:Value} {mx kx:V} {ok:Bool} {r:R} {rd:List Nat} (hm:ao P w I β hp m mx) (hk:ao P w I β hp k kx)
  (h:(GU P t mx kx ok).run C hp=some (r,rd)):cU P ((Instr.lookup t m k ok).run P w) w I β hp B M w0 r:=by
 unfold GU at h
 rw[ht] at h
 simp only at h
 cases hz:CK P vt with
 | none=>rw[hz] at h;cases h
 | some z=>
  rw[hz] at h
  obtain ⟨hc,h'⟩:=aG h
  clear h
  have h:=h'
  clear h'
  simp only[aK] at hc
  obtain ⟨j9,zI,DI⟩:=hc
  have hu:=H4 ht
  have v7:=hk.NR j9
  have K:=H0 j9
  obtain ⟨l,hl⟩:=DG j9 v7
  obtain ⟨zv,NT,NU⟩:=X3 hz w
  cases mx<;>simp only at h<;>first|(cases h;done)|skip
  ·rename_i t' id
   obtain ⟨lD,h'⟩:=aG h
   clear h
   have h:=h'
   clear h'
   rw[aR] at lD
   subst lD
   obtain ⟨l2,h'⟩:=run_get h
   clear h
   have h:=h'
   clear h'
   cases ab:hp id with
   | none=>rw[ab] at h;cases h
   | some blk=>
    rw[ab] at h
    cases blk<;>simp only at h<;>first|(cases h;done)|skip
    rename_i t2 es
    obtain ⟨lD,h'⟩:=aG h
    clear h
    have h:=h'
    clear h'
    rw[aR] at lD
    subst lD
    cases hm with
    | ia hd=>rw[ab] at hd;cases hd
    | @ct _ _ b aL hd hb=>
     rw[ab] at hd
     cases hd
     have hr:=S.h.rel id _ ab
     cases hr with
     | @map _ NV NW _ b' clock E fG aB hh hs hI hx hn=>
      rw[hb] at aB;cases aB
      rw[hu] at fG;cases fG
      rcases NO hs hx hn j9 v7 w with ⟨h1,_,h3,h4,_⟩|⟨j,e,k',y,h1,_,_,_,_,_,h6,h7,h3,h4,_⟩
      ·rw[h3,h4,zp DI] at h
       refine H5 S (jc.H3 zI DI NU) ?_ h
       unfold Instr.lookup
       simp only[Sem.run_bind,run_underlying hu,Result.andThen_ok,Go.MapKept.run_getObj_map hh,Sem.run_pure,K.check w E.isEmpty hl,h1,NT]
      ·rw[h3,h4,zp h6] at h
       refine H5 S (jc.H3 zI h6 h7) ?_ h
       unfold Instr.lookup
       simp only[Sem.run_bind,run_underlying hu,Result.andThen_ok,Go.MapKept.run_getObj_map hh,Sem.run_pure,K.check w E.isEmpty hl,h1]
  ·rename_i t'
   obtain ⟨lD,h⟩:=aG h
   cases hm
   rw[zp DI] at h
   refine H5 S (jc.H3 zI DI NU) ?_ h
   have hf:(Instr.findKey kt k []).run P w= .ok none w:=by
    rcases K.find w hl [] (by simp) with ⟨h1,_⟩|⟨j,e,_,U,_⟩
    ·exact h1
    ·simp at U
   unfold Instr.lookup
   simp[run_underlying hu,K.check w true hl,hf,NT]
theorem X5 (S:aF P w I β hp B M w0) {t:TypeId} {nb:Nat} {r:R} {rd:List Nat} (h:(Rd.aC (ll P t).isSome (iZ nb (.map t []) (.ct t nb) [])).run C hp=some (r,rd)):
  cU P ((Instr.makeMap t none).run P w) w I β hp B M w0 r:=by
 obtain ⟨ht,h⟩:=aG h
 obtain ⟨hn,rfl⟩:=m9 h
 obtain ⟨⟨kt,vt⟩,ht⟩:=yG.1 ht
 have hu:=H4 ht
 have cL: ¬I w.heap.size:=fun h=>Nat.lt_irrefl _ (S.h.jw _ h)
 have eK:(w.alloc (.map #[] 0)).heap[w.heap.size]? =some (.map #[] 0):=heap_alloc_new w _
 obtain ⟨a1,a2⟩:=zm S (w':=w.alloc (.map #[] 0)) (blk:= .map t []) (b:=w.heap.size) hn (fun aD blk' h ho=>Nat.lt_irrefl _ (S.h.lt h ho)) cL
  (fun b' _ aO=>heap_alloc_old w _ b' aO) (by simp) ⟨rfl,rfl⟩ (.inr S.size) (fun b' h=>(c6 (h.flat (by simp))).symm)
  (fun _=> .map hu rfl eK rfl cL (fun j e x he _=>by simp at he) (by simp))
 exact ⟨_,_,_,_,Go.RowKit.run_makeMap t w,a1,a2,.ct (cQ _ _ _) (cQ _ _ _)⟩
theorem NX (S:aF P w I β hp B M w0) {t kt vt:TypeId} (ht:ll P t=some (kt,vt)) {m k v:Value} {mx kx vx:V} {r:R} {rd:List Nat} (hm:ao P w I β hp m mx) (hk:ao P w I β hp k kx) (hv:ao P w I β hp v vx)
  (h:(CM P t mx kx vx).run C hp=some (r,rd)):pf P ((Instr.mapUpdate t m k v).run P w) w I β hp B M w0 r:=by
 unfold CM at h
 rw[ht] at h
 obtain ⟨hc,h'⟩:=aG h
 clear h
 have h:=h'
 clear h'
 simp only[aK] at hc
 obtain ⟨j9,zI,tI⟩:=hc
 have hu:=H4 ht
 have v7:=hk.NR j9
 have vN:=ao.X2 zI tI hv
 have K:=H0 j9
 obtain ⟨l,hl⟩:=DG j9 v7
 cases mx<;>simp only at h<;>first|(cases h;done)|skip
 rename_i t' id
 obtain ⟨lD,h'⟩:=aG h
 clear h
 have h:=h'
 clear h'
 rw[aR] at lD
 subst lD
 obtain ⟨l2,h'⟩:=run_get h
 clear h
 have h:=h'
 clear h'
 cases ab:hp id with
 | none=>rw[ab] at h;cases h
 | some blk=>
  rw[ab] at h
  cases blk<;>simp only at h<;>first|(cases h;done)|skip
  rename_i t2 es
  obtain ⟨lD,h'⟩:=aG h
  clear h
  have h:=h'
  clear h'
  rw[aR] at lD
  subst lD
  obtain rfl:=aM h
  cases hm with
  | ia hd=>rw[ab] at hd;cases hd
  | @ct _ _ b aL hd hb=>
   rw[ab] at hd
   cases hd
   have hr:=S.h.rel id _ ab
   cases hr with
   | @map _ NV NW _ b' clock E fG aB hh hs hI hx hn=>
    rw[hb] at aB;cases aB
    rw[hu] at fG;cases fG
    have aO:b<w.heap.size:=(gZ.1 hh).1
    have fin: ∀(E':Array MapEntry) (zJ:Nat),(Instr.mapUpdate t (.map (some b)) k v).run P w= .ok () {w with heap:=w.heap.setIfInBounds b (.map E' zJ)}→E'.size=(iw kx vx es).length→
      (∀(j:Nat) (e:MapEntry) (x:V),E'[j]? =some e→(iw kx vx es)[j]? =some x→CZ P kt vt e x)→E'.toList.Pairwise (fun a b=>a.key≠b.key)→
      pf P ((Instr.mapUpdate t (.map (some b)) k v).run P w) w I β hp B M w0 ⟨.undef,[(id,.map t (iw kx vx es))]⟩:=by
     intro E' zJ cR HX cw H6
     have eK:({w with heap:=w.heap.setIfInBounds b (.map E' zJ)}:World).heap[b]? =some (.map E' zJ):=by simp[aO]
     obtain ⟨a1,a2⟩:=Dd S (w':={w with heap:=w.heap.setIfInBounds b (.map E' zJ)}) (blk':= .map t (iw kx vx es)) ab (by simp) rfl hb hI (by simp)
      (fun b' aB=>by simp[Array.getElem?_setIfInBounds,Ne.symm aB]) (by simp only[bsize,eK,hh]) (by simp) ⟨rfl,rfl⟩ (fun _=> .map hu rfl eK HX hI cw H6)
     exact ⟨_,I,β,cR,a1,a2,rfl⟩
    rcases NO hs hx hn j9 v7 w with ⟨h1,U,_,_,h5⟩|⟨j,e,k',y,h1,hE,NY,oo,X6,X7,_,_,_,_,h5⟩
    ·have e5:=h5 vx
     refine fin (E.push {key:=k,val:=v,born:=clock}) (clock+1) ?_ (by rw[e5];simp[hs]) (fun j e x he qo=> ?_) ?_
     ·unfold Instr.mapUpdate
      simp only[Sem.run_bind,run_underlying hu,Result.andThen_ok,Go.MapKept.run_getObj_map hh,K.check w false hl,h1,Go.MapKept.run_setObj_map _ hh]
     ·rw[e5] at qo
      rw[Array.getElem?_push] at he
      split at he
      ·rename_i hj
       rw[iv (by omega),hj,hs,Nat.sub_self] at qo
       simp at he qo
       subst he;subst qo
       exact ⟨kx,vx,rfl,j9,v7,tI,vN⟩
      ·have hj:j<E.size:=(gZ.1 he).1
       rw[iu (by omega)] at qo
       exact hx j e x he qo
     ·rw[Array.toList_push,List.pairwise_append]
      refine ⟨hn,by simp,fun a ha b' aB=> ?_⟩
      simp only[en] at aB
      subst aB
      exact U a ha
    ·have e5:=h5 vx
     have hj:j<E.size:=(gZ.1 hE).1
     refine fin (E.modify j fun e=>{e with key:=k,val:=v}) clock ?_ (by rw[e5];simp[hs]) (fun i e' x he gj=> ?_) ?_
     ·have bI:=K.stays w hl
      unfold Instr.mapUpdate
      simp only[Sem.run_bind,run_underlying hu,Result.andThen_ok,Go.MapKept.run_getObj_map hh,K.check w false hl,h1]
      simp only[hE,Option.map_some,Option.getD_some,NY,bI,Result.andThen_ok,Go.MapKept.run_setObj_map _ hh]
     ·rw[e5] at gj
      rw[yH] at he
      rw[List.getElem?_set] at gj
      split at he
      ·rename_i tJ
       subst tJ
       rw[aj rfl,aj (by omega)] at gj
       rw[hE] at he
       simp at he gj
       subst he;subst gj
       exact ⟨k',vx,rfl,X6,X7,tI,vN⟩
      ·rename_i tJ
       rw[ai tJ] at gj
       exact hx i e' x he gj
     ·have tK: ∀i (h1:i<(E.modify j fun e=>{e with key:=k,val:=v}).toList.length) (U:i<E.toList.length),((E.modify j fun e=>{e with key:=k,val:=v}).toList[i]).key=(E.toList[i]).key:=by
       intro i h1 U
       simp only[Array.getElem_toList,Array.getElem_modify]
       split
       ·rename_i tJ
        subst tJ
        have:=(gZ.1 hE).2
        rw[this,NY]
       ·rfl
      rw[Ct] at hn⊢
      intro i i' h1 U iH
      have g1:i<E.toList.length:=by simpa using h1
      have g2:i'<E.toList.length:=by simpa using U
      rw[tK i h1 g1,tK i' U g2]
      exact hn i i' g1 g2 iH
theorem X8 (S:aF P w I β hp B M w0) {t ty kt vt:TypeId} {v:Value} {x:V} {r:R} {rd:List Nat} (hu:P.underlying t=some (.map kt vt)) (hv:ao P w I β hp v x)
  (h:(CN x).run C hp=some (r,rd)):cU P ((Builtin.len_ #[t] ty #[v]).run P w) w I β hp B M w0 r:=by
 unfold CN at h
 cases x<;>simp only at h<;>first|(cases h;done)|skip
 ·rename_i t' id
  obtain ⟨l2,h'⟩:=run_get h
  clear h
  have h:=h'
  clear h'
  cases ab:hp id with
  | none=>rw[ab] at h;cases h
  | some blk=>
   rw[ab] at h
   cases blk<;>simp only at h<;>first|(cases h;done)|skip
   rename_i t2 es
   obtain rfl:=aM h
   cases hv with
   | ia hd=>rw[ab] at hd;cases hd
   | @ct _ _ b aL hd hb=>
    rw[ab] at hd
    cases hd
    have hr:=S.h.rel id _ ab
    cases hr with
    | @map _ NV NW _ b' clock E fG aB hh hs hI hx hn=>
     rw[hb] at aB;cases aB
     refine .same S (v:= .int .i64 E.size) (by simp[Builtin.len_,run_underlying hu,Go.MapKept.run_getObj_map hh,goInt]) ?_
     rw[hs]
     exact .int
 ·obtain rfl:=aM h
  cases hv
  exact .same S (v:= .int .i64 0) (by simp[Builtin.len_,run_underlying hu,goInt]) .int
theorem ao.H7 {v:Value} {t:TypeId} (h:ao P w I β hp v (.dy t)):v= .map none:=by cases h;rfl
theorem ao.X9 {v:Value} {t t':TypeId} {id:Nat} {es:List V} (h:ao P w I β hp v (.ct t id)) (ab:hp id=some (.map t' es)): ∃b,v= .map (some b):=by
 cases h with
 | ia h=>rw[ab] at h;cases h
 | ct h hb=>exact ⟨_,rfl⟩
theorem NZ (S:aF P w I β hp B M w0) {op:BinOp} {t:TypeId} {a:Option Nat} {r:R} {rd:List Nat} (x y:Operand)
  (h:(CH P op t a.isNone).run C hp=some (r,rd)):cU P ((do eqGuard op t x y (.map a) (.map none);binOp op t (.map a) (.map none)).run P w) w I β hp B M w0 r:=by
 unfold CH at h
 split at h
 case h_2=>cases h
 rename_i kt vt hu
 have he:(Op.equal t (.map a) (.map none)).run P w= .ok a.isNone w:=by
  show (Op.equalIn (9999+1) t (.map a) (.map none)).run P w=_
  rw[Op.equalIn]
  cases a<;>simp[Sem.run_bind,run_underlying hu,Result.andThen_ok,Sem.run_pure]
 cases op<;>simp only at h<;>first|(cases h;done)|skip
 ·obtain rfl:=aM h
  exact .same S (by simp[eqGuard,binOp,he]) .bool
 ·obtain rfl:=aM h
  exact .same S (by simp[eqGuard,binOp,he]) .bool
end
end Go.AM
namespace Go.AM
section
variable {P:Program} {w w':World} {I I':Nat→Prop} {β β':Nat→Option Nat} {hp hp':Nat→Option an} {C:ag} {B:Nat} {M:Nat→Prop} {w0:Start}
theorem Ya {e:TypeId} (he:P.underlying e=some (.int .u8)) (hc:P.cellsOf e=1) (s:ByteArray): ∀(i j:Nat) (x:V) (t':TypeId),(s.data.toList.map dz)[i]? =some x→(aS P e)[j]? =some t'→j<P.cellsOf e→
  ∃u,(Lib.strCells s)[i*P.cellsOf e+j]? =some u∧Pure P w I t' u (bM P e x j):=by
 intro i j x t' hx ht hj
 have nf:bK P e=false:=by simp[bK,he]
 obtain rfl:j=0:=by omega
 simp only[aS,nf,cond_false,List.getElem?_cons_zero,dR] at ht
 subst ht
 rw[gF] at hx
 cases hb:s.data.toList[i]? with
 | none=>rw[hb] at hx;cases hx
 | some b=>
  rw[hb] at hx
  cases hx
  refine ⟨.int .u8 b.toNat,?_,?_⟩
  ·rw[hc,mN,Nat.add_zero]
   simp only[Lib.strCells,gF,hb,Option.map_some]
  ·simp only[bM,nf,cond_false]
   exact .int he
theorem Yb (w:World) (t u ty e:TypeId) (i:TypeInfo) (z:Value) (ht:P.underlying t=some (.slice e)) (hu:P.underlying u=some .string) (hi:P.info? e=some i) (hz:i.zero=some z)
  (s:ByteArray) (h0:0<s.size) (DC:(s.size:Int)≤9223372036854775807) (DD:s.size*i.bytes≤281474976710656) (a0:Option Addr):
  (Builtin.append_ #[t,u] ty #[.slice a0 0 0,.string s]).run P w=
   .ok (.slice (some ⟨w.heap.size,0,none⟩) s.size (grownCap w s.size 0 e))
    (w.drew.alloc (.cells (s.data.map (fun b=>Value.int .u8 b.toNat)++Builtin.zeroCells z.cells (grownCap w s.size 0 e-s.size)) e)):=by
 cases a0 with
 | none=>exact run_append_nil_string w t u ty e i z ht hu hi hz s h0 DC DD
 | some b=>
  rw[←run_append_nil_string w t u ty e i z ht hu hi hz s h0 DC DD]
  have hn:s.size≠0:=by omega
  have Yc: ¬(9223372036854775807<(s.size:Int)):=by omega
  have Yd: ¬(281474976710656<Builtin.nextslicecap s.size 0*i.bytes):=by rw[nextslicecap_zero h0];omega
  simp[Builtin.append_,run_underlying ht,run_underlying hu,sizeOf,typeInfo,zeroValue,hi,hz,Builtin.lenOf,Builtin.firstCells,hn,Yc,Yd,Question.forced,newRow,grownCap,loadCells,loadCellsFrom]
theorem N0 (S:aF P w I β hp B M w0) {t u ty e:TypeId} {nb:Nat} {x:ByteArray} {xs:List V} {i:TypeInfo} {z:Value} (hu:P.underlying t=some (.slice e)) (oq:P.underlying u=some .string) (au:cM P e=true) (hn:hp nb=none)
 (hi:P.info? e=some i) (hz:i.zero=some z) (h3:i.size=P.cellsOf e) (h4:z.cells.size=P.cellsOf e) (v8:i.size=1) (mf:P.bytesOf e=i.bytes) (dO:xs.length*P.bytesOf e≤bU) (mj:xs.length=x.size) (lC:(Lib.strCells x).length=x.size)
 (cN: ∀(i j:Nat) (y:V) (t':TypeId),xs[i]? =some y→(aS P e)[j]? =some t'→j<P.cellsOf e→∃u,(Lib.strCells x)[i*P.cellsOf e+j]? =some u∧Pure P w I t' u (bM P e y j)):
 ∀a0,∃v w' β',(Builtin.append_ #[t,u] ty #[.slice a0 0 0,.string x]).run P w= .ok v w'∧Le P w I β hp w' I β' (aI hp nb (some (.arr e xs false)))∧aF P w' I β' (aI hp nb (some (.arr e xs false))) B M w0∧
  ao P w' I β' (aI hp nb (some (.arr e xs false))) v (.whole e nb):=by
 intro a0
 have tF:=vE au
 have hlen:xs.length≤2^45:=by
  have:xs.length*1≤xs.length*P.bytesOf e:=sV _ tF
  simp only[bU] at dO
  omega
 by_cases h0:x.size=0
 ·have gm:xs=[]:=lb (by omega)
  subst gm
  obtain ⟨a1,a2⟩:=Db S e hn
  have hf:=Lib.run_firstCells_string (P:=P) w 1 x
  rw[h0] at hf
  have qt:Lib.strCells x=[]:=lb (by omega)
  exact ⟨.slice a0 0 0,_,_,by cases a0<;>simp[storeCells,qt,Builtin.append_,run_underlying hu,run_underlying oq,sizeOf,typeInfo,hi,v8,Builtin.lenOf,h0,hf],a1,a2,.dF (cQ _ _ _) (cQ _ _ _)⟩
 ·have cR:=Yb (P:=P) w t u ty e i z hu oq hi hz x (by omega) (by omega) (by rw[←mf,←mj];simp only[bU] at dO;omega) a0
  have e1:(x.data.map fun b=>Value.int .u8 b.toNat)=(Lib.strCells x).toArray:=by
   apply Array.ext'
   simp[Lib.strCells]
  rw[e1,←mj] at cR
  have pn:=grownCap_ge w xs.length 0 e
  have tG:grownCap w xs.length 0 e≤maxLen:=grownCap_le_maxLen w xs.length 0 e (by simp only[maxLen];omega)
  obtain ⟨n1,n2,n3⟩:=vX S.drew (nb:=nb) (cap:=grownCap w xs.length 0 e) (es:=xs) (C0:=(Lib.strCells x).toArray++Builtin.zeroCells z.cells (grownCap w xs.length 0 e-xs.length)) au hn
   (by
    have:(Lib.strCells x).length=xs.length*P.cellsOf e:=by rw[lC,mj,←h3,v8,mN]
    simp only[Cr,pV,size_zeroCells,h4,this,←dh];congr 1;omega) pn tG
   (fun i' j y t' hy ht hj=>by
    obtain ⟨u,fG,hp⟩:=cN i' j y t' hy ht hj
    have aO:=(bu.1 fG).1
    refine ⟨u,?_,Pure.drew hp⟩
    rw[Array.getElem?_append_left (by simpa using aO)]
    simpa using fG)
  exact ⟨_,_,_,cR,(Le.drew w I β hp).trans n1,n2,n3⟩
theorem Ye (S:aF P w I β hp B M w0) {t u ty e:TypeId} {nb:Nat} {s:Value} {sv:V} {x:ByteArray} {r:R} {rd:List Nat} (hu:P.underlying t=some (.slice e)) (oq:P.underlying u=some .string) (he:P.underlying e=some (.int .u8)) (hs:ao P w I β hp s sv)
  (h:(vp P nb e sv (.list e (x.data.toList.map dz))).run C hp=some (r,rd)):cU P ((Builtin.append_ #[t,u] ty #[s,.string x]).run P w) w I β hp B M w0 r:=by
 unfold vp at h
 obtain ⟨au,h⟩:=aG h
 simp only[rD] at h
 obtain ⟨_,h⟩:=aG h
 have nf:bK P e=false:=by simp[bK,he]
 have dH:P.cellsOf e=1:=by rw[←(j4 au).1,zi nf];rfl
 obtain ⟨i,z,hi,hz,h3,h4,_⟩:=j7 au
 have v8:i.size=1:=by rw[h3,dH]
 have tF:=vE au
 have mf:P.bytesOf e=i.bytes:=by simp[Program.bytesOf,hi]
 have DJ:=Ya (P:=P) (w:=w) (I:=I) he dH x
 have mj:(x.data.toList.map dz).length=x.size:=by simp
 have lC:(Lib.strCells x).length=x.size:=Lib.strCells_length x
 have h1:=Lib.strCells_oneCell x
 generalize gm:x.data.toList.map dz=xs at*
 cases sv with
 | nilS e'=>
  obtain ⟨hc,h⟩:=aG h
  simp only[aK,aR,dx] at hc
  obtain ⟨hn,rfl⟩:=m9 h
  obtain ⟨a0,rfl⟩: ∃a0,s= .slice a0 0 0:=by cases hs;exact ⟨_,rfl⟩
  obtain ⟨v,w',β',a1,a2,a3,a4⟩:=N0 S hu oq au hn hi hz h3 h4 v8 mf hc.2 mj lC DJ _
  exact ⟨v,w',I,β',a1,a2,a3,a4⟩
 | whole e' id=>
  obtain ⟨l,h⟩:=run_get h
  cases ab:hp id with
  | none=>rw[ab] at h;cases h
  | some blk=>
   rw[ab] at h
   cases blk with
   | dead=>cases h
   | var _=>cases h
   | nest _ _ _=>cases h
   | map _ _=>cases h
   | arr dD es fz=>
    cases fz with
    | true=>cases h
    | false=>
     obtain ⟨hc,h⟩:=aG h
     obtain ⟨hn,rfl⟩:=m9 h
     simp only[aK,aR,dx] at hc
     obtain ⟨HO,HP,dO⟩:=hc
     subst HO
     subst HP
     have bC:nb≠id:=fun e=>by rw[e,ab] at hn;cases hn
     obtain ⟨k1,k2⟩:=Dc S ab
     have j8:aI hp id (some an.dead) nb=none:=by rw[eh _ _ bC];exact hn
     cases hs with
     | ef hd=>rw[ab] at hd;cases hd
     | er hd=>rw[ab] at hd;cases hd
     | dF hd hb=>
      rw[ab] at hd
      cases hd
      simp only[List.length_nil,gE] at dO
      obtain ⟨v,w',β',a1,a2,a3,a4⟩:=N0 k2 hu oq au j8 hi hz h3 h4 v8 mf dO mj lC DJ _
      exact ⟨v,w',I,β',a1,k1.trans a2,a3,a4⟩
     | @whole _ _ aL mT b cap hd hb aX b9 hm=>
      rw[ab] at hd
      cases hd
      have hr:=S.h.rel id _ ab
      cases hr with
      | dG aB=>rw[aB] at hb;cases hb
      | @arr _ _ _ b' Ca _ aB hh pq hf eg mg=>
       rw[hb] at aB
       cases aB
       have hlen:es.length+xs.length≤2^45:=by
        have:(es.length+xs.length)*1≤(es.length+xs.length)*P.bytesOf e:=sV _ tF
        simp only[bU] at dO
        omega
       rw[mX hh] at aX
       have qm: ∀aD blk',aI hp id (some an.dead) aD=some blk'→¬bw P w (β aD) blk' b:=by
        intro aD blk' h1 U
        by_cases iH:aD=id
        ·subst iH;rw[cQ] at h1;cases h1;exact U.alive rfl
        ·rw[eh _ _ iH] at h1
         exact iH (S.h.inj aD id blk' _ b h1 ab U (.root (by simp) hb))
       have HQ:=S.h.rL id _ b ab (by simp) hb
       have lE:es.length*P.cellsOf e≤Ca.toList.length:=by simpa using pq
       have N3:(Lib.strCells x).length=xs.length*P.cellsOf e:=by rw[lC,mj,dH,mN]
       by_cases rU:es.length+xs.length≤cap
       ·have zD:es.length*P.cellsOf e+(Lib.strCells x).length≤Ca.size:=by rw[N3,←dh,←aX];exact dC _ rU
        have cR:=Lib.run_append_room_string (P:=P) w t u ty e i hu oq hi v8 b es.length cap Ca hh x (by rw[←mj];exact rU) (by rw[←lC];rw[dH,mN] at zD;exact zD)
        have cN:=DA (P:=P) (w:=w) (I:=I) (n:=es.length) (c:=Ca.toList) rfl (fun i j y t' a b c=>by
         obtain ⟨v,hv,hp⟩:=mg i j y t' a b c
         exact ⟨v,by simpa using hv,hp⟩) DJ lE (Ca.toList.drop (es.length*P.cellsOf e+(Lib.strCells x).length))
        generalize vT:(Ca.toList.take es.length++Lib.strCells x++Ca.toList.drop (es.length+x.size)).toArray=C' at cR
        have oj:C'.size=Ca.size:=by
         rw[dH,mN] at zD
         rw[←vT];simp;omega
        have N4:(w.setRow b C').heap[b]? =some (.cells C' e (0,0)):=setRow_heap w b Ca C' e _ hh
        obtain ⟨a1,a2⟩:=zm k2 (blk:= .arr e (es++xs) false) (w':=w.setRow b C') j8 qm (eg rfl) (fun b' h _=>setRow_other w b b' _ h) (by simp) ⟨rfl,rfl⟩ HQ
         (fun b' h=>(c6 (h.flat (by simp))).symm) (fun hle=> .arr au rfl N4 (by rw[oj,←aX];exact dC _ (by simpa using rU)) (fun h=>by cases h) (fun _=>eg rfl) fun i j y t' a b c=>by
          obtain ⟨v,hv,hp⟩:=cN i j y t' a b c
          refine ⟨v,?_,hp.mono hle.db hle.cb⟩
          rw[←vT,mM]
          rw[dH] at hv⊢
          simpa[lC] using hv)
        refine ⟨_,_,_,_,cR,k1.trans a1,a2,?_⟩
        have a3:=ao.whole (P:=P) (w:=w.setRow b C') (I:=I) (β:=aI β nb (some b)) (hp:=aI (aI hp id (some .dead)) nb (some (.arr e (es++xs) false))) (cap:=cap) (b:=b) (es:=es++xs) (fz:=false) (id:=nb) (e:=e) (cQ _ _ _) (cQ _ _ _) (by rw[mX N4,oj,aX]) (by simpa using rU) hm
        rw[bS,mj] at a3
        exact a3
       ·have hold: ∀(j:Nat) v,(Ca.toList.take (es.length*P.cellsOf e))[j]? =some v→w.cell? ((⟨b,0,none⟩:Addr).add j)=some v:=by
         intro j v hj
         have cd:=(bu.1 hj).1
         have fW:j<es.length*P.cellsOf e:=by rw[eP] at cd;omega
         rw[eO fW] at hj
         rw[m7,cell?_cells hh,gE]
         simpa using hj
        have cR:=Lib.run_append_grow_string (P:=P) w t u ty e i z hu oq hi hz ⟨b,0,none⟩ es.length cap (Ca.toList.take (es.length*P.cellsOf e)) (by rw[h3];simp;omega) hold x (by omega) (by omega)
         (growslice_fits (by omega) (by rw[←mf,←mj];simp only[bU] at dO;omega))
        rw[←mj] at cR
        have pn:=grownCap_ge w (es.length+xs.length) cap e
        have tG:grownCap w (es.length+xs.length) cap e≤maxLen:=grownCap_le_maxLen w _ cap e (by simp only[maxLen];omega)
        have cN:=DA (P:=P) (w:=w) (I:=I) (n:=es.length) (c:=Ca.toList) rfl (fun i j y t' a b c=>by
         obtain ⟨v,hv,hp⟩:=mg i j y t' a b c
         exact ⟨v,by simpa using hv,hp⟩) DJ lE (Builtin.zeroCells z.cells (grownCap w (es.length+xs.length) cap e-(es.length+xs.length))).toList
        obtain ⟨n1,n2,n3⟩:=vX k2.drew (nb:=nb) (cap:=grownCap w (es.length+xs.length) cap e) (es:=es++xs)
         (C0:=(Ca.toList.take (es.length*P.cellsOf e)).toArray++(Lib.strCells x).toArray++Builtin.zeroCells z.cells (grownCap w (es.length+xs.length) cap e-(es.length+xs.length))) au j8
         (by
          have e1:(Ca.toList.take (es.length*P.cellsOf e)).length=es.length*P.cellsOf e:=by simp;omega
          simp only[Cr,pV,size_zeroCells,h4,N3,e1,←dh];congr 1;omega) (by simpa using pn) tG
         (fun i j y t' a b c=>by
          obtain ⟨v,hv,hp⟩:=cN i j y t' a b c
          refine ⟨v,?_,Pure.drew hp⟩
          rw[←rq]
          simpa using hv)
        rw[bS] at n3
        exact ⟨_,_,_,_,cR,(k1.trans (Le.drew w I β _)).trans n1,n2,n3⟩
 | _=>cases h
end
section
variable {P:Program} {w w':World} {I I':Nat→Prop} {β β':Nat→Option Nat} {hp hp':Nat→Option an} {C:ag} {B:Nat} {M:Nat→Prop} {w0:Start}
theorem N5: ∀(ns:List Int) (s:ByteArray),(ns.foldl (fun r n=>r.push (UInt8.ofNat n.toNat)) s).data.toList=s.data.toList++ns.map fun n=>UInt8.ofNat n.toNat
 | [],s=>by simp
 | n::ns,s=>by
  simp only[List.foldl_cons,N5 ns,cz]
  simp[ByteArray.push]
theorem N6 {e:TypeId} {u:Value} {x:V} (he:P.underlying e=some (.int .u8)) (hp:Pure P w I e u x):u= .int .u8 x.toInt:=by
 cases hp with
 | int hp'=>rw[he] at hp';cases hp';rfl
 | bool hp'=>rw[he] at hp';cases hp'
 | str hp'=>rw[he] at hp';cases hp'
 | nil hp'=>rw[he] at hp';cases hp'
 | emp hp'=>rw[he] at hp';cases hp'
 | list _ hp'=>rw[he] at hp';cases hp'
theorem Yf (S:aF P w I β hp B M w0) {src dst e:TypeId} {v:Value} {x:V} {r:R} {rd:List Nat} (hs:P.underlying src=some (.slice e)) (he:P.underlying e=some (.int .u8)) (hd:P.underlying dst=some .string)
  (hv:ao P w I β hp v x) (h:(Rd.aC (cM P e) (rD e x fun es=> .ret ⟨.str (kF es),[]⟩)).run C hp=some (r,rd)):cU P ((convert src dst v).run P w) w I β hp B M w0 r:=by
 obtain ⟨au,h⟩:=aG h
 obtain ⟨xs,hx,l,h⟩:=Dz S.h.rel au hv h
 obtain rfl:=aM h
 have nf:bK P e=false:=by simp[bK,he]
 have h1:P.cellsOf e=1:=by rw[←(j4 au).1,zi nf];rfl
 rcases hx with ⟨⟨a,rfl⟩,rfl⟩|⟨a,c,news,hr⟩
 ·refine .same S (v:= .string .empty) ?_ (.str (by simp[kF]))
  rw[run_convert_bytes_string w src dst e a 0 0 hs he hd]
  cases a<;>simp[Conv.bytesToString,loadCells,loadCellsFrom]
 ·have DB:news=(xs.map V.toInt).map (Value.int .u8):=by
   apply List.ext_getElem?
   intro j
   by_cases hj:j<xs.length
   ·obtain ⟨u,hu,hp⟩:=hr.el j 0 xs[j] e (bO hj) (by simp[aS,nf]) (by omega)
    rw[h1] at hu
    simp only[bM,nf,cond_false] at hp
    have fG:news[j]? =some u:=by simpa using hu
    rw[fG]
    have:=N6 he hp
    simp[hj,←this]
   ·have hl:news.length=xs.length:=by rw[hr.len,h1];simp
    rw[yC (by omega),yC (by simp;omega)]
  have H8:=run_loadCells_list (P:=P) w a news hr.cell
  have hl:news.length=xs.length:=by rw[hr.len,h1];simp
  rw[hl] at H8
  rw[DB] at H8
  refine .same S (v:= .string ((xs.map V.toInt).foldl (fun r n=>r.push (UInt8.ofNat n.toNat)) ByteArray.empty)) ?_ (.str ?_)
  ·rw[hr.val,run_convert_bytes_string w src dst e _ _ _ hs he hd]
   exact run_bytesToString w a xs.length c (xs.map V.toInt) H8
  ·rw[N5]
   simp[kF]
theorem ao.DK {v:Value} (h:ao P w I β hp v .dk):v= .pointer none:=by cases h;rfl
section
variable (w:World)
theorem Yg (t e:TypeId) (a:Addr) (h:P.underlying t=some (.pointer e)):(binOp .eql t (.pointer (some a)) (.pointer none)).run P w= .ok (.bool false) w:=by
 have h0: ∀d:Nat,(Op.equalIn (d+1) t (.pointer (some a)) (.pointer none)).run P w= .ok false w:=fun d=>by simp[Op.equalIn,run_underlying h]
 simp only[binOp]
 simp[Op.equal,Op.maxDepth,h0 9999]
theorem Yh (t e:TypeId) (a:Addr) (h:P.underlying t=some (.pointer e)):(binOp .neq t (.pointer (some a)) (.pointer none)).run P w= .ok (.bool (!false)) w:=by
 have h0: ∀d:Nat,(Op.equalIn (d+1) t (.pointer (some a)) (.pointer none)).run P w= .ok false w:=fun d=>by simp[Op.equalIn,run_underlying h]
 simp only[binOp]
 simp[Op.equal,Op.maxDepth,h0 9999]
theorem Yi (t e:TypeId) (a:Addr) (h:P.underlying t=some (.pointer e)):(binOp .eql t (.pointer none) (.pointer (some a))).run P w= .ok (.bool false) w:=by
 have h0: ∀d:Nat,(Op.equalIn (d+1) t (.pointer none) (.pointer (some a))).run P w= .ok false w:=fun d=>by simp[Op.equalIn,run_underlying h]
 simp only[binOp]
 simp[Op.equal,Op.maxDepth,h0 9999]
theorem Yj (t e:TypeId) (a:Addr) (h:P.underlying t=some (.pointer e)):(binOp .neq t (.pointer none) (.pointer (some a))).run P w= .ok (.bool (!false)) w:=by
 have h0: ∀d:Nat,(Op.equalIn (d+1) t (.pointer none) (.pointer (some a))).run P w= .ok false w:=fun d=>by simp[Op.equalIn,run_underlying h]
 simp only[binOp]
 simp[Op.equal,Op.maxDepth,h0 9999]
theorem Yk (t e:TypeId) (h:P.underlying t=some (.pointer e)):(binOp .eql t (.pointer none) (.pointer none)).run P w= .ok (.bool true) w:=by
 have h0: ∀d:Nat,(Op.equalIn (d+1) t (.pointer none) (.pointer none)).run P w= .ok true w:=fun d=>by simp[Op.equalIn,run_underlying h]
 simp only[binOp]
 simp[Op.equal,Op.maxDepth,h0 9999]
theorem Yl (t e:TypeId) (h:P.underlying t=some (.pointer e)):(binOp .neq t (.pointer none) (.pointer none)).run P w= .ok (.bool (!true)) w:=by
 have h0: ∀d:Nat,(Op.equalIn (d+1) t (.pointer none) (.pointer none)).run P w= .ok true w:=fun d=>by simp[Op.equalIn,run_underlying h]
 simp only[binOp]
 simp[Op.equal,Op.maxDepth,h0 9999]
end
theorem DL (S:aF P w I β hp B M w0) {op:BinOp} {t:TypeId} {b:Bool} {x y:Operand} {v1 v2:Value} {r:R} {rd:List Nat} (h:(ptrEq P op t b).run C hp=some (r,rd)) (hg:(eqGuard op t x y v1 v2).run P w= .ok () w)
  (he: ∀e j,P.underlying t=some (.pointer e)→P.info? e=some j→(binOp .eql t v1 v2).run P w= .ok (.bool b) w∧(binOp .neq t v1 v2).run P w= .ok (.bool (!b)) w):
  cU P ((do eqGuard op t x y v1 v2;binOp op t v1 v2:Sem Value).run P w) w I β hp B M w0 r:=by
 unfold ptrEq at h
 cases hu:P.underlying t with
 | none=>rw[hu] at h;cases h
 | some d=>
  rw[hu] at h
  cases d<;>simp only at h<;>first|(cases h;done)|skip
  rename_i e
  obtain ⟨h1,U⟩:=aG h
  obtain ⟨j,hj⟩:=yG.1 h1
  obtain ⟨k1,k2⟩:=he e j hu hj
  cases op<;>simp only at U<;>first|(cases U;done)|skip
  ·obtain rfl:=aM U
   exact .same S (by simp only[Sem.run_bind,hg,Result.andThen_ok,k1]) .bool
  ·obtain rfl:=aM U
   exact .same S (by simp only[Sem.run_bind,hg,Result.andThen_ok,k2]) .bool
theorem Ym {b n:Nat}:(∀b',b'≠b→(w.freeze ⟨b,0,none⟩ n).heap[b']? =w.heap[b']?)∧bsize (w.freeze ⟨b,0,none⟩ n) b=bsize w b∧w.heap.size≤(w.freeze ⟨b,0,none⟩ n).heap.size∧(w.freeze ⟨b,0,none⟩ n).os=w.os∧(w.freeze ⟨b,0,none⟩ n).output=w.output:=by
 unfold World.freeze
 split
 ·exact ⟨fun _ _=>rfl,rfl,bY _,rfl,rfl⟩
 ·refine ⟨fun b' hb=> ?_,?_,by simp,rfl,rfl⟩
  ·simp only[yH]
   rw[ai (fun e=>hb e.symm)]
  ·simp only[bsize,yH,cI]
   cases w.heap[b]? with
   | none=>rfl
   | some o=>cases o<;>rfl
theorem Yn {e:TypeId} (hb:isByte P e=true):P.underlying e=some (.int .u8):=by
 unfold isByte at hb
 split at hb
 ·assumption
 ·cases hb
theorem Yo (S:aF P w I β hp B M w0) {ts:Array TypeId} {ty e:TypeId} {v:Value} {id:Nat} {es:List V} {fz:Bool} (hv:ao P w I β hp v (.whole e id)) (ab:hp id=some (.arr e es fz)) (h0:0<es.length):
  cU P ((Builtin.unsafeSliceData_ ts ty #[v]).run P w) w I β hp B M w0 ⟨.ptr id 0 0,[]⟩:=by
 cases hv with
 | ef h=>rw[ab] at h;cases h
 | dF h _=>rw[ab] at h;cases h;simp at h0
 | er h _ _ _ _=>rw[ab] at h;cases h
 | @whole _ _ aL mT b cap h hb b9 hle hm=>
  rw[ab] at h;cases h
  refine .same S (Lib.run_unsafeSliceData_row w ts ty ⟨b,0,none⟩ es.length cap (by omega)) ?_
  have:=ao.ptr (P:=P) (w:=w) (I:=I) (β:=β) (i:=0) (c:=0) ab (by simp) hb
  simpa using this
theorem Yp (S:aF P w I β hp B M w0) {t u ty e:TypeId} {vx:Value} {id:Nat} {n:Int} {es:List V} (hu:P.underlying t=some (.pointer e)) (hb:isByte P e=true) (hv:ao P w I β hp vx (.ptr id 0 0))
  (ab:hp id=some (.arr e es false)) (h0:0<n) (hn:n≤es.length) (hm:n.toNat≤rC) (lB:(es.take n.toNat).all vy=true):cU P ((Builtin.unsafeString_ #[t,u] ty #[vx,.int .i64 n]).run P w) w I β hp B M w0 ⟨.str (kF (es.take n.toNat)),[(id,.dead)]⟩:=by
 obtain ⟨b,H9,rfl⟩:=hv.gL ab (by simp)
 have he:P.underlying e=some (.int .u8):=by
  unfold isByte at hb
  split at hb
  ·assumption
  ·cases hb
 have nf:bK P e=false:=by simp[bK,he]
 have hr:=S.h.rel id _ ab
 rw[H9] at hr
 cases hr with
 | dG aB=>cases aB
 | @arr _ _ _ b1 Ca au lE hh hs hI cL cN=>
  cases lE
  have h1:P.cellsOf e=1:=by rw[←(j4 au).1,zi nf];rfl
  have aO:=S.Wt ab (by simp) H9
  have hl:(kF (es.take n.toNat)).length=n.toNat:=by simp[kF];omega
  have H6:n=((kF (es.take n.toNat)).length:Nat):=by rw[hl];omega
  have cR:=Lib.run_unsafeString_row (P:=P) w t u ty e hu h1 b Ca.size (by simp[World.shape?,hh]) (kF (es.take n.toNat)) (fun h=>by rw[h] at hl;simp at hl;omega) (by rw[hl];rw[h1] at hs;omega) (by rw[hl];unfold rC at hm;omega) (fun j x hx=>by
   have hj:j<n.toNat:=by
    have:=(bu.1 hx).1
    rw[hl] at this;exact this
   have ig:j<es.length:=by omega
   simp only[kF,gF,eO hj,bO ig,Option.map_some,dR] at hx
   obtain ⟨v,vY,bt⟩:=cN j 0 es[j] e (bO ig) (by simp[aS,nf]) (by omega)
   rw[h1] at vY
   simp only[bM,nf,cond_false] at bt
   have:=N6 he bt
   have hr:=fh.1 lB es[j] (jo (by rw[eO hj];exact bO ig))
   simp only[vy,aK,ec] at hr
   have pg:(x.toNat:Int)=es[j].toInt:=by
    rw[←hx]
    have:es[j].toInt.toNat<256:=by omega
    simp only[UInt8.toNat_ofNat']
    omega
   rw[m7,cell?_cells hh,pg]
   rw[show 0+j=j*1+0 by omega,vY,this])
  obtain ⟨f1,f2,f3,f4,f5⟩:=Ym (w:=w) (b:=b) (n:=n.toNat)
  obtain ⟨k1,k2⟩:=Dd (w':=w.freeze ⟨b,0,none⟩ n.toNat) S ab (by simp) (blk':= .dead) (by trivial) H9 (cL rfl) (by simp) f1 f2 f3 ⟨f4,f5⟩ (fun _=> .dead)
  rw[←H6,hl] at cR
  refine ⟨.string ⟨(kF (es.take n.toNat)).toArray⟩,_,I,β,?_,k1,k2,.str ?_⟩
  ·simpa using cR
  ·rfl
def Ia:Op→Bool
 | .call {callee:= .value (.func _),..}=>true
 | .call {callee:= .value (.tmp _),..}=>true
 | .defer _=>true
 | _=>false
theorem pd.val {o:Oper} {a:Act} {s:Sem Value} {r:R} (he:execOp a.eval o=(do Pure.pure (Next.value (←s)))) (h:cU P (s.run P w) w I β hp B M w0 r):pd P ((execOp a.eval o).run P w) w I β hp B M w0 r:=by
 rw[he];exact h.op
theorem Yq {A:cB} (S:aF P w I β hp B M w0) (hg:gf P A.aE w I) {a:Act} {sl:Nat→V} (hs:kK P w I β hp a sl) {ix nb:Nat} {o:Oper} (Ib:Ia o.op=false) {r:R} {rd:List Nat}
  (h:(fk P A sl ix nb o).run C hp=some (r,rd)):pd P ((execOp a.eval o).run P w) w I β hp B M w0 r:=by
 obtain ⟨dst,op,ty,pos,after,guard⟩:=o
 cases op<;>simp only[fk] at h<;>first|(cases h;done)|skip
 case move x=>
  obtain rfl:=aM h
  exact ⟨_,w,I,β,.inl (by simp[execOp]),Le.refl w I β hp,S,hs.ev hg ty x⟩
 case assign x=>
  obtain rfl:=aM h
  exact ⟨_,w,I,β,.inl (by simp[execOp]),Le.refl w I β hp,S,hs.ev hg ty x⟩
 case pick c x y=>
  have hc:=hs.ev hg ty c
  cases tD:aN P A.aE ty sl c<;>rw[tD] at h hc<;>simp only at h<;>first|(cases h;done)|skip
  rename_i t
  have Yr:=hc.j5
  have hx:=hs.ev hg ty x
  have hy:=hs.ev hg ty y
  have fin: ∀z:V,ao P w I β hp (if t then a.eval x else a.eval y) z→pd P ((execOp a.eval ⟨dst,.pick c x y,ty,pos,after,guard⟩).run P w) w I β hp B M w0 ⟨z,[]⟩:=by
   intro z hz
   exact ⟨_,w,I,β,.inl (by simp[execOp,Yr,asBool]),Le.refl w I β hp,S,hz⟩
  cases N7:gone (aN P A.aE ty sl x) with
  | true=>
   rw[N7] at h
   obtain ⟨h1,h⟩:=aG h
   obtain rfl:=aM h
   have:t=false:=by simpa using h1
   subst this
   refine fin _ ?_
   simpa using hy
  | false=>
   rw[N7] at h
   simp only[cond_false] at h
   cases DM:gone (aN P A.aE ty sl y) with
   | true=>
    rw[DM] at h
    obtain ⟨h1,h⟩:=aG h
    obtain rfl:=aM h
    subst h1
    refine fin _ ?_
    simpa using hx
   | false=>
    rw[DM] at h
    obtain rfl:=aM h
    exact fin _ (MS hx hy)
 case makeFunc fn x y=>
  cases fn<;>simp only[fk] at h<;>first|(cases h;done)|skip
  rename_i f
  obtain rfl:=aM h
  refine ⟨.func (.func f) (x.map a.eval) (y.map a.eval),w,I,β,.inl (by simp[execOp,Instr.makeFunc]),Le.refl w I β hp,S,.fn (by simp) (fun j v z hj hz=> ?_) (by simp) (fun j v z hj hz=> ?_)⟩
  ·rw[Array.getElem?_map] at hj
   rw[gF,rq] at hz
   cases hx:x[j]? with
   | none=>rw[hx] at hj;cases hj
   | some o1=>
    rw[hx] at hj hz
    cases hj
    cases hz
    exact hs.ev hg ty o1
  ·rw[Array.getElem?_map] at hj
   rw[gF,rq] at hz
   cases hx:y[j]? with
   | none=>rw[hx] at hj;cases hj
   | some o1=>
    rw[hx] at hj hz
    cases hj
    cases hz
    exact hs.ev hg ty o1
 case defer c=>cases Ib
 case makeMap t res=>
  cases res with
  | some x=>cases h
  | none=>exact .val rfl (X5 S h)
 case lookup t m k ok=>
  cases ht:ll P t with
  | none=>rw[ht] at h;cases h
  | some q=>
   obtain ⟨kt,vt⟩:=q
   rw[ht] at h
   exact .val (s:=Instr.lookup t (a.eval m) (a.eval k) ok) rfl (X4 S ht (hs.ev hg t m) (hs.ev hg kt k) h)
 case mapUpdate t m k x=>
  cases ht:ll P t with
  | none=>rw[ht] at h;cases h
  | some q=>
   obtain ⟨kt,vt⟩:=q
   rw[ht] at h
   have:=NX S ht (hs.ev hg t m) (hs.ev hg kt k) (hs.ev hg vt x) h
   exact this.op
 case insert t m k x=>
  cases ht:ll P t with
  | none=>rw[ht] at h;cases h
  | some q=>
   obtain ⟨kt,vt⟩:=q
   rw[ht] at h
   have:=NX S ht (hs.ev hg t m) (hs.ev hg kt k) (hs.ev hg vt x) h
   exact this.op
 case alloc e=>
  exact .val rfl (Xg S h)
 case box e x=>
  exact .val rfl (Xh S (hs.ev hg e x) h)
 case build t ps=>exact .val rfl (Xj S hs hg h)
 case buildSlice t len ps=>
  cases hu:P.underlying t with
  | none=>rw[hu] at h;cases h
  | some d=>
   rw[hu] at h
   cases d<;>simp only at h<;>first|(cases h;done)|skip
   exact .val rfl (Xr S hs hg hu h)
 case load t x=>exact .val rfl (WK S (hs.ev hg ty x) h)
 case store t x y=>
  have:=Xb S (hs.ev hg ty x) (hs.ev hg t y) h
  exact this.op
 case nilCheck x=>
  have hx:=hs.ev hg ty x
  cases e8:aN P A.aE ty sl x<;>rw[e8] at h hx<;>simp only at h<;>first|(cases h;done)|skip
  ·obtain ⟨⟨blk,ab,hd⟩,l,h⟩:=vJ h
   obtain rfl:=aM h
   have cw:=hx
   obtain ⟨b,hb,he⟩:=hx.gL ab hd
   rw[he] at cw
   exact ⟨_,w,I,β,.inl (by simp only[execOp,he];rfl),Le.refl w I β hp,S,cw⟩
  ·obtain rfl:=aM h
   have cw:=hx
   obtain ⟨b,o,he,_⟩:=hx.Dg
   rw[he] at cw
   exact ⟨_,w,I,β,.inl (by simp only[execOp,he];rfl),Le.refl w I β hp,S,cw⟩
  ·obtain ⟨e0,es,ar,l,ab,h1,U,h3,h⟩:=oa h
   obtain rfl:=aM h
   have cw:=hx
   obtain ⟨b,o,he,_⟩:=hx.MQ ab h1 U h3
   rw[he] at cw
   exact ⟨_,w,I,β,.inl (by simp only[execOp,he];rfl),Le.refl w I β hp,S,cw⟩
 case binOp op t x y yt=>
  have hx:=hs.ev hg t x
  have hy:=hs.ev hg t y
  refine .val (s:=do eqGuard op t x y (a.eval x) (a.eval y);binOp op t (a.eval x) (a.eval y)) rfl ?_
  cases e8:aN P A.aE t sl x<;>cases rV:aN P A.aE t sl y<;>rw[e8,rV] at h<;>rw[e8] at hx<;>rw[rV] at hy<;>first|(simp only[jU] at h;cases h;done)|skip
  ·rw[hx.ei,hy.ei]
   have:=Wz S h
   simpa[Ww] using this
  ·rw[hx.j5,hy.j5]
   have:=WB S h
   simpa[Wx] using this
  ·obtain ⟨s1,e1,l1⟩:=hx.ma
   obtain ⟨s2,e2,l2⟩:=hy.ma
   rw[e1,e2]
   rw[←l1,←l2] at h
   have:=WC (t:=t) S h
   simpa[Wy] using this
  ·obtain ⟨cs,e1,h1,U⟩:=hx.kM
   obtain ⟨ds,e2,h3,h4⟩:=hy.kM
   rw[e1,e2]
   exact WD S h1 h3 U h4 h
  ·
   simp only[jU] at h
   obtain ⟨h1,U⟩:=aG h
   clear h
   simp only[aK,aR] at h1
   obtain ⟨rfl,rfl,rfl⟩:=h1
   obtain ⟨⟨blk,ab,hd⟩,l,h⟩:=vJ U
   obtain ⟨b,hb,e1⟩:=hx.gL ab hd
   obtain ⟨b',aB,e2⟩:=hy.gL ab hd
   rw[hb] at aB;cases aB
   rw[e1,e2]
   exact DL S h (by cases op<;>simp[eqGuard]) fun e j he hj=>⟨run_eql_ptr_same w _ he hj,Lib.run_neq_ptr_same w _ he hj⟩
  ·simp only[jU] at h
   obtain ⟨⟨blk,ab,hd⟩,l,h⟩:=vJ h
   obtain ⟨b,_,e1⟩:=hx.gL ab hd
   rw[e1,hy.DK]
   exact DL S h (by cases op<;>simp[eqGuard]) fun e j he hj=>⟨Yg w t e _ he,Yh w t e _ he⟩
  ·simp only[jU] at h
   obtain ⟨⟨blk,ab,hd⟩,l,h⟩:=vJ h
   obtain ⟨b,_,e1⟩:=hy.gL ab hd
   rw[e1,hx.DK]
   exact DL S h (by cases op<;>simp[eqGuard]) fun e j he hj=>⟨Yi w t e _ he,Yj w t e _ he⟩
  ·simp only[jU] at h
   rw[hx.DK,hy.DK]
   exact DL S h (by cases op<;>simp[eqGuard]) fun e j he hj=>⟨Yk w t e he,Yl w t e he⟩
  ·
   simp only[jU] at h
   obtain ⟨l,h⟩:=run_get h
   split at h
   ·rename_i t2 es ab
    obtain ⟨b,hb⟩:=hx.X9 ab
    rw[hy.H7,hb]
    exact NZ (a:=some b) S x y h
   ·cases h
  ·simp only[jU] at h
   rw[hx.H7,hy.H7]
   exact NZ (a:=none) S x y h
 case unOp op t x=>exact .val rfl (WE S (hs.ev hg ty x) h)
 case convert src dst x=>
  have hx:=hs.ev hg ty x
  refine .val (s:=convert src dst (a.eval x)) rfl ?_
  cases iC:P.underlying src with
  | none=>rw[iC] at h;cases h
  | some d1=>
   cases ng:P.underlying dst with
   | none=>rw[iC,ng] at h;cases d1<;>cases h
   | some d2=>
    rw[iC,ng] at h
    have g9: ∀{b:Nat} {T:TypeId} {cs:List V} {id:Nat},hp id=some (.var T cs)→β id=some b→w.shape? b=some (T,cs.length):=by
     intro b T cs id ab hb
     have hr:=S.h.rel id _ ab
     rw[hb] at hr
     cases hr with
     | var aB hh aX _ _ _=>cases aB;simp[World.shape?,hh,aX]
    cases d1<;>(try (cases d2<;>cases h;done))
    ·cases d2<;>(try (cases h;done))
     rename_i k1 k2
     cases e8:aN P A.aE ty sl x<;>rw[e8] at h hx<;>simp only at h<;>first|(cases h;done)|skip
     obtain rfl:=aM h
     rw[hx.ei]
     exact .same S (by simp[convert,run_underlying iC,run_underlying ng,Conv.intToInt]) .int
    ·cases d2<;>(try (cases h;done))
     rename_i u
     cases e8:aN P A.aE ty sl x<;>rw[e8] at h hx<;>simp only at h<;>first|(cases h;done)|skip
     rename_i id i c
     obtain ⟨l,h1⟩:=run_get h
     cases ab:hp id with
     | none=>rw[ab] at h1;cases h1
     | some blk=>
      rw[ab] at h1
      cases blk<;>simp only at h1<;>first|(cases h1;done)|skip
      rename_i T cs
      obtain ⟨U,h3⟩:=aG h1
      simp only[aK,aR] at U
      obtain ⟨rfl,h4,h5⟩:=U
      obtain ⟨b,hb,e1⟩:=hx.gL ab (by simp)
      obtain rfl:=aM h3
      obtain ⟨j,hj⟩:=yG.1 h4
      have cw:=hx
      rw[e1] at cw⊢
      exact .same S (Lib.run_from_unsafe w _ iC ng hj (g9 ab hb) (by simpa using h5)) cw
    ·cases d2<;>(try (cases h;done))
     rename_i t
     cases e8:aN P A.aE ty sl x<;>rw[e8] at h hx<;>simp only at h<;>first|(cases h;done)|skip
     rename_i id i c
     obtain ⟨l,h1⟩:=run_get h
     cases ab:hp id with
     | none=>rw[ab] at h1;cases h1
     | some blk=>
      rw[ab] at h1
      cases blk<;>simp only at h1<;>first|(cases h1;done)|skip
      rename_i T cs
      obtain ⟨U,h3⟩:=aG h1
      simp only[aK,aR,jQ] at U
      obtain ⟨rfl,h4,h5⟩:=U
      obtain ⟨b,hb,e1⟩:=hx.gL ab (by simp)
      obtain rfl:=aM h3
      cases hj:P.info? t with
      | none=>rw[hj] at h5;cases h5
      | some j=>
       rw[hj] at h5
       simp only[mL] at h5
       have h6:j.size≠0:=fun e=>by rw[e] at h5;cases h5
       have cw:=hx
       rw[e1] at cw⊢
       exact .same S (Lib.run_to_unsafe w _ iC ng hj h6 (g9 ab hb) (by simpa using h4)) cw
    ·rename_i e
     cases d2<;>(try (cases h;done))
     simp only at h
     cases he:P.underlying e with
     | none=>rw[he] at h;cases h
     | some d3=>
      rw[he] at h
      cases d3<;>(try (cases h;done))
      rename_i k
      cases k<;>(try (cases h;done))
      exact Yf S iC he ng hx h
 case fieldAddr s x f=>exact .val rfl (WG S (hs.ev hg ty x) h)
 case field s x f=>exact .val rfl (XK S (hs.ev hg ty x) h)
 case indexAddr t x y=>exact .val rfl (XT S (hs.ev hg ty x) (hs.ev hg 0 y) h)
 case index t x y=>
  have hx:=hs.ev hg ty x
  have hy:=hs.ev hg 0 y
  refine .val (s:=Instr.index t (a.eval x) (a.eval y)) rfl ?_
  cases hu:P.underlying t with
  | none=>rw[hu] at h;cases h
  | some d=>
   rw[hu] at h
   cases d<;>(try (cases h;done))
   cases e8:aN P A.aE ty sl x<;>rw[e8] at h hx<;>(try (cases h;done))
   cases rV:aN P A.aE 0 sl y<;>rw[rV] at h hy<;>(try (cases h;done))
   obtain ⟨s,e1,l1⟩:=hx.ma
   rw[e1,hy.ei]
   exact XM S hu l1 h
 case slice t x lo hi mx=>
  cases mx with
  | some m=>
   simp only at h
   refine .val (s:=Instr.sliceAt t (a.eval x) (lo.map a.eval) (hi.map a.eval) (some (a.eval m))) (by simp[execOp]) (XR S (hs.ev hg ty x) (fun hy=> ?_) (fun y hy=> ?_) (fun y hy=> ?_) h)
   ·cases lo with
    | none=>rfl
    | some l=>cases hy
   ·cases hi with
    | none=>cases hy
    | some l=>cases hy;exact ⟨_,rfl,hs.ev hg 0 l⟩
   ·cases hy;exact ⟨_,rfl,hs.ev hg 0 m⟩
  | none=>
   simp only at h
   have plain:(CO P t (aN P A.aE ty sl x) (lo.map (aN P A.aE 0 sl)) (hi.map (aN P A.aE 0 sl))).run C hp=some (r,rd)→pd P ((execOp a.eval ⟨dst,.slice t x lo hi none,ty,pos,after,guard⟩).run P w) w I β hp B M w0 r:=by
    intro h
    refine .val (s:=Instr.sliceAt t (a.eval x) (lo.map a.eval) (hi.map a.eval) none) (by simp[execOp]) (XQ S (hs.ev hg ty x) (fun y hy=> ?_) (fun y hy=> ?_) (fun hy=> ?_) (fun hy=> ?_) h)
    ·cases lo with
     | none=>cases hy
     | some l=>cases hy;exact ⟨_,rfl,hs.ev hg 0 l⟩
    ·cases hi with
     | none=>cases hy
     | some l=>cases hy;exact ⟨_,rfl,hs.ev hg 0 l⟩
    ·cases lo with
     | none=>rfl
     | some l=>cases hy
    ·cases hi with
     | none=>rfl
     | some l=>cases hy
   have tr:(CP P nb t (aN P A.aE ty sl x) (lo.map (aN P A.aE 0 sl)) (hi.map (aN P A.aE 0 sl))).run C hp=some (r,rd)→pd P ((execOp a.eval ⟨dst,.slice t x lo hi none,ty,pos,after,guard⟩).run P w) w I β hp B M w0 r:=by
    intro h
    refine .val (s:=Instr.sliceAt t (a.eval x) (lo.map a.eval) (hi.map a.eval) none) (by simp[execOp]) (XV S (hs.ev hg ty x) (fun y hy=> ?_) (fun hy=> ?_) h)
    ·cases hi with
     | none=>cases hy
     | some l=>cases hy;exact ⟨_,rfl,hs.ev hg 0 l⟩
    ·cases lo with
     | none=>rfl
     | some l=>cases hy
   cases dst with
   | none=>exact plain h
   | some d=>
    simp only at h
    cases N8:jS A.vl d with
    | true=>rw[N8] at h;exact tr h
    | false=>rw[N8] at h;exact plain h
 case extract x i=>
  have hx:=hs.ev hg ty x
  cases e8:aN P A.aE ty sl x<;>rw[e8] at h hx<;>simp only at h<;>first|(cases h;done)|skip
  exact .val (s:=Instr.extract (a.eval x) i) rfl (XL S hx h)
 case makeSlice t l c=>
  have hl:=hs.ev hg 0 l
  have hc:=hs.ev hg 0 c
  refine .val (s:=Instr.makeSlice t (a.eval l) (a.eval c)) rfl ?_
  cases hu:P.underlying t with
  | none=>rw[hu] at h;cases h
  | some d=>
   rw[hu] at h
   cases d<;>(try (cases h;done))
   cases Ic:aN P A.aE 0 sl l<;>rw[Ic] at h hl<;>(try (cases h;done))
   cases tD:aN P A.aE 0 sl c<;>rw[tD] at h hc<;>(try (cases h;done))
   rw[hl.ei,hc.ei]
   cases dst with
   | none=>exact Nw S hu h
   | some d=>
    simp only at h
    cases hg:jS A.vl d with
    | true=>rw[hg] at h;exact Xt S hu h
    | false=>rw[hg] at h;exact Nw S hu h
 case call c=>
  obtain ⟨callee,args,argTypes⟩:=c
  cases callee with
  | invoke r m=>cases h
  | value f=>
   cases f with
   | func f=>cases Ib
   | tmp f=>cases Ib
   | _=>cases h
  | builtin b=>
   have one: ∀{x:Operand},args.toList=[x]→args= #[x]:=fun h=>by rw[←Array.toArray_toList (xs:=args),h]
   have qB: ∀(s:Array TypeId→TypeId→Array Value→Sem Value),builtin b argTypes ty (args.map fun| .const _=>true|_=>false) (args.map a.eval)=(do Pure.pure (Next.value (←s argTypes ty (args.map a.eval))))→
     execOp a.eval ⟨dst,.call ⟨.builtin b,args,argTypes⟩,ty,pos,after,guard⟩=(do Pure.pure (Next.value (←s argTypes ty (args.map a.eval)))):=by
    intro s hb
    simp only[execOp,resolve,pure_bind,invoke]
    exact hb
   cases b<;>(try (cases h;done))
   case append=>
    simp only at h
    cases ha:args.toList with
    | nil=>rw[ha] at h;cases h
    | cons x l=>
     cases l with
     | nil=>rw[ha] at h;cases h
     | cons y l2=>
      cases l2 with
      | cons _ _=>rw[ha] at h;cases h
      | nil=>
       cases dc:argTypes.toList with
       | nil=>rw[ha,dc] at h;cases h
       | cons t l3=>
        cases l3 with
        | nil=>rw[ha,dc] at h;cases h
        | cons u l4=>
         cases l4 with
         | cons _ _=>rw[ha,dc] at h;cases h
         | nil=>
          rw[ha,dc] at h
          simp only at h
          have e1:args= #[x,y]:=by rw[←Array.toArray_toList (xs:=args),ha]
          have e2:argTypes= #[t,u]:=by rw[←Array.toArray_toList (xs:=argTypes),dc]
          cases hu:P.underlying t with
          | none=>rw[hu] at h;cases h
          | some d=>
           rw[hu] at h
           cases d<;>(try (cases h;done))
           cases hc:Nat.beq t u with
           | true=>
            rw[hc] at h
            rw[aR] at hc
            subst hc
            have:=Xw (ty:=ty) S hu (hs.ev hg t x) (hs.ev hg t y) h
            refine .val (qB Builtin.append_ rfl) ?_
            rw[e1,e2]
            simpa using this
           | false=>
            rw[hc] at h
            simp only[cond_false] at h
            have hy:=hs.ev hg u y
            cases oq:P.underlying u with
            | none=>rw[oq] at h;cases h
            | some du=>
             rw[oq] at h
             cases du<;>(try (cases h;done))
             cases rV:aN P A.aE u sl y<;>rw[rV] at h hy<;>(try (cases h;done))
             simp only at h
             obtain ⟨hb,h⟩:=aG h
             obtain ⟨s1,q1,q2⟩:=hy.ma
             subst q2
             have:=Ye (ty:=ty) S hu oq (Yn hb) (hs.ev hg t x) h
             refine .val (qB Builtin.append_ rfl) ?_
             rw[e1,e2]
             simpa[q1] using this
   case len=>
    simp only at h
    cases ha:args.toList with
    | nil=>rw[ha] at h;cases h
    | cons x l=>
     cases l with
     | cons _ _=>rw[ha] at h;cases h
     | nil=>
      cases dc:argTypes.toList with
      | nil=>rw[ha,dc] at h;cases h
      | cons t l3=>
       cases l3 with
       | cons _ _=>rw[ha,dc] at h;cases h
       | nil=>
        rw[ha,dc] at h
        simp only at h
        have e1:args= #[x]:=by rw[←Array.toArray_toList (xs:=args),ha]
        have e2:argTypes= #[t]:=by rw[←Array.toArray_toList (xs:=argTypes),dc]
        have hx:=hs.ev hg ty x
        refine .val (qB Builtin.len_ rfl) ?_
        rw[e1,e2]
        cases hu:P.underlying t with
        | none=>rw[hu] at h;cases h
        | some d=>
         rw[hu] at h
         cases d<;>(try (cases h;done))
         ·cases e8:aN P A.aE ty sl x<;>rw[e8] at h hx<;>(try (cases h;done))
          have:=MT (t:=t) (ty:=ty) S hx (fun l hl=>hu) (fun hn=>absurd rfl (hn _)) h
          simpa using this
         ·have U:(∀l,aN P A.aE ty sl x≠ .str l)∧(CJ P (aN P A.aE ty sl x)).run C hp=some (r,rd):=by
           cases e8:aN P A.aE ty sl x<;>rw[e8] at h<;>first|(cases h;done)|exact ⟨fun l=>by simp,h⟩
          have:=MT (t:=t) (ty:=ty) S hx (fun l hl=>absurd hl (U.1 l)) (fun _=>⟨_,hu⟩) U.2
          simpa using this
         ·have U:(CN (aN P A.aE ty sl x)).run C hp=some (r,rd):=by
           cases e8:aN P A.aE ty sl x<;>rw[e8] at h<;>exact h
          have:=X8 (t:=t) (ty:=ty) S hu hx U
          simpa using this
   case unsafeSliceData=>
    simp only at h
    cases ha:args.toList with
    | nil=>rw[ha] at h;cases h
    | cons x l=>
     cases l with
     | cons _ _=>rw[ha] at h;cases h
     | nil=>
      rw[ha] at h
      simp only at h
      have e1:args= #[x]:=by rw[←Array.toArray_toList (xs:=args),ha]
      have hx:=hs.ev hg ty x
      refine .val (qB Builtin.unsafeSliceData_ rfl) ?_
      rw[e1]
      cases e8:aN P A.aE ty sl x<;>rw[e8] at h hx<;>simp only at h<;>first|(cases h;done)|skip
      rename_i e id
      obtain ⟨l2,h1⟩:=run_get h
      cases ab:hp id with
      | none=>rw[ab] at h1;cases h1
      | some blk=>
       rw[ab] at h1
       cases blk<;>simp only at h1<;>first|(cases h1;done)|skip
       rename_i e' es fz
       obtain ⟨U,h3⟩:=aG h1
       simp only[aK,aR,jQ] at U
       obtain ⟨rfl,h4⟩:=U
       obtain rfl:=aM h3
       have:=Yo (ts:=argTypes) (ty:=ty) S hx ab h4
       simpa using this
   case unsafeString=>
    simp only at h
    cases ha:args.toList with
    | nil=>rw[ha] at h;cases h
    | cons x l=>
     cases l with
     | nil=>rw[ha] at h;cases h
     | cons y l2=>
      cases l2 with
      | cons _ _=>rw[ha] at h;cases h
      | nil=>
       cases dc:argTypes.toList with
       | nil=>rw[ha,dc] at h;cases h
       | cons t l3=>
        cases l3 with
        | nil=>rw[ha,dc] at h;cases h
        | cons u l4=>
         cases l4 with
         | cons _ _=>rw[ha,dc] at h;cases h
         | nil=>
          rw[ha,dc] at h
          simp only at h
          have e1:args= #[x,y]:=by rw[←Array.toArray_toList (xs:=args),ha]
          have e2:argTypes= #[t,u]:=by rw[←Array.toArray_toList (xs:=argTypes),dc]
          have hx:=hs.ev hg ty x
          have hy:=hs.ev hg ty y
          cases hu:P.underlying t with
          | none=>rw[hu] at h;cases h
          | some d=>
           rw[hu] at h
           cases d<;>(try (cases h;done))
           rename_i e
           cases e8:aN P A.aE ty sl x<;>rw[e8] at h hx<;>(try (cases h;done))
           cases rV:aN P A.aE ty sl y<;>rw[rV] at h hy<;>(try (cases h;done))
           rename_i id i c k n
           cases k<;>(try (cases h;done))
           simp only at h
           obtain ⟨l2,h1⟩:=run_get h
           cases ab:hp id with
           | none=>rw[ab] at h1;cases h1
           | some blk=>
            rw[ab] at h1
            cases blk<;>simp only at h1<;>first|(cases h1;done)|skip
            rename_i e' es fz
            cases fz<;>simp only at h1<;>first|(cases h1;done)|skip
            obtain ⟨U,h3⟩:=aG h1
            simp only[aK,aR,dx,ec] at U
            obtain ⟨rfl,h4,rfl,rfl,h5,h6,h7,h8⟩:=U
            obtain rfl:=aM h3
            have:=Yp (u:=u) (ty:=ty) S hu h4 hx ab h5 h6 h7 h8
            refine .val (qB Builtin.unsafeString_ rfl) ?_
            rw[e1,e2]
            simpa[hy.ei] using this
   case copy=>
    simp only at h
    cases ha:args.toList with
    | nil=>rw[ha] at h;cases h
    | cons x l=>
     cases l with
     | nil=>rw[ha] at h;cases h
     | cons y l2=>
      cases l2 with
      | cons _ _=>rw[ha] at h;cases h
      | nil=>
       cases dc:argTypes.toList with
       | nil=>rw[ha,dc] at h;cases h
       | cons t l3=>
        cases l3 with
        | nil=>rw[ha,dc] at h;cases h
        | cons u l4=>
         cases l4 with
         | cons _ _=>rw[ha,dc] at h;cases h
         | nil=>
          rw[ha,dc] at h
          simp only at h
          have e1:args= #[x,y]:=by rw[←Array.toArray_toList (xs:=args),ha]
          have e2:argTypes= #[t,u]:=by rw[←Array.toArray_toList (xs:=argTypes),dc]
          cases hu:P.underlying t with
          | none=>rw[hu] at h;cases h
          | some d=>
           rw[hu] at h
           cases d<;>(try (cases h;done))
           have:=XD (u:=u) (ty:=ty) S hu (hs.ev hg t x) (hs.ev hg u y) h
           refine .val (qB Builtin.copy_ rfl) ?_
           rw[e1,e2]
           simpa using this
   case clear=>
    simp only at h
    cases ha:args.toList with
    | nil=>rw[ha] at h;cases h
    | cons x l=>
     cases l with
     | cons _ _=>rw[ha] at h;cases h
     | nil=>
      cases dc:argTypes.toList with
      | nil=>rw[ha,dc] at h;cases h
      | cons t l3=>
       cases l3 with
       | cons _ _=>rw[ha,dc] at h;cases h
       | nil=>
        rw[ha,dc] at h
        simp only at h
        have e1:args= #[x]:=by rw[←Array.toArray_toList (xs:=args),ha]
        have e2:argTypes= #[t]:=by rw[←Array.toArray_toList (xs:=argTypes),dc]
        cases hu:P.underlying t with
        | none=>rw[hu] at h;cases h
        | some d=>
         rw[hu] at h
         cases d<;>(try (cases h;done))
         have:=XF (ty:=ty) S hu (hs.ev hg t x) h
         refine .val (qB Builtin.clear_ rfl) ?_
         rw[e1,e2]
         simpa using this
   case max=>
    simp only at h
    cases ha:args.toList with
    | nil=>rw[ha] at h;cases h
    | cons x l=>
     rw[ha] at h
     simp only at h
     have:=HT S true (vs:=l.map a.eval) (xs:=l.map (aN P A.aE ty sl)) (hs.ev hg ty x) (by simp) (fun j u y hu hy=>by
      simp only[gF] at hu hy
      cases hl:l[j]? with
      | none=>rw[hl] at hu;cases hu
      | some z=>rw[hl] at hu hy;cases hu;cases hy;exact hs.ev hg ty z) h
     refine .val (qB Builtin.max_ rfl) ?_
     simpa[Builtin.max_,ha] using this
   case min=>
    simp only at h
    cases ha:args.toList with
    | nil=>rw[ha] at h;cases h
    | cons x l=>
     rw[ha] at h
     simp only at h
     have:=HT S false (vs:=l.map a.eval) (xs:=l.map (aN P A.aE ty sl)) (hs.ev hg ty x) (by simp) (fun j u y hu hy=>by
      simp only[gF] at hu hy
      cases hl:l[j]? with
      | none=>rw[hl] at hu;cases hu
      | some z=>rw[hl] at hu hy;cases hu;cases hy;exact hs.ev hg ty z) h
     refine .val (qB Builtin.min_ rfl) ?_
     simpa[Builtin.min_,ha] using this
end
section
variable {P:Program} {A:cB} {w w':World} {I I' I2:Nat→Prop} {μ β β':Nat→Option Nat} {hp hp':Nat→Option an} {C:ag} {B:Nat} {M:Nat→Prop} {w0:Start}
theorem v9: ∀{l m:List Nat},eo.nW l m=true→l=m
 | [],[],_=>rfl
 | [],_::_,h=>by cases h
 | _::_,[],h=>by cases h
 | a::l,b::m,h=>by
  simp only[eo.nW,aK,aR] at h
  rw[h.1,v9 h.2]
@[simp] theorem N9 (n:Nat):kG (ed n)=n:=by simp[kG,ed,V.toInt]
theorem DN: ∀(path:List (Nat × Nat)) (rest:List V),yY (path.map (·.2)) ((path.map fun p=>ed p.1)++rest)=path
 | [],_=>rfl
 | p::l,rest=>by
  simp only[cz,List.cons_append,yY,V.nth,N9,kE,iX,DN l rest]
theorem DO {l:LS} {x:V} {ds:List V} (h:eo l x=some ds):ds.length=l.size∧(l= .p6∨∀rest,iy l (ds++rest)=x):=by
 cases l with
 | p6=>simp only[eo,dR] at h;subst h;exact ⟨rfl,.inl rfl⟩
 | int k=>
  cases x<;>simp only[eo] at h<;>first|(cases h;done)|skip
  rename_i k' n
  by_cases hk:k=k'
  ·subst hk
   simp only[rm,cond_true,dR] at h
   subst h
   exact ⟨rfl,.inr fun _=>rfl⟩
  ·simp[hk] at h
 | bool=>
  cases x<;>simp only[eo] at h<;>first|(cases h;done)|skip
  cases h
  exact ⟨rfl,.inr fun _=>rfl⟩
 | str=>
  cases x<;>simp only[eo] at h<;>first|(cases h;done)|skip
  cases h
  exact ⟨rfl,.inr fun _=>rfl⟩
 | list e=>
  cases x<;>simp only[eo] at h<;>first|(cases h;done)|skip
  rename_i e' es
  cases hb:Nat.beq e e' with
  | false=>rw[hb] at h;cases h
  | true=>
   rw[hb] at h
   rw[aR] at hb
   subst hb
   cases h
   exact ⟨rfl,.inr fun _=>rfl⟩
 | whole e j=>
  cases x<;>simp only[eo] at h<;>first|(cases h;done)|skip
  rename_i e' id
  cases hb:(Nat.beq e e'&&Nat.beq j id) with
  | false=>rw[hb] at h;cases h
  | true=>
   rw[hb] at h
   simp only[aK,aR] at hb
   obtain ⟨rfl,rfl⟩:=hb
   cases h
   exact ⟨rfl,.inr fun _=>rfl⟩
 | sub e j=>
  cases x<;>simp only[eo] at h<;>first|(cases h;done)|skip
  rename_i e' id o n
  cases hb:(Nat.beq e e'&&Nat.beq j id) with
  | false=>rw[hb] at h;cases h
  | true=>
   rw[hb] at h
   simp only[aK,aR] at hb
   obtain ⟨rfl,rfl⟩:=hb
   cases h
   exact ⟨rfl,.inr fun _=>by simp[iy,V.nth]⟩
 | ptr j=>
  cases x<;>simp only[eo] at h<;>first|(cases h;done)|skip
  rename_i id i c
  cases hb:(Nat.beq j id) with
  | false=>rw[hb] at h;cases h
  | true=>
   rw[hb] at h
   rw[aR] at hb
   subst hb
   cases h
   exact ⟨rfl,.inr fun _=>by simp[iy,V.nth]⟩
 | mQ j i c=>
  cases x<;>simp only[eo] at h<;>first|(cases h;done)|skip
  rename_i id i' c'
  cases hb:(Nat.beq j id&&(Nat.beq i i'&&Nat.beq c c')) with
  | false=>rw[hb] at h;cases h
  | true=>
   rw[hb] at h
   simp only[aK,aR] at hb
   obtain ⟨rfl,rfl,rfl⟩:=hb
   cases h
   exact ⟨rfl,.inr fun _=>rfl⟩
 | nilS e=>
  cases x<;>simp only[eo] at h<;>first|(cases h;done)|skip
  rename_i e'
  cases hb:Nat.beq e e' with
  | false=>rw[hb] at h;cases h
  | true=>
   rw[hb] at h
   rw[aR] at hb
   subst hb
   cases h
   exact ⟨rfl,.inr fun _=>rfl⟩
 | dk=>
  cases x<;>simp only[eo] at h<;>first|(cases h;done)|skip
  cases h
  exact ⟨rfl,.inr fun _=>rfl⟩
 | ct e j=>
  cases x<;>simp only[eo] at h<;>first|(cases h;done)|skip
  rename_i e' id
  cases hb:(Nat.beq e e'&&Nat.beq j id) with
  | false=>rw[hb] at h;cases h
  | true=>
   rw[hb] at h
   simp only[aK,aR] at hb
   obtain ⟨rfl,rfl⟩:=hb
   cases h
   exact ⟨rfl,.inr fun _=>rfl⟩
 | dy e=>
  cases x<;>simp only[eo] at h<;>first|(cases h;done)|skip
  rename_i e'
  cases hb:Nat.beq e e' with
  | false=>rw[hb] at h;cases h
  | true=>
   rw[hb] at h
   rw[aR] at hb
   subst hb
   cases h
   exact ⟨rfl,.inr fun _=>rfl⟩
 | CB k n=>
  cases x<;>simp only[eo] at h<;>first|(cases h;done)|skip
  rename_i k' m
  cases hb:(decide (k=k')&&decide (m=n)) with
  | false=>rw[hb] at h;cases h
  | true=>
   rw[hb] at h
   simp only[aK,ec] at hb
   obtain ⟨rfl,rfl⟩:=hb
   cases h
   exact ⟨rfl,.inr fun _=>rfl⟩
 | CD b=>
  cases x<;>simp only[eo] at h<;>first|(cases h;done)|skip
  rename_i c
  cases hb:decide (b=c) with
  | false=>rw[hb] at h;cases h
  | true=>
   rw[hb] at h
   obtain rfl:=mJ hb
   cases h
   exact ⟨rfl,.inr fun _=>rfl⟩
 | row e j cs=>
  cases x<;>simp only[eo] at h<;>first|(cases h;done)|skip
  rename_i e' id ver path
  cases hb:(Nat.beq e e'&&(Nat.beq j id&&(Nat.beq ver 0&&eo.nW cs (path.map (·.2))))) with
  | false=>rw[hb] at h;cases h
  | true=>
   rw[hb] at h
   simp only[aK,aR] at hb
   obtain ⟨rfl,rfl,rfl,oe⟩:=hb
   have:=v9 oe
   subst this
   cases h
   exact ⟨by simp[LS.size],.inr fun rest=>by simp only[iy,DN]⟩
 | cA j cs c=>
  cases x<;>simp only[eo] at h<;>first|(cases h;done)|skip
  rename_i id ver path i c'
  cases hb:(Nat.beq j id&&(Nat.beq ver 0&&(Nat.beq c c'&&eo.nW cs (path.map (·.2))))) with
  | false=>rw[hb] at h;cases h
  | true=>
   rw[hb] at h
   simp only[aK,aR] at hb
   obtain ⟨rfl,rfl,rfl,oe⟩:=hb
   have:=v9 oe
   subst this
   cases h
   exact ⟨by simp[LS.size],.inr fun rest=>by simp only[iy,List.cons_append,V.nth,N9,kE,iX,DN]⟩
def LS.below (n:Nat) (x:V):Prop:= ∀id∈ep x,id<n
def Oa:V→Prop
 | .agg _=>False
 | .bn _=>False
 | .fn .. =>False
 | .pref .. =>False
 | _=>True
theorem tL {c:Bool} {a d:List V} (h:(bif c then some a else none)=some d):c=true:=by
 cases c with
 | true=>rfl
 | false=>cases h
theorem Ys {l:LS} {x:V} {ds:List V} {n:Nat} (h:eo l x=some ds) (hl:l≠ .p6) (au:l.ok n=true):Oa x∧LS.below n x:=by
 cases l<;>cases x<;>simp only[eo] at h<;>first|(cases h;done)|(exact absurd rfl hl)|skip
 all_goals refine ⟨trivial,fun id ab=> ?_⟩
 all_goals simp only[ep,en,List.not_mem_nil] at ab
 all_goals subst ab
 all_goals simp only[LS.ok,jQ] at au
 all_goals
  have hb:=tL h
  simp only[aK,aR] at hb
  omega
theorem ao.Yt {v:Value} {x:V} (h:ao P w I β hp v x) (hx:Oa x) (hs: ∀id∈ep x,hp' id=hp id∧β' id=β id):ao P w I β' hp' v x:=by
 have one: ∀{id},id∈ep x→hp' id=hp id∧β' id=β id:=fun h=>hs _ h
 cases h with
 | undef=>exact .undef
 | int=>exact .int
 | bool=>exact .bool
 | str h=>exact .str h
 | list h=>exact .list h
 | nilS=>exact .nilS
 | agg=>exact hx.elim
 | bn=>exact hx.elim
 | dk=>exact .dk
 | fn=>exact hx.elim
 | pref=>exact hx.elim
 | ef h=>exact .ef ((one (by simp[ep])).1.trans h)
 | fT h=>exact .fT ((one (by simp[ep])).1.trans h)
 | jY h=>exact .jY ((one (by simp[ep])).1.trans h)
 | dF h hb=>exact .dF ((one (by simp[ep])).1.trans h) ((one (by simp[ep])).2.trans hb)
 | whole h hb a b c=>exact .whole ((one (by simp[ep])).1.trans h) ((one (by simp[ep])).2.trans hb) a b c
 | er h hb a b c=>exact .er ((one (by simp[ep])).1.trans h) ((one (by simp[ep])).2.trans hb) a b c
 | fF h hb=>exact .fF ((one (by simp[ep])).1.trans h) ((one (by simp[ep])).2.trans hb)
 | sub h hb a b c=>exact .sub ((one (by simp[ep])).1.trans h) ((one (by simp[ep])).2.trans hb) a b c
 | ptr h hd hb=>exact .ptr ((one (by simp[ep])).1.trans h) hd ((one (by simp[ep])).2.trans hb)
 | ju h qx=>exact .ju ((one (by simp[ep])).1.trans h) qx
 | jv h qx=>exact .jv ((one (by simp[ep])).1.trans h) qx
 | row h hb a b c d=>exact .row ((one (by simp[ep])).1.trans h) ((one (by simp[ep])).2.trans hb) a b c d
 | cA h hb a b c d e=>exact .cA ((one (by simp[ep])).1.trans h) ((one (by simp[ep])).2.trans hb) a b c d e
 | dy=>exact .dy
 | ia h=>exact .ia ((one (by simp[ep])).1.trans h)
 | ct h hb=>exact .ct ((one (by simp[ep])).1.trans h) ((one (by simp[ep])).2.trans hb)
theorem nh {a b:List V} {n:Nat} (h:a.length=n):(a++b).drop n=b:=by subst h;simp
def zK (n:Nat) (β:Nat→Option Nat) (hp:Nat→Option an) (β':Nat→Option Nat) (hp':Nat→Option an):Prop:= ∀id,id<n→hp' id=hp id∧β' id=β id
theorem Ob {l:LS} {x:V} {ds:List V} {n:Nat} {v:Value} (h:eo l x=some ds) (au:l.ok n=true) (iJ:zK n β hp β' hp') (hv:ao P w I β hp v x) (rest:List V):
  ao P w I β' hp' v (iy l (ds++rest)):=by
 rcases (DO h).2 with e|e
 ·subst e;exact .undef
 ·rw[e rest]
  by_cases hu:l= .p6
  ·subst hu
   have:x= .undef:=(e rest).symm
   subst this
   exact .undef
  ·obtain ⟨h1,U⟩:=Ys h hu au
   exact hv.Yt h1 fun id ab=>iJ id (U id ab)
theorem zL {n:Nat} (iJ:zK n β hp β' hp'): ∀{ls:List LS} {xs:List V} {ds:List V},o7 ls xs=some ds→ls.all (LS.ok n)=true→
  ds.length=jV ls∧(∀rest,(hG ls (ds++rest)).length=xs.length)∧
  ∀(rest:List V) (j:Nat) (v:Value) (y:V),(∀x,xs[j]? =some x→ao P w I β hp v x)→(hG ls (ds++rest))[j]? =some y→ao P w I β' hp' v y
 | [],[],ds,h,_=>by cases h;exact ⟨rfl,fun _=>rfl,fun rest j v y _ hy=>by simp[hG] at hy⟩
 | [],_::_,ds,h,_=>by cases h
 | _::_,[],ds,h,_=>by cases h
 | l::ls,x::xs,ds,h,au=>by
  simp only[o7] at h
  obtain ⟨a,h1,h⟩:=bind_some h
  obtain ⟨b,U,h⟩:=bind_some h
  cases h
  simp only[List.all_cons,aK] at au
  obtain ⟨i1,i2,i3⟩:=zL iJ U au.2
  have cf:=(DO h1).1
  have hd: ∀rest,(a++b++rest).drop l.size=b++rest:=fun rest=>by rw[cq];exact nh cf
  refine ⟨by simp only[bS,jV];omega,fun rest=>by simp only[hG,List.length_cons,hd,i2],fun rest j v y hv hy=> ?_⟩
  simp only[hG,hd] at hy
  cases j with
  | zero=>
   simp at hy
   subst hy
   exact Ob h1 au.1 iJ (hv x rfl) _
  | succ j=>exact i3 rest j v y (fun x hx=>hv x (by simpa using hx)) (by simpa using hy)
theorem Ie: ∀{ls:List LS} {xs:List V} {ds:List V},o7 ls xs=some ds→ls.all LS.plain=true→ds.length=jV ls∧∀rest,hG ls (ds++rest)=xs
 | [],[],ds,h,_=>by cases h;exact ⟨rfl,fun _=>rfl⟩
 | [],_::_,ds,h,_=>by cases h
 | _::_,[],ds,h,_=>by cases h
 | l::ls,x::xs,ds,h,au=>by
  simp only[o7] at h
  obtain ⟨a,h1,h⟩:=bind_some h
  obtain ⟨b,U,h⟩:=bind_some h
  cases h
  simp only[List.all_cons,aK] at au
  obtain ⟨i1,i2⟩:=Ie U au.2
  obtain ⟨cf,hm⟩:=DO h1
  refine ⟨by simp only[bS,jV];omega,fun rest=> ?_⟩
  simp only[hG]
  rw[show (a++b++rest).drop l.size=b++rest by rw[cq];exact nh cf,i2,cq]
  rcases hm with e|e
  ·subst e;cases au.1
  ·rw[e]
theorem Ig {n:Nat} (iJ:zK n β hp β' hp') {s:VS} {x:V} {ds:List V} (h:o8 s x=some ds) (au:s.ok n=true):
  ds.length=s.size∧∀(rest:List V) (v:Value),ao P w I β hp v x→ao P w I β' hp' v (kI s (ds++rest)):=by
 cases s with
 | one l=>exact ⟨(DO h).1,fun rest v hv=>Ob h au iJ hv rest⟩
 | agg ls=>
  cases x<;>simp only[o8] at h<;>first|(cases h;done)|skip
  rename_i xs
  obtain ⟨i1,i2,i3⟩:=zL (P:=P) (w:=w) (I:=I) iJ h au
  refine ⟨i1,fun rest v hv=> ?_⟩
  obtain ⟨cs,rfl,e1,e2⟩:=hv.kM
  exact .agg (by rw[i2];exact e1) fun j v y hj hy=>i3 rest j v y (fun x hx=>e2 j v x hj hx) hy
 | bn ls=>
  cases x<;>simp only[o8] at h<;>first|(cases h;done)|skip
  rename_i xs
  obtain ⟨i1,i2,i3⟩:=zL (P:=P) (w:=w) (I:=I) iJ h au
  refine ⟨i1,fun rest v hv=> ?_⟩
  obtain ⟨cs,rfl,e1,e2⟩:=hv.tu
  exact .bn (by rw[i2];exact e1) fun j v y hj hy=>i3 rest j v y (fun x hx=>e2 j v x hj hx) hy
 | fn f a b=>
  cases x<;>simp only[o8] at h<;>first|(cases h;done)|skip
  rename_i f' xs ys
  cases hb:Nat.beq f f' with
  | false=>rw[hb] at h;cases h
  | true=>
   rw[hb] at h
   rw[aR] at hb
   subst hb
   simp only[cond_true] at h
   obtain ⟨p,h1,h⟩:=bind_some h
   obtain ⟨q,U,h⟩:=bind_some h
   cases h
   simp only[VS.ok,aK] at au
   obtain ⟨i1,i2,i3⟩:=zL (P:=P) (w:=w) (I:=I) iJ h1 au.1
   obtain ⟨j1,j2,j3⟩:=zL (P:=P) (w:=w) (I:=I) iJ U au.2
   refine ⟨by simp only[bS,VS.size];omega,fun rest v hv=> ?_⟩
   cases hv with
   | fn a1 a2 b1 b2=>
    simp only[kI]
    rw[show (p++q++rest).drop (jV a)=q++rest by rw[cq];exact nh i1,cq]
    exact .fn (by rw[i2];exact a1) (fun j v y hj hy=>i3 _ j v y (fun x hx=>a2 j v x hj hx) hy) (by rw[j2];exact b1) (fun j v y hj hy=>j3 _ j v y (fun x hx=>b2 j v x hj hx) hy)
 | pref ts ls=>
  cases x<;>simp only[o8] at h<;>first|(cases h;done)|skip
  rename_i vu xs
  cases hb:eo.nW ts vu with
  | false=>rw[hb] at h;cases h
  | true=>
   rw[hb] at h
   have:=v9 hb
   subst this
   simp only[cond_true] at h
   refine ⟨?_,fun rest v hv=> ?_⟩
   ·exact (Ie h au).1
   ·simp only[kI]
    rw[(Ie h au).2]
    cases hv with
    | pref hl hI hc=>exact .pref hl hI hc
theorem zM {n:Nat} (iJ:zK n β hp β' hp'): ∀{ls:List VS} {xs:List V} {ds:List V},pT ls xs=some ds→ls.all (VS.ok n)=true→
  ds.length=rF ls∧(∀rest,(fj ls (ds++rest)).length=xs.length)∧
  ∀(rest:List V) (j:Nat) (v:Value) (y:V),(∀x,xs[j]? =some x→ao P w I β hp v x)→(fj ls (ds++rest))[j]? =some y→ao P w I β' hp' v y
 | [],[],ds,h,_=>by cases h;exact ⟨rfl,fun _=>rfl,fun rest j v y _ hy=>by simp[fj] at hy⟩
 | [],_::_,ds,h,_=>by cases h
 | _::_,[],ds,h,_=>by cases h
 | l::ls,x::xs,ds,h,au=>by
  simp only[pT] at h
  obtain ⟨a,h1,h⟩:=bind_some h
  obtain ⟨b,U,h⟩:=bind_some h
  cases h
  simp only[List.all_cons,aK] at au
  obtain ⟨i1,i2,i3⟩:=zM iJ U au.2
  obtain ⟨cf,vY⟩:=Ig (P:=P) (w:=w) (I:=I) iJ h1 au.1
  have hd: ∀rest,(a++b++rest).drop l.size=b++rest:=fun rest=>by rw[cq];exact nh cf
  refine ⟨by simp only[bS,rF];omega,fun rest=>by simp only[fj,List.length_cons,hd,i2],fun rest j v y hv hy=> ?_⟩
  simp only[fj,hd] at hy
  cases j with
  | zero=>
   simp at hy
   subst hy
   exact vY _ v (hv x rfl)
  | succ j=>exact i3 rest j v y (fun x hx=>hv x (by simpa using hx)) (by simpa using hy)
end
section
variable {P:Program} {A:cB} {w w':World} {I I' I2:Nat→Prop} {μ β β':Nat→Option Nat} {hp hp' hp0:Nat→Option an} {C:ag} {B:Nat} {M:Nat→Prop} {w0:Start}
theorem gR: ∀{l:List an} {j:Nat},js l j=l[j]?
 | [],j=>by simp[js]
 | b::l,0=>rfl
 | b::l,j+1=>by simp only[js,gR,List.getElem?_cons_succ]
theorem Ih {sl:Nat→V} {k:Nat} {y:V}: ∀{l:List (Nat × VS)} {ds:List V},yW sl l=some ds→(∀p∈l,∀d,o8 p.2 (sl p.1)=some d→d.length=p.2.size)→
  ds.length=nX l∧∀rest,dE (eZ l (ds++rest)) k=some y→∃s d fY,(k,s)∈l∧o8 s (sl k)=some d∧y=kI s (d++fY)
 | [],ds,h,_=>by cases h;exact ⟨rfl,fun rest h=>by cases h⟩
 | (q,s)::l,ds,h,hz=>by
  simp only[yW] at h
  obtain ⟨a,h1,h⟩:=bind_some h
  obtain ⟨b,U,h⟩:=bind_some h
  cases h
  obtain ⟨i1,i2⟩:=Ih (k:=k) (y:=y) U fun p hp=>hz p (ld _ hp)
  have cf:=hz (q,s) (rr ..) a h1
  refine ⟨by simp only[bS,nX];simp only at cf;omega,fun rest hl=> ?_⟩
  simp only[eZ,dE] at hl
  rw[show (a++b++rest).drop s.size=b++rest by rw[cq];exact nh cf] at hl
  cases hb:Nat.beq k q with
  | true=>
   rw[hb] at hl
   rw[aR] at hb
   subst hb
   cases hl
   exact ⟨s,a,b++rest,rr ..,h1,by rw[cq]⟩
  | false=>
   rw[hb] at hl
   obtain ⟨s',d,fY,m1,m2,m3⟩:=i2 rest hl
   exact ⟨s',d,fY,ld _ m1,m2,m3⟩
theorem Ii {α:Type} {c:Bool} {x:Option α} {a:α} (h:(bif c then x else none)=some a):c=true∧x=some a:=by
 cases c with
 | true=>exact ⟨rfl,h⟩
 | false=>cases h
theorem Yu {n:Nat} {b:BS} {o:Option an} {ds:List V} (h:kH b o=some ds) (au:b.ok n=true):ds.length=b.size:=by
 cases b with
 | dead=>cases o<;>(cases h;rfl)
 | var T0 ls=>
  cases o with
  | none=>cases h
  | some blk=>
   cases blk<;>simp only[kH] at h<;>first|(cases h;done)|skip
   exact (zM (P:=default) (w:=default) (I:=fun _=>False) (β:=fun _=>none) (hp:=fun _=>none) (fun _ _=>⟨rfl,rfl⟩) (Ii h).2 au).1
 | arr e fz=>
  cases o with
  | none=>cases h
  | some blk=>
   cases blk<;>simp only[kH] at h<;>first|(cases h;done)|skip
   rw[tL h] at h
   cases h
   rfl
 | nest e=>
  cases o with
  | none=>cases h
  | some blk=>
   cases blk<;>simp only[kH] at h<;>first|(cases h;done)|skip
   rw[tL h] at h
   cases h
   rfl
 | map t=>
  cases o with
  | none=>cases h
  | some blk=>
   cases blk<;>simp only[kH] at h<;>first|(cases h;done)|skip
   rw[tL h] at h
   cases h
   rfl
theorem Oc {n:Nat}: ∀{l:List BS} {j:Nat} {ds:List V},yX hp j l=some ds→l.all (BS.ok n)=true→
  (∀rest,(eC l (ds++rest)).length=l.length)∧∀(rest:List V) (i:Nat) (blk:an),(eC l (ds++rest))[i]? =some blk→∃b d fY,l[i]? =some b∧b.ok n=true∧kH b (hp (j+i))=some d∧blk=fC b (d++fY)
 | [],j,ds,h,_=>by cases h;exact ⟨fun _=>rfl,fun rest i blk hb=>by simp[eC] at hb⟩
 | b::l,j,ds,h,au=>by
  simp only[yX] at h
  obtain ⟨a,h1,h⟩:=bind_some h
  obtain ⟨c,U,h⟩:=bind_some h
  cases h
  simp only[List.all_cons,aK] at au
  obtain ⟨i1,i2⟩:=Oc U au.2
  have cf:=Yu h1 au.1
  have hd: ∀rest,(a++c++rest).drop b.size=c++rest:=fun rest=>by rw[cq];exact nh cf
  refine ⟨fun rest=>by simp only[eC,List.length_cons,hd,i1],fun rest i blk hb=> ?_⟩
  simp only[eC,hd] at hb
  cases i with
  | zero=>
   simp at hb
   exact ⟨b,a,c++rest,rfl,au.1,h1,by rw[←hb]⟩
  | succ i=>
   obtain ⟨b',d,fY,m1,m2,m3,m4⟩:=i2 rest i blk (by simpa using hb)
   exact ⟨b',d,fY,by simpa using m1,m2,by rw[show j+(i+1)=j+1+i by omega];exact m3,m4⟩
theorem Yv {n:Nat} {b:BS} {blk:an} {ds rest:List V} (h:kH b (some blk)=some ds) (au:b.ok n=true):
  blk.le (fC b (ds++rest))∧(fC b (ds++rest)= .dead∨fC b (ds++rest)=blk∨∃T ls cs,b= .var T ls∧blk= .var T cs∧pT ls cs=some ds∧fC b (ds++rest)= .var T (fj ls (ds++rest))):=by
 cases b with
 | dead=>exact ⟨by cases blk<;>trivial,.inl rfl⟩
 | var T0 ls=>
  cases blk<;>simp only[kH] at h<;>first|(cases h;done)|skip
  obtain ⟨hT,h0⟩:=Ii h
  clear h
  rw[aR] at hT
  subst hT
  exact ⟨rfl,.inr (.inr ⟨_,_,_,rfl,rfl,h0,rfl⟩)⟩
 | arr e fz=>
  cases blk<;>simp only[kH] at h<;>first|(cases h;done)|skip
  rename_i e' es mT
  have hb:=tL h
  simp only[aK,aR,beq_iff_eq] at hb
  obtain ⟨rfl,rfl⟩:=hb
  simp only[jn,sX,Bool.and_self,cond_true,dR] at h
  subst h
  exact ⟨⟨rfl,rfl⟩,.inr (.inl rfl)⟩
 | nest e=>
  cases blk<;>simp only[kH] at h<;>first|(cases h;done)|skip
  rename_i e' es ar
  have hb:=tL h
  simp only[aK,aR] at hb
  obtain ⟨rfl,hv⟩:=hb
  have:=v9 hv
  subst this
  simp only[jn,lV] at h
  cases h
  exact ⟨⟨rfl,rfl,rfl,fun _=>bY _⟩,.inr (.inl rfl)⟩
 | map t=>
  cases blk<;>simp only[kH] at h<;>first|(cases h;done)|skip
  rename_i t' es
  have hb:=tL h
  rw[aR] at hb
  subst hb
  simp only[jn,cond_true,dR] at h
  subst h
  exact ⟨rfl,.inr (.inl rfl)⟩
theorem Od {m:Nat} {S:Shape} {st:St} {ds:List V} (h:jt m S st=some ds):
  S.ok=true∧m≤S.bc.length∧∃a b,yW st.sl S.bP=some a∧yX st.hp 0 S.bc=some b∧ds=a++b:=by
 unfold jt at h
 cases hc:(S.ok&&Nat.ble m S.bc.length) with
 | false=>rw[hc] at h;cases h
 | true=>
  rw[hc] at h
  simp only[cond_true] at h
  simp only[aK,dx] at hc
  obtain ⟨a,h1,h⟩:=bind_some h
  obtain ⟨b,U,h⟩:=bind_some h
  cases h
  exact ⟨hc.1,hc.2,a,b,h1,U,rfl⟩
theorem reshape {m:Nat} {S:Shape} {st:St} {ds:List V} (h:jt m S st=some ds) (hS:aF P w I β st.hp B M w0):
  aF P w I β (br S ds).hp B M w0∧(∀(k:Nat) (v:Value),ao P w I β st.hp v (st.sl k)→ao P w I β (br S ds).hp v ((br S ds).sl k))∧
  (∀(μ:Nat→Option Nat) (hp0:Nat→Option an),(∀id blk,hp0 id=some blk→id<m)→Le P w0.w w0.I μ hp0 w I β st.hp→Le P w0.w w0.I μ hp0 w I β (br S ds).hp)∧
  ∀j blk',(br S ds).hp j=some blk'→blk'≠ .dead→∃blk,st.hp j=some blk∧blk.le blk'∧∀o b,bw P w o blk' b→bw P w o blk b:=by
 obtain ⟨au,hm,a,b,h1,U,rfl⟩:=Od h
 unfold Shape.ok at au
 rw[aK] at au
 obtain ⟨Oe,HV⟩:=au
 have aX: ∀p∈S.bP,∀d,o8 p.2 (st.sl p.1)=some d→d.length=p.2.size:=fun p hp d hd=>
  (Ig (P:=P) (w:=w) (I:=I) (β:=β) (hp:=st.hp) (fun _ _=>⟨rfl,rfl⟩) hd (fh.1 Oe p hp)).1
 have cf:a.length=nX S.bP:=(Ih (k:=0) (y:= .undef) h1 aX).1
 have DF:(br S (a++b)).hp=js (eC S.bc (b++[])):=by
  simp only[br,mk,cP]
  rw[nh cf]
 obtain ⟨bl,bg⟩:=Oc U HV
 have get: ∀j blk',(br S (a++b)).hp j=some blk'→j<S.bc.length∧∃bs d fY,bs.ok S.bc.length=true∧kH bs (st.hp j)=some d∧blk'=fC bs (d++fY):=by
  intro j blk' hj
  rw[DF,gR] at hj
  obtain ⟨bs,d,fY,m1,m2,m3,m4⟩:=bg [] j blk' hj
  rw[gE] at m3
  exact ⟨(bu.1 m1).1,bs,d,fY,m2,m3,m4⟩
 have have': ∀j,j<S.bc.length→∃blk',(br S (a++b)).hp j=some blk':=by
  intro j hj
  rw[DF,gR]
  exact ⟨_,bO (by rw[bl];exact hj)⟩
 generalize gJ:(br S (a++b)).hp=tM at*
 let bt:Nat→Option an:=fun id=>if id<S.bc.length then tM id else st.hp id
 have back: ∀j blk',tM j=some blk'→blk'≠ .dead→∃blk,st.hp j=some blk∧blk.le blk'∧(blk'=blk∨∃T ls cs d fY,ls.all (VS.ok S.bc.length)=true∧blk= .var T cs∧pT ls cs=some d∧blk'= .var T (fj ls (d++fY))):=by
  intro j blk' hj hd
  obtain ⟨cd,bs,d,fY,m1,m2,m3⟩:=get j blk' hj
  cases bI:st.hp j with
  | none=>
   rw[bI] at m2
   cases bs<;>simp only[kH] at m2<;>first|(cases m2;done)|skip
   exact absurd m3 hd
  | some blk=>
   rw[bI] at m2
   obtain ⟨n1,n2⟩:=Yv (rest:=fY) m2 m1
   rw[←m3] at n1 n2
   refine ⟨blk,rfl,n1,?_⟩
   rcases n2 with e|e|⟨T,ls,cs,e1,e2,e3,e4⟩
   ·exact absurd e hd
   ·exact .inl e
   ·subst e1
    exact .inr ⟨T,ls,cs,d,fY,m1,e2,e3,e4⟩
 have Yw: ∀j blk,st.hp j=some blk→j<S.bc.length→∃blk',tM j=some blk'∧blk.le blk':=by
  intro j blk hj cd
  obtain ⟨blk',aB⟩:=have' j cd
  refine ⟨blk',aB,?_⟩
  by_cases hd:blk'= .dead
  ·subst hd;cases blk<;>trivial
  ·obtain ⟨bZ,e1,e2,_⟩:=back j blk' aB hd
   rw[hj] at e1;cases e1
   exact e2
 have Yx: ∀j e es ar e' aL vers',st.hp j=some (.nest e es ar)→tM j=some (.nest e' aL vers')→e'=e∧aL=es∧vers'=ar:=by
  intro j e es ar e' aL vers' hj gl
  obtain ⟨blk,e1,_,e3⟩:=back j _ gl (by simp)
  rw[hj] at e1;cases e1
  rcases e3 with e3|⟨_,_,_,_,_,_,e3,_⟩
  ·cases e3;exact ⟨rfl,rfl,rfl⟩
  ·cases e3
 have hle:Le P w I β st.hp w I β bt:=by
  refine ⟨fun _ h=>h,fun _ _=>rfl,fun id blk ab=> ?_,fun _ _ _ _ _ _ _ _=>rfl,Le.rM (fun _ _ _ _ _ _=>rfl) fun id e es ar e' aL vers' ab bD=> ?_⟩
  ·by_cases hl:id<S.bc.length
   ·obtain ⟨blk',e1,e2⟩:=Yw id blk ab hl
    exact ⟨blk',by simp only[bt,aj hl];exact e1,e2,fun _=>rfl⟩
   ·exact ⟨blk,by simp only[bt,ai hl];exact ab,an.le_refl _,fun _=>rfl⟩
  ·by_cases hl:id<S.bc.length
   ·simp only[bt,aj hl] at bD
    exact Yx _ _ _ _ _ _ _ ab bD
   ·simp only[bt,ai hl] at bD
    rw[ab] at bD;cases bD
    exact ⟨rfl,rfl,rfl⟩
 have iJ:zK S.bc.length β bt β tM:=fun id ab=>⟨by simp only[bt,aj ab],rfl⟩
 have vR: ∀j blk' blk o b,tM j=some blk'→st.hp j=some blk→bw P w o blk' b→bw P w o blk b:=by
  intro j blk' blk o b gl hj ho
  obtain ⟨bZ,e1,_,e3⟩:=back j blk' gl ho.alive
  rw[hj] at e1;cases e1
  rcases e3 with e3|⟨T,ls,cs,d,fY,_,e3,_,e5⟩
  ·subst e3;exact ho
  ·subst e3;subst e5
   exact .root (by simp) (ho.flat (by simp))
 refine ⟨⟨⟨fun j blk' hj=> ?_,fun j1 j2 b1 b2 b' e1 e2 o1 o2=> ?_,fun j blk b' hj ho=> ?_,hS.h.jw⟩,hS.cb,hS.size,hS.new,hS.io⟩,fun k v hv=> ?_,fun μ hp0 aO hE=> ?_,fun j blk' hj hd=> ?_⟩
 ·by_cases hd:blk'= .dead
  ·subst hd;exact .dead
  ·obtain ⟨blk,e1,_,e3⟩:=back j blk' hj hd
   have hr:=hS.h.rel j blk e1
   generalize β j=o at hr
   rcases e3 with e3|⟨T0,ls,cs,d,fY,q1,e3,e4,e5⟩
   ·subst e3
    cases hr with
    | @var xs b' Ca T hb hh hs cL hx fV=>
     obtain ⟨cd,bs,d,fY,m1,m2,m3⟩:=get j _ hj
     rw[e1] at m2
     cases bs<;>simp only[kH] at m2<;>first|(cases m2;done)|skip
     ·rename_i T0 ls
      simp only[fC] at m3
      obtain ⟨hT,m2⟩:=Ii m2
      obtain ⟨i1,i2,i3⟩:=zM (P:=P) (w:=w) (I:=I) iJ m2 m1
      injection m3 with m4 m3
      rw[m3]
      exact .var hb hh (by rw[i2];exact hs) cL (fun i v y hi hy=>i3 fY i v y (fun x cw=>(hx i v x hi cw).mono hle) hy) fV
     ·simp only[fC] at m3
      cases m3
    | dG hb=>exact .dG hb
    | arr a1 a2 a3 a4 a5 a6 a7=>exact .arr a1 a2 a3 a4 a5 a6 a7
    | dead=>exact absurd rfl hd
    | nest a1 a2 a3=>exact .nest a1 a2 a3
    | map a1 a2 a3 a4 a5 a6 a7=>exact .map a1 a2 a3 a4 a5 a6 a7
   ·subst e3
    subst e5
    cases hr with
    | @var xs b' Ca T hb hh hs cL hx fV=>
     obtain ⟨i1,i2,i3⟩:=zM (P:=P) (w:=w) (I:=I) iJ e4 q1
     exact .var hb hh (by rw[i2];exact hs) cL (fun i v y hi hy=>i3 fY i v y (fun x cw=>(hx i v x hi cw).mono hle) hy) fV
 ·obtain ⟨c1,x1,_,_⟩:=back j1 b1 e1 o1.alive
  obtain ⟨c2,x2,_,_⟩:=back j2 b2 e2 o2.alive
  exact hS.h.inj j1 j2 c1 c2 b' x1 x2 (vR _ _ _ _ _ e1 x1 o1) (vR _ _ _ _ _ e2 x2 o2)
 ·obtain ⟨c1,x1,_,_⟩:=back j blk hj ho.alive
  exact hS.h.own j c1 b' x1 (vR _ _ _ _ _ hj x1 ho)
 ·change ao P w I β tM v (ja (eZ S.bP (a++b)) k)
  unfold ja
  cases Ij:dE (eZ S.bP (a++b)) k with
  | none=>exact .undef
  | some y=>
   obtain ⟨s,d,fY,n1,n2,n3⟩:=(Ih h1 aX).2 b Ij
   simp only[Option.getD_some,n3]
   exact (Ig (P:=P) (w:=w) (I:=I) iJ n2 (fh.1 Oe _ n1)).2 fY v (hv.mono hle)
 ·have h3:=hE.trans hle
  refine ⟨h3.db,h3.cb,fun id blk ab=> ?_,fun id blk blk' b' ab bD hd hb=> ?_,fun id e es ar e' aL vers' b2 q i c t v e1 l ab bD=> ?_⟩
  ·have hl:=aO id blk ab
   obtain ⟨blk',k1,k2,k3⟩:=h3.blk id blk ab
   simp only[bt,aj (show id<S.bc.length by omega)] at k1
   exact ⟨blk',k1,k2,k3⟩
  ·have hl:=aO id blk ab
   exact h3.size id blk blk' b' ab (by simp only[bt,aj (show id<S.bc.length by omega)];exact bD) hd hb
  ·have hl:=aO id _ ab
   exact h3.row id e es ar e' aL vers' b2 q i c t v e1 l ab (by simp only[bt,aj (show id<S.bc.length by omega)];exact bD)
 ·obtain ⟨blk,e1,e2,_⟩:=back j blk' hj hd
  exact ⟨blk,e1,e2,fun o b' ho=>vR _ _ _ _ _ hj e1 ho⟩
end
section
variable {P:Program} {A:cB} {w w':World} {I I' I2:Nat→Prop} {μ β β':Nat→Option Nat} {hp hp' hp0:Nat→Option an} {C:ag} {B:Nat} {M:Nat→Prop} {w0:Start}
inductive dV (P:Program) (w:World) (β:Nat→Option Nat) (hp:Nat→Option an):Place→Option Nat→an→Prop
 | var {id:Nat} {T:TypeId} {cs Ik:List V}:hp id=some (.var T cs)→dV P w β hp (.blk id) (β id) (.var T Ik)
 | arr {id:Nat} {e:TypeId} {es:List V}:hp id=some (.arr e es false)→dV P w β hp (.blk id) (β id) (.arr e es false)
 | nest {id:Nat} {e:TypeId} {es:List V} {ar:List Nat}:hp id=some (.nest e es ar)→dV P w β hp (.blk id) (β id) (.nest e es [0,0,0])
 | row {id ver b b':Nat} {path:Path} {e0 e':TypeId} {es l:List V} {ar:List Nat}:hp id=some (.nest e0 es ar)→β id=some b→At P w b e0 es path b' e' l→yV P e'=true→
   0<path.length→path.length≤ar.length→bB ar (path.length-1)=ver→0<l.length→dV P w β hp (.row id ver path) (some b') (.arr e' l false)
 | map {id:Nat} {t:TypeId} {es:List V}:hp id=some (.map t es)→dV P w β hp (.blk id) (β id) (.map t es)
def zN (P:Program) (w:World) (β:Nat→Option Nat) (hp:Nat→Option an) (ρ:List Place) (μ:Nat→Option Nat) (hp0:Nat→Option an):Prop:=
 ∀j p,ee ρ j=some p→∃blk,hp0 j=some blk∧dV P w β hp p (μ j) blk
theorem ot: ∀{l m:List Place} {j:Nat} {p:Place},ee l j=some p→ee (l++m) j=some p
 | [],m,j,p,h=>by cases h
 | a::l,m,0,p,h=>h
 | a::l,m,j+1,p,h=>ot (l:=l) h
theorem lG: ∀{l:List Place} {j:Nat},ee l j=l[j]?
 | [],j=>by simp[ee]
 | a::l,0=>rfl
 | a::l,j+1=>by simp only[ee,lG,List.getElem?_cons_succ]
structure Ext (P:Program) (w:World) (I:Nat→Prop) (β:Nat→Option Nat) (hp:Nat→Option an) (h h':Hand) (d:List V) (u:List (Nat × an)):Prop where
 ds:h'.ds=h.ds++d
 upd:h'.upd=h.upd++u
 DP: ∀q∈u,zh hp q
 pl: ∃m,h'.pl=h.pl++m
 nodup:(h.pl.map Place.id).Nodup→(h'.pl.map Place.id).Nodup
theorem Ext.refl (h:Hand):Ext P w I β hp h h [] []:=⟨by simp,by simp,by simp,⟨[],by simp⟩,id⟩
theorem Ext.trans {h1 U h3:Hand} {d1 d2:List V} {u1 u2:List (Nat × an)} (a:Ext P w I β hp h1 U d1 u1) (b:Ext P w I β hp U h3 d2 u2):Ext P w I β hp h1 h3 (d1++d2) (u1++u2):=by
 obtain ⟨m1,e1⟩:=a.pl
 obtain ⟨m2,e2⟩:=b.pl
 exact ⟨by rw[b.ds,a.ds,cq],by rw[b.upd,a.upd,cq],fun q hq=>(ez.1 hq).elim (a.DP q) (b.DP q),⟨m1++m2,by rw[e2,e1,cq]⟩,fun h=>b.nodup (a.nodup h)⟩
theorem Ext.look {h h':Hand} {d:List V} {u:List (Nat × an)} (a:Ext P w I β hp h h' d u) {j:Nat} {p:Place} (hj:ee h.pl j=some p):ee h'.pl j=some p:=by
 obtain ⟨m,e⟩:=a.pl
 rw[e]
 exact ot hj
theorem Ext.leaf (h:Hand) (x:V):Ext P w I β hp h {h with ds:=h.ds++[x]} [x] []:=⟨rfl,by simp,by simp,⟨[],by simp⟩,id⟩
theorem Yy {α:Type} {ρ:List Place} {j:Nat} {p:Place} {k:List Place→Rd α} {r:α} {rd:List Nat} (h:(unify ρ j p k).run C hp=some (r,rd)) (hb: ∃id,p= .blk id∨∃ver path,p= .row id ver path):
  ∃jA,(k jA).run C hp=some (r,rd)∧(∃m,jA=ρ++m)∧ee jA j=some p∧((ρ.map Place.id).Nodup→(jA.map Place.id).Nodup):=by
 unfold unify at h
 cases hc:Nat.blt j ρ.length with
 | true=>
  rw[hc] at h
  obtain ⟨h1,U⟩:=aG h
  refine ⟨ρ,U,⟨[],by simp⟩,?_,id⟩
  unfold MG at h1
  split at h1
  ·rename_i a b he
   rw[aR] at h1
   subst h1
   exact he
  ·cases h1
 | false=>
  rw[hc] at h
  obtain ⟨h1,U⟩:=aG h
  simp only[aK,aR,mL] at h1
  obtain ⟨rfl,h3⟩:=h1
  refine ⟨ρ++[p],U,⟨[p],rfl⟩,?_,fun hn=> ?_⟩
  ·rw[lG];simp
  ·rw[eQ,Cu]
   refine ⟨hn,by simp,fun a ha b hb=> ?_⟩
   simp only[cz,fR,en] at hb
   subst hb
   intro e
   subst e
   rw[vO ha] at h3
   cases h3
theorem tN {α:Type} {h:Hand} {j:Nat} {p:Place} {k:List Place→Rd α} {r:α} {rd:List Nat} (hr:(unify h.pl j p k).run C hp=some (r,rd)) (ds:List V):
  ∃jA,(k jA).run C hp=some (r,rd)∧ee jA j=some p∧Ext P w I β hp h {h with pl:=jA,ds:=h.ds++ds} ds []:=by
 obtain ⟨jA,a,b,c,d⟩:=Yy hr (by cases p with|blk id=>exact ⟨id,.inl rfl⟩|row id ver path=>exact ⟨id,.inr ⟨ver,path,rfl⟩⟩)
 exact ⟨jA,a,c,⟨rfl,by simp,by simp,b,d⟩⟩
theorem Yz {o:Option Nat} {blk:an} {e:TypeId} {id j:Nat} {v:Value} (hv:ao P w I β hp v (.whole e id)) (hl:dV P w β hp (.blk id) o blk) (hj:hp0 j=some blk) (jB:μ j=o):ao P w I' μ hp0 v (.whole e j):=by
 cases hl with
 | var h=>
  cases hv with
  | ef U=>rw[h] at U;cases U
  | dF U=>rw[h] at U;cases U
  | whole U=>rw[h] at U;cases U
  | er U=>rw[h] at U;cases U
 | arr h=>
  cases hv with
  | ef U=>rw[h] at U;cases U
  | dF U hb=>rw[h] at U;cases U;exact .dF hj (jB.trans hb)
  | whole U hb a b c=>rw[h] at U;cases U;exact .whole hj (jB.trans hb) a b c
  | er U=>rw[h] at U;cases U
 | nest h=>
  cases hv with
  | ef U=>rw[h] at U;cases U
  | dF U=>rw[h] at U;cases U
  | whole U=>rw[h] at U;cases U
  | er U hb a b c=>rw[h] at U;cases U;exact .er hj (jB.trans hb) a b c
 | map h=>
  cases hv with
  | ef U=>rw[h] at U;cases U
  | dF U=>rw[h] at U;cases U
  | whole U=>rw[h] at U;cases U
  | er U=>rw[h] at U;cases U
theorem YA {o:Option Nat} {blk:an} {t:TypeId} {id j:Nat} {v:Value} (hv:ao P w I β hp v (.ct t id)) (hl:dV P w β hp (.blk id) o blk) (hj:hp0 j=some blk) (jB:μ j=o):ao P w I' μ hp0 v (.ct t j):=by
 cases hv with
 | ia U=>cases hl<;>(rename_i h;rw[h] at U;cases U)
 | ct U hb=>
  cases hl<;>(rename_i h;rw[h] at U;cases U)
  exact .ct hj (jB.trans hb)
theorem YB {o:Option Nat} {blk:an} {e:TypeId} {id off n j:Nat} {v:Value} (hv:ao P w I β hp v (.sub e id off n)) (hl:dV P w β hp (.blk id) o blk) (hj:hp0 j=some blk) (jB:μ j=o):ao P w I' μ hp0 v (.sub e j off n):=by
 cases hl with
 | var h=>
  cases hv with
  | fT U=>rw[h] at U;cases U
  | fF U=>rw[h] at U;cases U
  | sub U=>rw[h] at U;cases U
 | arr h=>
  cases hv with
  | fT U=>rw[h] at U;cases U
  | fF U hb=>rw[h] at U;cases U;exact .fF hj (jB.trans hb)
  | sub U hb a b c=>rw[h] at U;cases U;exact .sub hj (jB.trans hb) a b c
 | nest h=>
  cases hv with
  | fT U=>rw[h] at U;cases U
  | fF U=>rw[h] at U;cases U
  | sub U=>rw[h] at U;cases U
 | map h=>
  cases hv with
  | fT U=>rw[h] at U;cases U
  | fF U=>rw[h] at U;cases U
  | sub U=>rw[h] at U;cases U
theorem Of {o:Option Nat} {blk:an} {id i c j:Nat} {v:Value} (hv:ao P w I β hp v (.ptr id i c)) (hl:dV P w β hp (.blk id) o blk) (hj:hp0 j=some blk) (jB:μ j=o):ao P w I' μ hp0 v (.ptr j i c):=by
 cases hl with
 | @var _ T0 cs Ik h=>
  obtain ⟨b,hb,rfl⟩:=hv.gL h (by simp)
  exact ao.ptr (blk:= .var T0 Ik) hj (by simp) (jB.trans hb)
 | @arr _ e es h=>
  obtain ⟨b,hb,rfl⟩:=hv.gL h (by simp)
  exact ao.ptr (blk:= .arr e es false) hj (by simp) (jB.trans hb)
 | @nest _ e es ar h=>
  obtain ⟨b,hb,rfl⟩:=hv.gL h (by simp)
  exact ao.ptr (blk:= .nest e es [0,0,0]) hj (by simp) (jB.trans hb)
 | @map _ t es h=>
  obtain ⟨b,hb,rfl⟩:=hv.gL h (by simp)
  exact ao.ptr (blk:= .map t es) hj (by simp) (jB.trans hb)
theorem YC (cD: ∀id blk,hp id=some blk→dS P w I β hp (β id) blk) {id b i c:Nat} {e0 t:TypeId} {es l:List V} {ar:List Nat} {q:Path} {e:TypeId} {v:Value} (ab:hp id=some (.nest e0 es ar)) (hb:β id=some b)
  (ht:P.underlying t=some (.slice e)) (hc:l8 P w b e0 es q i c t v (.list e l)) (hl:0<l.length): ∃b1 cap,v= .slice (some ⟨b1,0,none⟩) l.length cap∧cap*P.cellsOf e=bsize w b1∧l.length≤cap∧cap≤maxLen∧At P w b e0 es (q++[(i,c)]) b1 e l:=by
 obtain ⟨b2,e1,m,Ca,T,f,x,n1,n2,n3,n4,n5,n6⟩:=hc
 have hr:=cD _ _ ab
 cases hr with
 | nest aB hr hn=>
  rw[hb] at aB;cases aB
  have hR:=hr _ _ _ _ n1
  obtain ⟨zk,c1,c2,c3⟩:=hR.cells
  rw[n2] at c1
  cases c1
  have tt:c<P.cellsOf e1:=by rw[←fp hR.ok];exact (bu.1 n4).1
  obtain ⟨v',d1,d2⟩:=c3 i c x t n3 n4 tt
  rw[n6] at d1
  cases d1
  rw[n5] at d2
  generalize hy:V.list e l=y at d2
  cases d2 with
  | fE a p=>unfold fB at a;rw[ht] at a;cases a
  | emp hu ha=>cases hy;simp at hl
  | row hu jx aX b9 oc=>
   cases hy
   exact ⟨_,_,rfl,aX,b9,oc,n1.snoc n2 n3 n4 ht n5 jx n6⟩
theorem YD (S:aF P w I β hp B M w0) {o:Option Nat} {blk:an} {e:TypeId} {id ver j:Nat} {path:Path} {v:Value} (hv:ao P w I β hp v (.row e id ver path)) (hl:dV P w β hp (.row id ver path) o blk) (hj:hp0 j=some blk) (jB:μ j=o):ao P w I' μ hp0 v (.whole e j):=by
 cases hl with
 | row h hb ha hf h1 U h3 h4=>
  obtain ⟨b2,q,i,c,t,l2,rfl,iF,ht,hc⟩:=hv.MO h h1 U h3
  rw[hb] at iF;cases iF
  obtain ⟨p1,p2⟩:=Hj ha
  have ib:=hc
  obtain ⟨b3,e3,m3,Ca,T,f,x,n1,n2,n3,n4,n5,n6⟩:=ib
  obtain ⟨q1,q2⟩:=C7 n1 n3 n4 ht n5
  rw[p1] at q1
  rw[p2] at q2
  cases q1
  cases q2
  obtain ⟨b1,cap,rfl,m1,m2,m4,m5⟩:=YC S.h.rel h hb ht hc h4
  have:=YE ha m5
  subst this
  exact .whole hj jB m1 m2 m4
where
 YE {b b1 b2:Nat} {e e1 e2:TypeId} {es l l2:List V} {q:Path} (h:At P w b e es q b1 e1 l) (U:At P w b e es q b2 e2 l2):b2=b1:=(h.fun U).1
theorem Og (S:aF P w I β hp B M w0) {α:Type} {l:LS} {x:V} {h:Hand} {k:Hand→Rd α} {r:α} {rd:List Nat} {v:Value} (hr:(CR P l x h k).run C hp=some (r,rd)) (hv:ao P w I β hp v x):
  ∃h' eL d u,(k h').run C hp=some (r,eL)∧Ext P w I β hp h h' d u∧d.length=l.size∧
   ∀(I':Nat→Prop) (μ:Nat→Option Nat) (hp0:Nat→Option an),(∀b,I b→I' b)→(∀q∈u,∀b,rN P w β hp q.1 b→I' b)→∀ρ m,ρ=h'.pl++m→zN P w β hp ρ μ hp0→∀rest,ao P w I' μ hp0 v (iy l (d++rest)):=by
 have plain: ∀{x':V} {jf:List Nat},(k {h with ds:=h.ds++[x']}).run C hp=some (r,jf)→l.size=1→(∀I' μ hp0 rest,ao P w I' μ hp0 v (iy l ([x']++rest)))→∃h' eL d u,(k h').run C hp=some (r,eL)∧Ext P w I β hp h h' d u∧d.length=l.size∧
   ∀(I':Nat→Prop) (μ:Nat→Option Nat) (hp0:Nat→Option an),(∀b,I b→I' b)→(∀q∈u,∀b,rN P w β hp q.1 b→I' b)→∀ρ m,ρ=h'.pl++m→zN P w β hp ρ μ hp0→∀rest,ao P w I' μ hp0 v (iy l (d++rest)):=
  fun hk hs hx=>⟨_,_,_,_,hk,Ext.leaf h _,hs.symm,fun I' μ hp0 _ _ _ _ _ _ rest=>hx I' μ hp0 rest⟩
 have na: ∀{jf:List Nat},(k h).run C hp=some (r,jf)→l.size=0→(∀I' μ hp0 rest,ao P w I' μ hp0 v (iy l rest))→∃h' eL d u,(k h').run C hp=some (r,eL)∧Ext P w I β hp h h' d u∧d.length=l.size∧
   ∀(I':Nat→Prop) (μ:Nat→Option Nat) (hp0:Nat→Option an),(∀b,I b→I' b)→(∀q∈u,∀b,rN P w β hp q.1 b→I' b)→∀ρ m,ρ=h'.pl++m→zN P w β hp ρ μ hp0→∀rest,ao P w I' μ hp0 v (iy l (d++rest)):=
  fun hk hs hx=>⟨_,_,_,_,hk,Ext.refl h,by simp[hs],fun I' μ hp0 _ _ _ _ _ _ rest=>hx I' μ hp0 rest⟩
 unfold CR at hr
 cases l with
 | p6=>exact na hr rfl fun _ _ _ _=> .undef
 | int kd=>
  cases x<;>simp only at hr<;>first|(cases hr;done)|skip
  obtain ⟨h1,U⟩:=aG hr
  simp only[ec] at h1
  subst h1
  obtain rfl:=hv.ei
  exact plain U rfl fun _ _ _ _=> .int
 | bool=>
  cases x<;>simp only at hr<;>first|(cases hr;done)|skip
  obtain rfl:=hv.j5
  exact plain hr rfl fun _ _ _ _=> .bool
 | str=>
  cases x<;>simp only at hr<;>first|(cases hr;done)|skip
  obtain ⟨s,rfl,hl⟩:=hv.ma
  exact plain hr rfl fun _ _ _ _=> .str hl
 | nilS e=>
  cases x<;>simp only at hr<;>first|(cases hr;done)|skip
  obtain ⟨h1,U⟩:=aG hr
  cases hv with
  | nilS=>exact na U rfl fun _ _ _ _=> .nilS
 | dk=>
  cases x<;>simp only at hr<;>first|(cases hr;done)|skip
  cases hv with
  | dk=>exact na hr rfl fun _ _ _ _=> .dk
 | row e j cs=>
  cases x<;>simp only at hr<;>first|(cases hr;done)|skip
  rename_i e' id ver path
  obtain ⟨e0,es,ar,l0,ab,p1,p2,p3,hr⟩:=oa hr
  obtain ⟨h1,U⟩:=aG hr
  simp only[aK,aR,dx] at h1
  obtain ⟨rfl,oe,YF⟩:=h1
  have:=v9 oe
  subst this
  obtain ⟨jA,a,b,c⟩:=tN (P:=P) (w:=w) (I:=I) (β:=β) U (path.map fun p=>ed p.1)
  refine ⟨_,_,path.map fun p=>ed p.1,[],a,c,by simp[LS.size],fun I' μ hp0 i1 i2 ρ m dp cW rest=> ?_⟩
  obtain ⟨blk,k1,k2⟩:=cW j _ (by rw[dp];exact ot b)
  obtain ⟨bb,q,i,cc,t,l,rfl,hb,ht,hc⟩:=hv.MO ab p1 p2 p3
  have qn:blk= .nest e0 es [0,0,0]∧μ j=β id:=by
   generalize μ j=o at k2
   cases k2 with
   | var h=>rw[ab] at h;cases h
   | arr h=>rw[ab] at h;cases h
   | map h=>rw[ab] at h;cases h
   | nest h=>rw[ab] at h;cases h;exact ⟨rfl,rfl⟩
  obtain ⟨rfl,jB⟩:=qn
  simp only[iy,DN]
  have hq:q.length<3:=by rw[bS,List.length_singleton] at YF;omega
  refine .row k1 (jB.trans hb) (by simpa using hq) ?_ ht hc
  match q.length,hq with
  | 0,_=>rfl
  | 1,_=>rfl
  | 2,_=>rfl
 | cA j cs c=>cases hr
 | CB k n=>cases hr
 | CD b=>cases hr
 | dy t=>
  cases x<;>simp only at hr<;>first|(cases hr;done)|skip
  obtain ⟨h1,U⟩:=aG hr
  cases hv with
  | dy=>exact na U rfl fun _ _ _ _=> .dy
 | ct t j=>
  cases x<;>simp only at hr<;>first|(cases hr;done)|skip
  rename_i t' id
  obtain ⟨h1,U⟩:=aG hr
  rw[aR] at h1
  subst h1
  obtain ⟨jA,a,b,c⟩:=tN (P:=P) (w:=w) (I:=I) (β:=β) U []
  refine ⟨_,_,[],[],a,by simpa using c,rfl,fun I' μ hp0 i1 i2 ρ m dp cW rest=> ?_⟩
  obtain ⟨blk,k1,k2⟩:=cW j _ (by rw[dp];exact ot b)
  exact YA hv k2 k1 rfl
 | list e=>
  obtain ⟨⟨y,u⟩,l1,l2,h1,U⟩:=kL hr
  cases y<;>simp only at U<;>first|(cases U;done)|skip
  rename_i e' es
  obtain ⟨h3,h4⟩:=aG U
  rw[aR] at h3
  subst h3
  obtain ⟨p1,p2⟩:=C8 S.h.rel h1 hv
  exact ⟨_,_,[.list e es],u,h4,⟨rfl,rfl,p1,⟨[],by simp⟩,id⟩,rfl,fun I' μ hp0 i1 i2 _ _ _ _ rest=> .list (p2 I' i1 i2)⟩
 | whole e j=>
  cases x<;>simp only at hr<;>first|(cases hr;done)|skip
  ·rename_i e' id
   obtain ⟨h1,U⟩:=aG hr
   rw[aR] at h1
   subst h1
   obtain ⟨jA,a,b,c⟩:=tN (P:=P) (w:=w) (I:=I) (β:=β) U []
   refine ⟨_,_,[],[],a,by simpa using c,rfl,fun I' μ hp0 i1 i2 ρ m dp cW rest=> ?_⟩
   obtain ⟨blk,k1,k2⟩:=cW j _ (by rw[dp];exact ot b)
   exact Yz hv k2 k1 rfl
  ·rename_i e' id ver path
   obtain ⟨h1,U⟩:=aG hr
   rw[aR] at h1
   subst h1
   obtain ⟨jA,a,b,c⟩:=tN (P:=P) (w:=w) (I:=I) (β:=β) U []
   refine ⟨_,_,[],[],a,by simpa using c,rfl,fun I' μ hp0 i1 i2 ρ m dp cW rest=> ?_⟩
   obtain ⟨blk,k1,k2⟩:=cW j _ (by rw[dp];exact ot b)
   exact YD S hv k2 k1 rfl
 | sub e j=>
  cases x<;>simp only at hr<;>first|(cases hr;done)|skip
  rename_i e' id o n
  obtain ⟨h1,U⟩:=aG hr
  rw[aR] at h1
  subst h1
  obtain ⟨jA,a,b,c⟩:=tN (P:=P) (w:=w) (I:=I) (β:=β) U [ed o,ed n]
  refine ⟨_,_,[ed o,ed n],[],a,c,rfl,fun I' μ hp0 i1 i2 ρ m dp cW rest=> ?_⟩
  obtain ⟨blk,k1,k2⟩:=cW j _ (by rw[dp];exact ot b)
  simpa[iy,V.nth] using YB (I':=I') hv k2 k1 rfl
 | ptr j=>
  cases x<;>simp only at hr<;>first|(cases hr;done)|skip
  rename_i id i c
  obtain ⟨jA,a,b,c'⟩:=tN (P:=P) (w:=w) (I:=I) (β:=β) hr [ed i,ed c]
  refine ⟨_,_,[ed i,ed c],[],a,c',rfl,fun I' μ hp0 i1 i2 ρ m dp cW rest=> ?_⟩
  obtain ⟨blk,k1,k2⟩:=cW j _ (by rw[dp];exact ot b)
  simpa[iy,V.nth] using Of (I':=I') hv k2 k1 rfl
 | mQ j i c=>
  cases x<;>simp only at hr<;>first|(cases hr;done)|skip
  rename_i id i' c'
  obtain ⟨h1,U⟩:=aG hr
  simp only[aK,aR] at h1
  obtain ⟨rfl,rfl⟩:=h1
  obtain ⟨jA,a,b,c'⟩:=tN (P:=P) (w:=w) (I:=I) (β:=β) U []
  refine ⟨_,_,[],[],a,by simpa using c',rfl,fun I' μ hp0 i1 i2 ρ m dp cW rest=> ?_⟩
  obtain ⟨blk,k1,k2⟩:=cW j _ (by rw[dp];exact ot b)
  exact Of hv k2 k1 rfl
end
section
variable {P:Program} {A:cB} {w w':World} {I I' I2:Nat→Prop} {μ β β':Nat→Option Nat} {hp hp' hp0:Nat→Option an} {C:ag} {B:Nat} {M:Nat→Prop} {w0:Start}
def ml (P:Program) (w:World) (I:Nat→Prop) (β:Nat→Option Nat) (hp:Nat→Option an) (h':Hand) (u:List (Nat × an)) (K:(Nat→Prop)→(Nat→Option Nat)→(Nat→Option an)→Prop):Prop:=
 ∀(I':Nat→Prop) (μ:Nat→Option Nat) (hp0:Nat→Option an),(∀b,I b→I' b)→(∀q∈u,∀b,rN P w β hp q.1 b→I' b)→∀ρ m,ρ=h'.pl++m→zN P w β hp ρ μ hp0→K I' μ hp0
theorem ml.zO {h h':Hand} {d:List V} {u u':List (Nat × an)} {K:(Nat→Prop)→(Nat→Option Nat)→(Nat→Option an)→Prop} (t:ml P w I β hp h u K) (e:Ext P w I β hp h h' d u'):ml P w I β hp h' (u++u') K:=by
 obtain ⟨m1,e1⟩:=e.pl
 exact fun I' μ hp0 i1 i2 ρ m dp cW=>t I' μ hp0 i1 (fun q hq=>i2 q (ez.2 (.inl hq))) ρ (m1++m) (by rw[dp,e1,cq]) cW
theorem ml.more {h:Hand} {u u':List (Nat × an)} {K:(Nat→Prop)→(Nat→Option Nat)→(Nat→Option an)→Prop} (t:ml P w I β hp h u K):ml P w I β hp h (u'++u) K:=
 fun I' μ hp0 i1 i2 ρ m dp cW=>t I' μ hp0 i1 (fun q hq=>i2 q (ez.2 (.inr hq))) ρ m dp cW
theorem DQ (S:aF P w I β hp B M w0) {α:Type}: ∀{ls:List LS} {xs:List V} {h:Hand} {k:Hand→Rd α} {r:α} {rd:List Nat} {vs:List Value},(vw P ls xs h k).run C hp=some (r,rd)→vs.length=xs.length→
  (∀(j:Nat) v x,vs[j]? =some v→xs[j]? =some x→ao P w I β hp v x)→
  ∃h' eL d u,(k h').run C hp=some (r,eL)∧Ext P w I β hp h h' d u∧d.length=jV ls∧ls.length=xs.length∧
   ml P w I β hp h' u fun I' μ hp0=> ∀rest,(hG ls (d++rest)).length=xs.length∧∀(j:Nat) v y,vs[j]? =some v→(hG ls (d++rest))[j]? =some y→ao P w I' μ hp0 v y
 | [],[],h,k,r,rd,vs,hr,hl,hv=>⟨h,rd,[],[],hr,Ext.refl h,rfl,rfl,fun I' μ hp0 _ _ _ _ _ _ rest=>⟨rfl,fun j v y _ hy=>by simp[hG] at hy⟩⟩
 | [],_::_,h,k,r,rd,vs,hr,hl,hv=>by cases hr
 | _::_,[],h,k,r,rd,vs,hr,hl,hv=>by cases hr
 | l::ls,x::xs,h,k,r,rd,vs,hr,hl,hv=>by
  cases vs with
  | nil=>simp at hl
  | cons v vs=>
   simp only[vw] at hr
   obtain ⟨h1,jf,d1,u1,a1,a2,a3,a4⟩:=Og S hr (hv 0 v x rfl rfl)
   obtain ⟨U,rW,d2,u2,b1,b2,b3,b5,b4⟩:=DQ S a1 (by simpa using hl) (vs:=vs) (fun j v x hj hx=>hv (j+1) v x (by simpa using hj) (by simpa using hx))
   have YG:ml P w I β hp h1 u1 fun I' μ hp0=> ∀rest,ao P w I' μ hp0 v (iy l (d1++rest)):=a4
   refine ⟨U,rW,d1++d2,u1++u2,b1,a2.trans b2,by simp only[bS,jV];omega,by simp[b5],fun I' μ hp0 i1 i2 ρ m dp cW rest=> ?_⟩
   have k1:=(YG.zO b2) I' μ hp0 i1 i2 ρ m dp cW (d2++rest)
   obtain ⟨k2,k3⟩:=b4.more I' μ hp0 i1 i2 ρ m dp cW rest
   simp only[hG]
   rw[show (d1++d2++rest).drop l.size=d2++rest by rw[cq];exact nh a3,cq]
   refine ⟨by simp[k2],fun j v' y hj hy=> ?_⟩
   cases j with
   | zero=>simp at hj hy;subst hj;subst hy;exact k1
   | succ j=>exact k3 j v' y (by simpa using hj) (by simpa using hy)
theorem YH (S:aF P w I β hp B M w0) {α:Type} {s:VS} {x:V} {h:Hand} {k:Hand→Rd α} {r:α} {rd:List Nat} {v:Value} (hr:(yZ P s x h k).run C hp=some (r,rd)) (hv:ao P w I β hp v x):
  ∃h' eL d u,(k h').run C hp=some (r,eL)∧Ext P w I β hp h h' d u∧d.length=s.size∧
   ml P w I β hp h' u fun I' μ hp0=> ∀rest,ao P w I' μ hp0 v (kI s (d++rest)):=by
 cases s with
 | one l=>
  simp only[yZ] at hr
  obtain ⟨h1,jf,d1,u1,a1,a2,a3,a4⟩:=Og S hr hv
  exact ⟨h1,jf,d1,u1,a1,a2,a3,a4⟩
 | agg ls=>
  cases x<;>simp only[yZ] at hr<;>first|(cases hr;done)|skip
  rename_i xs
  obtain ⟨cs,rfl,e1,e2⟩:=hv.kM
  obtain ⟨h1,jf,d1,u1,a1,a2,a3,a5,a4⟩:=DQ S hr (vs:=cs.toList) (by simpa using e1) (fun j v x hj hx=>e2 j v x (by simpa using hj) hx)
  refine ⟨h1,jf,d1,u1,a1,a2,a3,fun I' μ hp0 i1 i2 ρ m dp cW rest=> ?_⟩
  obtain ⟨k1,k2⟩:=a4 I' μ hp0 i1 i2 ρ m dp cW rest
  exact .agg (by rw[k1];exact e1) fun j v y hj hy=>k2 j v y (by simpa using hj) hy
 | bn ls=>cases x<;>cases hr
 | pref ts ls=>cases x<;>cases hr
 | fn f a b=>
  cases x<;>simp only[yZ] at hr<;>first|(cases hr;done)|skip
  rename_i f' xs ys
  obtain ⟨hc,tO⟩:=aG hr
  clear hr
  rw[aR] at hc
  subst hc
  cases hv with
  | @fn _ fs cs _ _ q1 q2 q3 q4=>
   obtain ⟨h1,jf,d1,u1,a1,a2,a3,a5,a4⟩:=DQ S tO (vs:=fs.toList) (by simpa using q1) (fun j v x hj hx=>q2 j v x (by simpa using hj) hx)
   obtain ⟨U,rW,d2,u2,b1,b2,b3,b5,b4⟩:=DQ S a1 (vs:=cs.toList) (by simpa using q3) (fun j v x hj hx=>q4 j v x (by simpa using hj) hx)
   refine ⟨U,rW,d1++d2,u1++u2,b1,a2.trans b2,by simp only[bS,VS.size];omega,fun I' μ hp0 i1 i2 ρ m dp cW rest=> ?_⟩
   obtain ⟨k1,k2⟩:=(a4.zO b2) I' μ hp0 i1 i2 ρ m dp cW (d2++rest)
   obtain ⟨k3,k4⟩:=b4.more I' μ hp0 i1 i2 ρ m dp cW rest
   simp only[kI]
   rw[show (d1++d2++rest).drop (jV a)=d2++rest by rw[cq];exact nh a3,cq]
   exact .fn (by rw[k1];exact q1) (fun j v y hj hy=>k2 j v y (by simpa using hj) hy) (by rw[k3];exact q3) (fun j v y hj hy=>k4 j v y (by simpa using hj) hy)
theorem Il (S:aF P w I β hp B M w0) {α:Type}: ∀{ls:List VS} {xs:List V} {h:Hand} {k:Hand→Rd α} {r:α} {rd:List Nat} {vs:List Value},(y4 P ls xs h k).run C hp=some (r,rd)→vs.length=xs.length→
  (∀(j:Nat) v x,vs[j]? =some v→xs[j]? =some x→ao P w I β hp v x)→
  ∃h' eL d u,(k h').run C hp=some (r,eL)∧Ext P w I β hp h h' d u∧d.length=rF ls∧ls.length=xs.length∧
   ml P w I β hp h' u fun I' μ hp0=> ∀rest,(fj ls (d++rest)).length=xs.length∧∀(j:Nat) v y,vs[j]? =some v→(fj ls (d++rest))[j]? =some y→ao P w I' μ hp0 v y
 | [],[],h,k,r,rd,vs,hr,hl,hv=>⟨h,rd,[],[],hr,Ext.refl h,rfl,rfl,fun I' μ hp0 _ _ _ _ _ _ rest=>⟨rfl,fun j v y _ hy=>by simp[fj] at hy⟩⟩
 | [],_::_,h,k,r,rd,vs,hr,hl,hv=>by cases hr
 | _::_,[],h,k,r,rd,vs,hr,hl,hv=>by cases hr
 | l::ls,x::xs,h,k,r,rd,vs,hr,hl,hv=>by
  cases vs with
  | nil=>simp at hl
  | cons v vs=>
   simp only[y4] at hr
   obtain ⟨h1,jf,d1,u1,a1,a2,a3,a4⟩:=YH S hr (hv 0 v x rfl rfl)
   obtain ⟨U,rW,d2,u2,b1,b2,b3,b5,b4⟩:=Il S a1 (by simpa using hl) (vs:=vs) (fun j v x hj hx=>hv (j+1) v x (by simpa using hj) (by simpa using hx))
   refine ⟨U,rW,d1++d2,u1++u2,b1,a2.trans b2,by simp only[bS,rF];omega,by simp[b5],fun I' μ hp0 i1 i2 ρ m dp cW rest=> ?_⟩
   have k1:=(a4.zO b2) I' μ hp0 i1 i2 ρ m dp cW (d2++rest)
   obtain ⟨k2,k3⟩:=b4.more I' μ hp0 i1 i2 ρ m dp cW rest
   simp only[fj]
   rw[show (d1++d2++rest).drop l.size=d2++rest by rw[cq];exact nh a3,cq]
   refine ⟨by simp[k2],fun j v' y hj hy=> ?_⟩
   cases j with
   | zero=>simp at hj hy;subst hj;subst hy;exact k1
   | succ j=>exact k3 j v' y (by simpa using hj) (by simpa using hy)
def DR:List BS→Nat
 | []=>0
 | b::l=>b.size+DR l
theorem Oh: ∀{b:Nat} {e e':TypeId} {es:List V} {v:V},(∀q b' e' m,At P w b e es q b' e' m→jb P w I b' e' m)→∀(path:Path),jT P e path=some e'→lX P e es path=some v→0<v.toList.length→
  ∃b1,At P w b e es path b1 e' v.toList
 | b,e,e',es,v,cE,[],ht,hv,hl=>by
  simp only[jT,dR] at ht
  simp only[lX,dR] at hv
  subst ht;subst hv
  exact ⟨b,.here⟩
 | b,e,e',es,v,cE,(i,c)::q,ht,hv,hl=>by
  simp only[jT] at ht
  simp only[lX] at hv
  obtain ⟨x,hx,hv⟩:=bind_some hv
  cases Im:(jT.yQ P e)[c]? with
  | none=>rw[Im] at ht;cases ht
  | some t=>
   rw[Im] at ht
   simp only at ht
   have DS:(aS P e)[c]? =some t:=Im
   cases hu:P.underlying t with
   | none=>rw[hu] at ht;cases ht
   | some d=>
    rw[hu] at ht
    cases d<;>simp only at ht<;>first|(cases ht;done)|skip
    rename_i e1
    rw[mY DS] at hv
    have hR:=cE _ _ _ _ .here
    obtain ⟨Ca,c1,c2,c3⟩:=hR.cells
    have tt:c<P.cellsOf e:=by rw[←fp hR.ok];exact (bu.1 DS).1
    obtain ⟨u,d1,d2⟩:=c3 i c x t hx DS tt
    rw[d2.rP] at hv
    generalize hy:bM P e x c=y at d2 hv
    cases d2 with
    | fE a p=>unfold fB at a;rw[hu] at a;cases a
    | @emp e2 a cap mi ha=>
     rw[hu] at mi;cases mi
     simp only at hv
     cases q with
     | nil=>simp only[lX,dR] at hv;subst hv;simp[V.toList] at hl
     | cons a q=>simp[lX] at hv
    | @row e2 b8 b2 cap mi jx aX b9 oc=>
     rw[hu] at mi;cases mi
     simp only at hv
     have dm: ∀{q b' e' aL},At P w b2 e1 b8 q b' e' aL→At P w b e es ((i,c)::q) b' e' aL:=fun h=> .step c1 hx DS hu hy jx d1 h
     obtain ⟨b1,lE⟩:=Oh (fun q b' e' m h=>cE _ _ _ _ (dm h)) q ht hv hl
     exact ⟨b1,dm lE⟩
theorem Oi (S:aF P w I β hp B M w0) {α:Type}: ∀{bs:List BS} {j:Nat} {h:Hand} {k:Hand→Rd α} {r:α} {rd:List Nat},(p8 P bs j h k).run C hp=some (r,rd)→
  ∃h' eL d u,(k h').run C hp=some (r,eL)∧Ext P w I β hp h h' d u∧d.length=DR bs∧
   ∀rest,(eC bs (d++rest)).length=bs.length∧∃o:Nat→Option Nat,
    (∀(i:Nat) blk,(eC bs (d++rest))[i]? =some blk→∃p,ee h'.pl (j+i)=some p∧dV P w β hp p (o i) blk)∧
    ml P w I β hp h' u fun I' μ hp0=> ∀(i:Nat) blk,(eC bs (d++rest))[i]? =some blk→(∀b,bw P w (o i) blk b→¬I' b)→dS P w I' μ hp0 (o i) blk
 | [],j,h,k,r,rd,hr=>⟨h,rd,[],[],hr,Ext.refl h,rfl,fun rest=>⟨rfl,fun _=>none,fun i blk hb=>by simp[eC] at hb,fun I' μ hp0 _ _ _ _ _ _ i blk hb=>by simp[eC] at hb⟩⟩
 | b::bs,j,h,k,r,rd,hr=>by
  simp only[p8] at hr
  have fin: ∀{h1:Hand} {jf:List Nat} {d1:List V} {u1:List (Nat × an)} {o1:Option Nat} {p:Place},(p8 P bs (j+1) h1 k).run C hp=some (r,jf)→Ext P w I β hp h h1 d1 u1→d1.length=b.size→ee h.pl j=some p→
    (∀rest,dV P w β hp p o1 (fC b (d1++rest)))→(∀rest,ml P w I β hp h1 u1 fun I' μ hp0=>(∀bb,bw P w o1 (fC b (d1++rest)) bb→¬I' bb)→dS P w I' μ hp0 o1 (fC b (d1++rest)))→
    ∃h' eL d u,(k h').run C hp=some (r,eL)∧Ext P w I β hp h h' d u∧d.length=DR (b::bs)∧
     ∀rest,(eC (b::bs) (d++rest)).length=(b::bs).length∧∃o:Nat→Option Nat,
      (∀(i:Nat) blk,(eC (b::bs) (d++rest))[i]? =some blk→∃p,ee h'.pl (j+i)=some p∧dV P w β hp p (o i) blk)∧
      ml P w I β hp h' u fun I' μ hp0=> ∀(i:Nat) blk,(eC (b::bs) (d++rest))[i]? =some blk→(∀b,bw P w (o i) blk b→¬I' b)→dS P w I' μ hp0 (o i) blk:=by
   intro h1 jf d1 u1 o1 p hk he hd bt hl ht
   obtain ⟨U,rW,d2,u2,b1,b2,b3,b4⟩:=Oi S hk
   refine ⟨U,rW,d1++d2,u1++u2,b1,he.trans b2,by simp only[bS,DR];omega,fun rest=> ?_⟩
   obtain ⟨c1,o,c2,c3⟩:=b4 rest
   simp only[eC]
   rw[show (d1++d2++rest).drop b.size=d2++rest by rw[cq];exact nh hd,cq]
   refine ⟨by simp[c1],fun i=>match i with|0=>o1|i+1=>o i,fun i blk hb=> ?_,fun I' μ hp0 i1 i2 ρ m dp cW i blk hb cL=> ?_⟩
   ·cases i with
    | zero=>
     simp at hb
     subst hb
     exact ⟨p,b2.look (he.look bt),hl _⟩
    | succ i=>
     obtain ⟨q,e1,e2⟩:=c2 i blk (by simpa using hb)
     exact ⟨q,by rw[show j+(i+1)=j+1+i by omega];exact e1,e2⟩
   ·cases i with
    | zero=>
     simp at hb
     subst hb
     exact ((ht _).zO b2) I' μ hp0 i1 i2 ρ m dp cW cL
    | succ i=>exact c3.more I' μ hp0 i1 i2 ρ m dp cW i blk (by simpa using hb) cL
  cases bt:ee h.pl j with
  | none=>rw[bt] at hr;cases hr
  | some p=>
   rw[bt] at hr
   cases p with
   | blk id=>
    obtain ⟨l1,hr⟩:=run_get hr
    cases ab:hp id with
    | none=>rw[ab] at hr;cases hr
    | some blk=>
     rw[ab] at hr
     cases blk with
     | dead=>cases hr
     | var T0 cs=>
      cases b<;>simp only at hr<;>first|(cases hr;done)|skip
      rename_i T1 ss
      obtain ⟨hT,YI⟩:=aG hr
      clear hr
      rw[aR] at hT
      subst hT
      have cD:=S.h.rel id _ ab
      generalize ho:β id=o at cD
      cases cD with
      | @var _ bb Ca T hb hh hs hI hx fV=>
       obtain ⟨h1,jf,d1,u1,a1,a2,a3,a5,a4⟩:=Il S YI (vs:=Ca.toList) (by simpa using hs) (fun j v x hj cw=>hx j v x (by simpa using hj) cw)
       refine fin (o1:=β id) a1 a2 a3 bt (fun rest=> .var ab) fun rest I' μ hp0 i1 i2 ρ m dp cW cL=> ?_
       obtain ⟨k1,k2⟩:=a4 I' μ hp0 i1 i2 ρ m dp cW rest
       exact .var (ho.trans hb) hh (by rw[k1];exact hs) (cL _ (.root (by simp[fC]) (ho.trans hb))) (fun i v y hi hy=>k2 i v y (by simpa using hi) hy) fV
     | arr e' es fz=>
      cases fz with
      | true=>cases hr
      | false=>
       cases b with
       | arr e fz=>
        cases fz with
        | true=>cases hr
        | false=>
         obtain ⟨hc,tO⟩:=aG hr
         clear hr
         rw[aR] at hc
         subst hc
         refine fin (d1:=[.list e es]) (o1:=β id) tO (Ext.leaf h _) rfl bt (fun rest=>dV.arr ab) fun rest I' μ hp0 i1 i2 ρ m dp cW cL=> ?_
         change dS P w I' μ hp0 (β id) (.arr e es false)
         have cD:=S.h.rel id _ ab
         generalize ho:β id=o at cD cL⊢
         cases cD with
         | dG hb=>exact .dG hb
         | arr a1 a2 a3 a4 a5 a6 a7=>
          refine .arr a1 a2 a3 a4 (fun h=>by cases h) (fun _=>cL _ (.root (by simp[fC]) a2)) fun i j x t' y1 y2 y3=> ?_
          obtain ⟨v,z1,z2⟩:=a7 i j x t' y1 y2 y3
          exact ⟨v,z1,z2.mono i1 fun _ _=>rfl⟩
       | _=>cases hr
     | nest e' es ar=>
      cases b with
      | nest e=>
       obtain ⟨hc,tO⟩:=aG hr
       clear hr
       rw[aR] at hc
       subst hc
       refine fin (d1:=[.list e es]) (o1:=β id) tO (Ext.leaf h _) rfl bt (fun rest=>dV.nest ab) fun rest I' μ hp0 i1 i2 ρ m dp cW cL=> ?_
       have Oj: ∀bb,bw P w (β id) (.nest e es [0,0,0]) bb→¬I' bb:=cL
       change dS P w I' μ hp0 (β id) (.nest e es [0,0,0])
       have cD:=S.h.rel id _ ab
       generalize ho:β id=o at cD Oj⊢
       cases cD with
       | nest hb cE og=>
        refine .nest hb (fun q b' e1 m1 hq=> ?_) og
        obtain ⟨ok,⟨Ca,c1,c2,c3⟩,nI⟩:=cE q b' e1 m1 hq
        refine ⟨ok,⟨Ca,c1,c2,fun i j x t' y1 y2 y3=> ?_⟩,Oj _ (.row hb hq)⟩
        obtain ⟨v,z1,z2⟩:=c3 i j x t' y1 y2 y3
        exact ⟨v,z1,z2.mono i1 (fun _ _=>rfl) fun _ _ _ _ _=>rfl⟩
      | _=>cases hr
     | map t' es=>
      cases b with
      | map t=>
       obtain ⟨hc,tO⟩:=aG hr
       clear hr
       rw[aR] at hc
       subst hc
       refine fin (d1:=[.list t es]) (o1:=β id) tO (Ext.leaf h _) rfl bt (fun rest=>dV.map ab) fun rest I' μ hp0 i1 i2 ρ m dp cW cL=> ?_
       change dS P w I' μ hp0 (β id) (.map t es)
       have cD:=S.h.rel id _ ab
       generalize ho:β id=o at cD cL⊢
       cases cD with
       | map a1 a2 a3 a4 a5 a6 a7=>exact .map a1 a2 a3 a4 (cL _ (.root (by simp[fC]) a2)) a6 a7
      | _=>cases hr
   | row id ver path=>
    obtain ⟨e0,es,ar,l1,k1,k2,k3,k4,k5⟩:=oa hr
    obtain ⟨e',vv,m1,m2,m3⟩:=vF k5
    cases b with
    | arr e fz=>
     cases fz with
     | true=>cases m3
     | false=>
      obtain ⟨hc,m4⟩:=aG m3
      clear m3
      simp only[aK,aR,jQ] at hc
      obtain ⟨rfl,zP,jx⟩:=hc
      have cD:=S.h.rel id _ k1
      cases hb:β id with
      | none=>
       rw[hb] at cD
       cases cD with
       | nest aB _ _=>cases aB
      | some b0=>
       rw[hb] at cD
       cases cD with
       | nest aB cE og=>
        cases aB
        obtain ⟨b1,dc⟩:=Oh cE path m1 m2 jx
        refine fin (d1:=[.list e vv.toList]) (o1:=some b1) m4 (Ext.leaf h _) rfl bt (fun rest=>dV.row k1 hb dc zP k2 k3 k4 jx) fun rest I' μ hp0 i1 i2 ρ m dp cW cL=> ?_
        change dS P w I' μ hp0 (some b1) (.arr e vv.toList false)
        obtain ⟨ok,⟨Ca,c1,c2,c3⟩,nI⟩:=cE _ _ _ _ dc
        refine .arr ok rfl c1 c2 (fun h=>by cases h) (fun _=>cL _ (.root (by simp[fC]) rfl)) fun i j x t' y1 y2 y3=> ?_
        obtain ⟨v,z1,z2⟩:=c3 i j x t' y1 y2 y3
        refine ⟨v,z1,?_⟩
        generalize bM P e x j=y at z2⊢
        cases z2 with
        | fE _ p=>exact p.mono i1 fun _ _=>rfl
        | emp hu _=>exact absurd hu (Ol zP y2 _)
        | row hu _ _ _ _=>exact absurd hu (Ol zP y2 _)
    | _=>cases m3
where
 Ol {e t:TypeId} {j:Nat} (h:yV P e=true) (ht:(aS P e)[j]? =some t) (e':TypeId):P.underlying t≠some (.slice e'):=by
  intro hu
  have U:=fh.1 h t (jo ht)
  rw[hu] at U
  cases U
end
end Go.AM
