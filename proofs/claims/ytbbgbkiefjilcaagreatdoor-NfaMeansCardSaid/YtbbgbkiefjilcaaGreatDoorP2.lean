/-
  Functions of the program, lifted to plain data.
-/
import Derived.Great.BuildSlice
import Derived.Maps.Keyed
import Derived.WideKeyArr
import Derived.MapKept
import Derived.ChangeMaps4
import Derived.Carry
import Derived.Lib.AppendStr
import Derived.Laws.BytesString
import Derived.Lib.Builder
import Derived.Lib.UnsafeStr
import Derived.Test.YtbbgbkiefjilcaaGreatDoorP1
set_option linter.unusedVariables false
set_option linter.unusedSimpArgs false
namespace Go.AM
section
variable {P:Program} {w w':World} {I I':Nat→Prop} {β β':Nat→Option Nat} {hp hp':Nat→Option an} {C:ae} {B:Nat} {M:Nat→Prop} {w0:Start}
theorem aeT (S:aQ P w I β hp B M w0) {t:TypeId} {a v:Value} {xa x:V} {r:R} {rd:List Nat} (ha:aq P w I β hp a xa) (hv:aq P w I β hp v x)
  (h:(LZ P t xa x).run C hp=some (r,rd)):qY P ((Instr.storeAt t a v).run P w) w I β hp B M w0 r:=by
 unfold LZ at h
 obtain ⟨h0,h⟩:=aU h
 simp only[aT,bq] at h0
 obtain ⟨ht,hn⟩:=h0
 cases xa with
 | ptr id i c=>
  obtain ⟨l,h⟩:=run_get h
  cases af:hp id with
  | none=>rw[af] at h;cases h
  | some blk=>
   rw[af] at h
   cases blk with
   | dead=>cases h
   | var T0 cs=>
    obtain ⟨Vj,h⟩:=aU h
    have nU:qN P T0=true→0<c:=fun bz=>by
     rw[bz] at Vj
     simpa using Vj
    obtain ⟨b,hb,rfl⟩:=ha.iT af (by simp)
    simp only[an.sz,Nat.mul_zero,je]
    cases qX:(B4 P t cs&&fc P t x) with
    | true=>
     dsimp only at h
     rw[qX] at h
     simp only[cond_true] at h
     obtain ⟨hc,h⟩:=aU h
     obtain rfl:=bj h
     simp only[aT,ll] at hc qX
     obtain ⟨o1,o2⟩:=Vc hv qX.2
     have nh:=aeE qX.2
     refine Va S af hb ht hn (by rw[o2,nh];rfl) nU (fun j u y hu hy=> ?_) (by rw[o2];simp[o1]) (by rw[nh];simp;omega) (U9 _ _ _ _) (fun j y hy hj u hu=> ?_) (fun j y hy hj u hu=> ?_)
     ·rw[o2] at hu
      rw[nh] at hy
      cases j with
      | zero=>simp at hu hy;subst hu;subst hy;exact hv
      | succ j=>simp at hy
     ·rw[MD] at hy
      cases uI:cs[j]? with
      | none=>rw[uI] at hy;cases hy
      | some y0=>
       rw[uI] at hy
       simp only[Option.map_some,eb] at hy
       rw[nh] at hj
       simp only[List.length_singleton] at hj
       have bO:Nat.beq c (0+j)=false:=by
        cases hq:Nat.beq c (0+j) with
        | false=>rfl
        | true=>rw[bq] at hq;omega
       rw[bO] at hy
       have:=UW (c:=false) hv (hu y0 uI)
       rw[←hy]
       simpa using this
     ·rw[nh] at hj hu
      have hj0:j=0:=by simpa using hj
      subst hj0
      rw[MD] at hy
      cases uI:cs[c+0]? with
      | none=>rw[uI] at hy;cases hy
      | some y0=>
       rw[uI] at hy
       simp only[Option.map_some,eb] at hy
       have heq:Nat.beq c (0+(c+0))=true:=by rw[bq];omega
       rw[heq] at hy
       have h2:aq P w I β hp u x:=hu x rfl
       have:uk true x y0=x:=aeF x y0
       rw[←hy,this]
       exact h2
    | false=>
     dsimp only at h
     rw[qX] at h
     simp only[cond_false] at h
     obtain ⟨hc,h⟩:=aU h
     simp only[aT,fa] at hc
     obtain ⟨e1,e2⟩:=MB hv h
     obtain ⟨h1,l2,h⟩:=HE h (vs:=v.cells.toList) (by simpa using e1) (fun j u y a b=>e2 j u y (by simpa using a) b)
     obtain rfl:=bj h
     refine Va S af hb ht hn e1 nU e2 h1 hc.2 (CJ _ _ _ hc.2) (fun j y hy hj u hu=> ?_) (fun j y hy hj u hu=> ?_)
     ·unfold gG at hy
      rw[oR _ _ _ _ hc.2] at hy
      rcases hj with hj|hj
      ·rw[ai hj] at hy;exact hu y hy
      ·rw[aD,aD] at hy;exact hu y hy
     ·unfold gG at hy
      rw[oR _ _ _ _ hc.2,aD,aF] at hy
      rw[show c+j-c=j by omega] at hy
      exact hu y hy
   | arr e es fz=>
    cases fz with
    | true=>cases h
    | false=>
    obtain ⟨b,hb,rfl⟩:=ha.iT af (by simp)
    obtain ⟨aw,h⟩:=aU h
    obtain ⟨⟨ys,fr⟩,l1,l2,bM,h⟩:=mi h
    obtain ⟨hc,h⟩:=aU h
    obtain ⟨x0,sS,h⟩:=nf h
    obtain rfl:=bj h
    simp only[aT,l7,fa] at hc
    obtain ⟨er,hc3,jM⟩:=hc
    have qZ:v.cells.size=x.cells.length∧∀(j:Nat) u y,v.cells.toList[j]? =some u→x.cells[j]? =some y→aq P w I β hp u y:=by
     cases x with
     | agg xs=>
      obtain ⟨cs,rfl,h1,h2⟩:=hv.mj
      exact ⟨h1,fun j u y a b=>h2 j u y (by simpa[Value.cells] using a) b⟩
     | _=>
      simp only[V.cells] at bM jM⊢
      simp only[uj] at bM
      obtain ⟨⟨y1,u1⟩,l3,l4,hq,bM⟩:=mi bM
      obtain ⟨q1,q2⟩:=Hs S.h.rel hq hv
      obtain ⟨⟨y2,u2⟩,l5,l6,MQ,bM⟩:=mi bM
      cases MQ
      have:=bj bM
      cases this
      obtain ⟨tl,tg⟩:=wk jM
      have gx:=tg 0 _ y1 (cq (by rw[tl];exact Nat.one_pos)) rfl
      have ct:=q2 (jP P w I β hp u1) (fun _ h=> .inl h) (fun p hp b h=> .inr ⟨p,hp,h⟩)
      have ho:=ct.pure gx
      have MR:v.cells= #[v]:=by cases ho<;>rfl
      rw[MR]
      refine ⟨rfl,fun j u y hu hy=> ?_⟩
      cases j with
      | zero=>simp at hu hy;subst hu;subst hy;exact hv
      | succ j=>simp at hy
    obtain ⟨k1,k2,k3⟩:=Mu S.h.rel bM (vs:=v.cells.toList) (by simpa using qZ.1) qZ.2
    obtain ⟨sR,S1⟩:=CD S k2
    have CQ:cd hp fr id=some (.arr e es false):=by
     rcases wa (hp:=hp) (l:=fr) (id:=id) with h|⟨b',hm,_⟩
     ·exact h.trans af
     ·exfalso
      have wq:lu (fr.map (·.1)) id=true:=zB (dH.2 ⟨_,hm,rfl⟩)
      rw[wq] at er;cases er
    have Vk:=k3 (jP P w I β hp fr) (fun _ h=> .inl h) (fun p hp b h=> .inr ⟨p,hp,h⟩)
    obtain ⟨tl,tg⟩:=wk jM
    have uC:=(lH aw).1
    have wu:ys.length=v.cells.size:=by rw[k1,qZ.1]
    have hcn:c+v.cells.size≤P.cellsOf e:=by rw[qZ.1];exact hc3
    have hr:=S1.h.rel id _ CQ
    cases hr with
    | ep aI=>simp at sS
    | @arr _ _ _ b' Ca MA aI hh hs hf eM hx=>
     rw[hb] at aI
     cases aI
     have ni:i<es.length:=(bL.1 sS).1
     have hbound:i*P.cellsOf e+P.cellsOf e≤Ca.size:=by
      have:(i+1)*P.cellsOf e≤es.length*P.cellsOf e:=eC _ ni
      rw[dU] at this
      omega
     simp only[an.sz]
     have uF:i*P.cellsOf e+c+v.cells.size≤Ca.size:=by omega
     have dj: ¬jP P w I β hp fr b:=eM rfl
     have h1: ∀u∈v.cells.toList,u.oneCell'=true:=by
      intro u hu
      obtain ⟨j,hj⟩:=tX hu
      have cy:j<ys.length:=by rw[wu];simpa using (bL.1 hj).1
      have nX:j<(((flat P e).drop c).take x.cells.length).length:=by rw[tl];exact cy
      exact (Vk j u ys[j] hj (cq cy)).one (tg j _ ys[j] (cq nX) (cq cy))
     have dr:=MC (t:=t) (o:=i*P.cellsOf e+c) (v:=v) ht (by rw[qZ.1];exact hn.symm) hh uF h1
     have hlen:(Ca.toList.take (i*P.cellsOf e+c)++(v.cells.toList++Ca.toList.drop (i*P.cellsOf e+c+v.cells.toList.length))).length=Ca.size:=by
      rw[CJ _ _ _ (by simpa using uF)];simp
     have ct:(parts P e x0).length=P.cellsOf e:=by rw[zy];exact gu aw
     have CK:=HF S1 (blk':= .arr e (es.set i (cM P e (gG (parts P e x0) c ys))) false)
      (Cb:=(Ca.toList.take (i*P.cellsOf e+c)++(v.cells.toList++Ca.toList.drop (i*P.cellsOf e+c+v.cells.toList.length))).toArray) CQ (by simp) ⟨rfl,by simp⟩ hb dj (by simp) hh (by simpa using hlen)
      (fun hle fL=> .arr aw rfl fL (by simp only[si,nJ];omega) (fun h=>by cases h) (fun _=>dj) fun i' j z t' hz nX hj=>by
       simp only[oB]
       rw[oR _ _ _ _ (by simpa using uF)]
       simp only[Array.length_toList]
       rw[tY] at hz
       by_cases jT:i=i'
       ·subst jT
        rw[ai rfl,ai ni] at hz
        cases hz
        have HO:j<(parts P e x0).length:=by omega
        have wv:(gG (parts P e x0) c ys)[j]? =if j<c then (parts P e x0)[j]? else if j<c+ys.length then ys[j-c]? else (parts P e x0)[j]? :=by
         unfold gG;exact oR _ _ _ _ (by omega)
        by_cases sN:j<c
        ·rw[aF]
         rw[ai sN] at wv
         obtain ⟨u,t2,a1,a2,a3⟩:=HB hx aw sS (cq HO)
         rw[nX] at a1;cases a1
         refine ⟨u,by simpa using a2,?_⟩
         rw[sO (wv.trans (cq HO)) nX]
         exact a3.mono hle.dN hle.cl
        ·rw[aj sN] at wv
         by_cases jq:j<c+ys.length
         ·rw[ai jq] at wv
          rw[aD,aF]
          have ra:j-c<ys.length:=by omega
          have Vl:j-c<v.cells.toList.length:=by simp;omega
          have atS:j-c<v.cells.size:=by omega
          refine ⟨v.cells.toList[j-c],?_,?_⟩
          ·rw[show i*P.cellsOf e+j-(i*P.cellsOf e+c)=j-c by omega]
           exact cq Vl
          ·rw[sO (wv.trans (cq ra)) nX]
           have hft:(((flat P e).drop c).take x.cells.length)[j-c]? =some t':=by
            rw[fT (by omega),jc,show c+(j-c)=j by omega,←uB]
            exact nX
           exact ((Vk (j-c) _ ys[j-c] (cq Vl) (cq ra)).pure (tg (j-c) t' ys[j-c] hft (cq ra))).mono hle.dN hle.cl
         ·rw[aj jq] at wv
          rw[aD,aD]
          obtain ⟨u,t2,a1,a2,a3⟩:=HB hx aw sS (cq HO)
          rw[nX] at a1;cases a1
          refine ⟨u,by simpa using a2,?_⟩
          rw[sO (wv.trans (cq HO)) nX]
          exact a3.mono hle.dN hle.cl
       ·rw[aj jT] at hz
        obtain ⟨u,a2,a3⟩:=hx i' j z t' hz nX hj
        have bO:i'*P.cellsOf e+j<i*P.cellsOf e+c∨i*P.cellsOf e+c+v.cells.size≤i'*P.cellsOf e+j:=by
         rcases tV i' i with aR|rb
         ·left
          have:(i'+1)*P.cellsOf e≤i*P.cellsOf e:=eC _ aR
          rw[dU] at this
          omega
         ·right
          have:(i+1)*P.cellsOf e≤i'*P.cellsOf e:=eC _ (by omega)
          rw[dU] at this
          omega
        refine ⟨u,?_,a3.mono hle.dN hle.cl⟩
        rcases bO with bO|bO
        ·rw[ai bO];simpa using a2
        ·rw[aD,aD];simpa using a2)
     exact ⟨_,_,_,dr,sR.trans CK.1,CK.2,rfl⟩
   | map _ _=>cases h
   | nest e es av=>
    obtain ⟨b,hb,rfl⟩:=ha.iT af (by simp)
    exact Vi S ht hn hv af hb .here h
 | cY id ver path i c=>
  obtain ⟨e0,es,av,l,af,h1,h2,h3,h⟩:=pO h
  obtain ⟨b,b1,e1,l1,hb,dO,rfl⟩:=ha.US af h1 h2 h3
  exact Vi S ht hn hv af hb dO h
 | _=>cases h
end
section
variable {P:Program} {w w':World} {I I':Nat→Prop} {β β':Nat→Option Nat} {hp hp':Nat→Option an} {C:ae} {B:Nat} {M:Nat→Prop} {w0:Start}
theorem MS: ∀{ts:List TypeId} {vs:List Value} {j:Nat} {y:V},(kj P ts vs)[j]? =some y→∃t v,ts[j]? =some t∧vs[j]? =some v∧y=qM P t v
 | [],vs,j,y,h=>by simp[kj] at h
 | _::_,[],j,y,h=>by simp[kj] at h
 | t::ts,v::vs,0,y,h=>by simp[kj] at h;exact ⟨t,v,rfl,rfl,h.symm⟩
 | t::ts,v::vs,j+1,y,h=>by
  simp only[kj,List.getElem?_cons_succ] at h
  obtain ⟨t',v',a,b,c⟩:=MS h
  exact ⟨t',v',by simpa using a,by simpa using b,c⟩
theorem Vm: ∀{ts:List TypeId} {vs:List Value},ts.length=vs.length→(kj P ts vs).length=vs.length
 | [],[],_=>rfl
 | [],_::_,h=>by simp at h
 | _::_,[],h=>by simp at h
 | t::ts,v::vs,h=>by simp[kj,Vm (ts:=ts) (vs:=vs) (by simpa using h)]
theorem lL {e:TypeId} (h:dm P e=true): ∃i z,P.info? e=some i∧i.zero=some z∧i.size=P.cellsOf e∧z.cells.size=P.cellsOf e∧zeroCells P e=kj P (flat P e) z.cells.toList:=by
 unfold dm at h
 simp only[aT,bq,ll] at h
 obtain ⟨h1,h2,_,h3⟩:=h
 cases hi:P.info? e with
 | none=>rw[hi] at h3;cases h3
 | some i=>
  rw[hi] at h3
  simp only[Option.bind_some] at h3
  cases hz:i.zero with
  | none=>rw[hz] at h3;cases h3
  | some z=>
   rw[hz] at h3
   simp only[bq] at h3
   exact ⟨i,z,rfl,hz,by simp[Program.cellsOf,hi],h3,by simp[zeroCells,hi,hz]⟩
theorem Vn {e:TypeId} (h:dm P e=true): ∃i z,P.info? e=some i∧i.zero=some z∧z.cells.size=(zeroCells P e).length∧z.cells.size=P.cellsOf e∧
  ∀(j:Nat) v x,z.cells[j]? =some v→(zeroCells P e)[j]? =some x→aq P w I β hp v x:=by
 obtain ⟨i,z,h1,h2,h3,h4,h5⟩:=lL h
 have hl:(flat P e).length=z.cells.toList.length:=by rw[(lH h).1];simpa using h4.symm
 refine ⟨i,z,h1,h2,?_,h4,fun j v x hv hx=> ?_⟩
 ·rw[h5,Vm hl];simp
 ·rw[h5] at hx
  obtain ⟨t,v',_,zz,rfl⟩:=MS hx
  have:v'=v:=by
   have e1:z.cells[j]? =some v':=by simpa using zz
   rw[hv] at e1;exact (dh e1).symm
  subst this
  exact aq.const t v'
theorem oT {nb:Nat} {b:an} {v:V} {upd:List (Nat × an)} {r:R} {rd:List Nat} (h:(km nb b v upd).run C hp=some (r,rd)):hp nb=none∧r=⟨v,(nb,b)::upd⟩:=by
 obtain ⟨l,h⟩:=run_get h
 cases hn:hp nb with
 | none=>rw[hn] at h;exact ⟨rfl,(bj h).symm⟩
 | some x=>rw[hn] at h;cases h
theorem Vo (S:aQ P w I β hp B M w0) {nb:Nat} {xs:List V} {C0:Array Value} {T:TypeId} (hn:hp nb=none) (hs:C0.size=xs.length)
  (hx: ∀(j:Nat) v x,C0[j]? =some v→xs[j]? =some x→aq P w I β hp v x) (ic:UN P w.heap.size T C0):
  Le P w I β hp (w.alloc (.cells C0 T)) I (bd β nb (some w.heap.size)) (bd hp nb (some (.var T xs)))∧aQ P (w.alloc (.cells C0 T)) I (bd β nb (some w.heap.size)) (bd hp nb (some (.var T xs))) B M w0∧
  aq P (w.alloc (.cells C0 T)) I (bd β nb (some w.heap.size)) (bd hp nb (some (.var T xs))) (.pointer (some ⟨w.heap.size,0,none⟩)) (.ptr nb 0 0):=by
 obtain ⟨h1,h2⟩:=Mw S (blk:= .var T xs) (c:=C0) (T:=T) hn (fun b' h=>(dh (h.flat (by simp))).symm) (fun hle fL dj=> .var rfl fL hs dj (fun j v x a b=>(hx j v x a b).mono hle) ic)
 refine ⟨h1,h2,?_⟩
 have:=aq.ptr (P:=P) (w:=w.alloc (.cells C0 T)) (I:=I) (β:=bd β nb (some w.heap.size)) (hp:=bd hp nb (some (.var T xs))) (i:=0) (c:=0) (blk:= .var T xs) (dq _ _ _) (by simp) (dq _ _ _)
 simpa using this
theorem aeU (S:aQ P w I β hp B M w0) {e:TypeId} {nb:Nat} {r:R} {rd:List Nat}
  (h:(Rd.aM (dm P e&&(!(qN P e)||UI (zeroCells P e))) (km nb (.var e (zeroCells P e)) (.ptr nb 0 0) [])).run C hp=some (r,rd)):dt P ((Instr.alloc e true (.tuple #[])).run P w) w I β hp B M w0 r:=by
 obtain ⟨aw,h⟩:=aU h
 rw[aT] at aw
 obtain ⟨aw,nU⟩:=aw
 obtain ⟨hn,rfl⟩:=oT h
 obtain ⟨i,z,h1,h2,h3,h4,h5⟩:=Vn (w:=w) (I:=I) (β:=β) (hp:=hp) aw
 obtain ⟨a,b,c⟩:=Vo S (T:=e) hn h3 h5 fun bz=>by
  rw[bz,pC,Bool.false_or] at nU
  cases hz:zeroCells P e with
  | nil=>rw[hz] at nU;cases nU
  | cons y l=>
   rw[hz] at nU h3 h5
   cases y<;>first|(cases nU;done)|skip
   have aR:0<z.cells.size:=by rw[h3];simp
   have:=h5 0 z.cells[0] .dW (l8 aR) rfl
   left
   rw[l8 aR]
   generalize z.cells[0]=u at this
   cases this;rfl
 exact ⟨_,_,_,_,by simp[Instr.alloc,zeroValue,typeInfo,h1,h2,newVar,newRow],a,b,c⟩
theorem aeV (S:aQ P w I β hp B M w0) {e:TypeId} {nb:Nat} {x:V} {v:Value} {r:R} {rd:List Nat} (hv:aq P w I β hp v x)
  (h:(Rd.aM (!(qN P e)) <| na x.cells (km nb (.var e x.cells) (.ptr nb 0 0) [])).run C hp=some (r,rd)):dt P ((Instr.box e v).run P w) w I β hp B M w0 r:=by
 obtain ⟨nU,h⟩:=aU h
 obtain ⟨e1,e2⟩:=MB hv h
 obtain ⟨_,l,h⟩:=HE h (vs:=v.cells.toList) (by simpa using e1) (fun j u y a b=>e2 j u y (by simpa using a) b)
 obtain ⟨hn,rfl⟩:=oT h
 obtain ⟨a,b,c⟩:=Vo S (T:=e) hn e1 e2 fun bz=>by rw[bz] at nU;cases nU
 exact ⟨_,_,_,_,by simp[Instr.box,newVar,newRow],a,b,c⟩
theorem foldl_set (off:Nat): ∀(vs:List Value) (k:Nat) (cs:Array Value) (i:Nat),off+k+vs.length≤cs.size→
  ((vs.zipIdx k).foldl (fun cs p=>cs.setIfInBounds (off+p.2) p.1) cs)[i]? =if i<off+k then cs[i]? else if i<off+k+vs.length then vs[i-(off+k)]? else cs[i]?
 | [],k,cs,i,h=>by simp;intro h1 h2;omega
 | v::vs,k,cs,i,h=>by
  simp only[List.zipIdx_cons,List.foldl_cons]
  simp only[List.length_cons] at h⊢
  rw[foldl_set off vs (k+1) _ i (by simp;omega)]
  by_cases h1:i<off+k
  ·rw[aF,ai h1]
   rw[GH (by omega)]
  ·rw[aj h1]
   by_cases h2:i=off+k
   ·subst h2
    rw[aF,aF]
    rw[LW (by omega)]
    simp
   ·rw[aD]
    by_cases h3:i<off+k+(vs.length+1)
    ·rw[aF,ai h3,show i-(off+k)=(i-(off+(k+1)))+1 by omega]
     simp
    ·rw[aD,aj h3,GH (by omega)]
theorem Vp (off:Nat): ∀(vs:List Value) (k:Nat) (cs:Array Value),((vs.zipIdx k).foldl (fun cs p=>cs.setIfInBounds (off+p.2) p.1) cs).size=cs.size
 | [],k,cs=>rfl
 | v::vs,k,cs=>by
  simp only[List.zipIdx_cons,List.foldl_cons]
  rw[Vp off vs (k+1)]
  simp
theorem Vq {cells:Array Value} {off:Nat} {v:Value} (h:off+v.cells.size≤cells.size) (i:Nat):
  (v.cells.zipIdx.foldl (fun cs (p:Value × Nat)=>cs.setIfInBounds (off+p.2) p.1) cells)[i]? =if i<off then cells[i]? else if i<off+v.cells.size then v.cells[i-off]? else cells[i]? :=by
 have:=foldl_set off v.cells.toList 0 cells i (by simpa using h)
 rw[←GI]
 simpa[Array.toList_zipIdx] using this
theorem Vr {cells:Array Value} {off:Nat} {v:Value}:(v.cells.zipIdx.foldl (fun cs (p:Value × Nat)=>cs.setIfInBounds (off+p.2) p.1) cells).size=cells.size:=by
 have:=Vp off v.cells.toList 0 cells
 rw[←GI]
 simpa[Array.toList_zipIdx] using this
inductive zK (P:Program) (w:World) (I:Nat→Prop) (β:Nat→Option Nat) (hp:Nat→Option an):List (Nat × Value)→List (Nat × V)→Prop
 | nil:zK P w I β hp [] []
 | cons {i:Nat} {v:Value} {x:V} {vs:List (Nat × Value)} {xs:List (Nat × V)}:v.cells.size=x.cells.length→(∀(j:Nat) u y,v.cells[j]? =some u→x.cells[j]? =some y→aq P w I β hp u y)→
   zK P w I β hp vs xs→zK P w I β hp ((i,v)::vs) ((i,x)::xs)
theorem Vs (place:Nat→Option (Nat × Nat)): ∀{vs:List (Nat × Value)} {px:List (Nat × V)} {cells:Array Value} {xs ys:List V},zK P w I β hp vs px→cells.size=xs.length→
  (∀(j:Nat) v x,cells[j]? =some v→xs[j]? =some x→aq P w I β hp v x)→vQ place xs px=some ys→
  ∃rf:Array Value,Instr.fill place cells vs=some rf∧rf.size=ys.length∧∀(j:Nat) v x,rf[j]? =some v→ys[j]? =some x→aq P w I β hp v x
 | _,_,cells,xs,ys,.nil,hs,hx,h=>by
  simp only[vQ,eb] at h
  subst h
  exact ⟨cells,by simp[Instr.fill],hs,hx⟩
 | _,_,cells,xs,ys,@zK.cons _ _ _ _ _ i v x vs px h1 h2 h3,hs,hx,h=>by
  simp only[vQ] at h
  cases ct:place i with
  | none=>rw[ct] at h;cases h
  | some os=>
   obtain ⟨off,size⟩:=os
   rw[ct] at h
   simp only at h
   cases hc:(Nat.beq x.cells.length size&&Nat.ble (off+size) xs.length) with
   | false=>rw[hc] at h;cases h
   | true=>
    rw[hc] at h
    simp only[cond_true] at h
    simp only[aT,bq,fa] at hc
    have hv:off+v.cells.size≤cells.size:=by omega
    have hb:off+x.cells.length≤xs.length:=by omega
    have hl:(gG xs off x.cells).length=xs.length:=CJ _ _ _ hb
    obtain ⟨rf,f1,f2,f3⟩:=Vs place (cells:=v.cells.zipIdx.foldl (fun cs (p:Value × Nat)=>cs.setIfInBounds (off+p.2) p.1) cells) (xs:=gG xs off x.cells) h3 (by rw[Vr,hl,hs])
     (fun j u y hu hy=>by
      rw[Vq hv] at hu
      unfold gG at hy
      rw[oR _ _ _ _ hb] at hy
      by_cases j1:j<off
      ·rw[ai j1] at hu hy;exact hx j u y hu hy
      ·rw[aj j1] at hu hy
       by_cases j2:j<off+x.cells.length
       ·rw[aF] at hu
        rw[ai j2] at hy
        exact h2 (j-off) u y hu hy
       ·rw[aD] at hu
        rw[aj j2] at hy
        exact hx j u y hu hy) h
    refine ⟨rf,?_,f2,f3⟩
    simp only[Instr.fill,ct]
    rw[aj (by simp;omega)]
    exact f1
theorem aeW {t:TypeId} {parts:Array (Nat × Value)} {cells:Array Value} {z:Value} {i:TypeInfo} (hi:P.info? t=some i) (hz:i.zero=some z) (h:Instr.fill (placeOf P t) z.cells parts.toList=some cells) (ha:b7 P t=true)
  (ct: ∀fs,P.underlying t=some (.struct fs)→(fs.toList.mapM fun f=>(P.info? f.type).map fun i=>(f.offset,i.size)).isSome=true) (sU: ∀n e,P.underlying t=some (.array n e)→(P.info? e).isSome=true):
  (Instr.build t parts).run P w= .ok (.agg cells) w:=by
 refine run_build w t parts cells ?_
 unfold Program.built
 unfold b7 at ha
 rw[hi]
 split at ha
 ·rename_i fs hu
  have:=ct fs hu
  cases hm:fs.toList.mapM fun f=>(P.info? f.type).map fun i=>(f.offset,i.size) with
  | none=>rw[hm] at this;cases this
  | some places=>
   simp only[hu,hz,hm]
   have hq:placeOf P t=fun i=>places[i]? :=by simp[placeOf,hu,hm]
   rw[hq] at h
   simpa using h
 ·rename_i n e hu
  have:=sU n e hu
  cases js:P.info? e with
  | none=>rw[js] at this;cases this
  | some ie=>
   simp only[hu,hz,js]
   have hq:placeOf P t=fun i=>some (i*ie.size,ie.size):=by simp[placeOf,hu,js]
   rw[hq] at h
   exact h
 ·cases ha
theorem Vt {α:Type}: ∀(xs ys:List V) (k:Rd α),na (xs++ys) k=na xs (na ys k)
 | [],_,_=>rfl
 | x::xs,ys,k=>by simp only[List.cons_append,na,Vt xs ys k]
theorem Vu {a:Act} {sl:Nat→V} (hs:mh P w I β hp a sl) {G:Nat→V} (hg:iD P G w I) (t:TypeId) {α:Type}: ∀{l:List (Nat × Operand)} {k:Rd α} {r:α} {rd:List Nat},
  (na ((l.map fun p=>(bm P G t sl p.2).cells).flatten) k).run C hp=some (r,rd)→
  zK P w I β hp (l.map fun p=>(p.1,a.eval p.2)) (l.map fun p=>(p.1,bm P G t sl p.2))∧∃fN,k.run C hp=some (r,fN)
 | [],k,r,rd,h=>⟨.nil,rd,h⟩
 | (i,x)::l,k,r,rd,h=>by
  simp only[dw,List.flatten_cons,Vt] at h
  obtain ⟨e1,e2⟩:=MB (hs.ev hg t x) h
  obtain ⟨_,l1,h⟩:=HE h (vs:=(a.eval x).cells.toList) (by simpa using e1) (fun j u y a b=>e2 j u y (by simpa using a) b)
  obtain ⟨h1,h2⟩:=Vu hs hg t h
  exact ⟨.cons e1 e2 h1,h2⟩
theorem aeX (S:aQ P w I β hp B M w0) {a:Act} {sl:Nat→V} (hs:mh P w I β hp a sl) {G:Nat→V} (hg:iD P G w I) {t ty:TypeId} {ps:Array (Nat × Operand)} {r:R} {rd:List Nat}
  (h:(Rd.aM (dm P t&&(b7 P t&&Hc P t)) (na ((ps.toList.map fun p=>(bm P G ty sl p.2).cells).flatten)
   (zh (vQ (placeOf P t) (zeroCells P t) (ps.toList.map fun p=>(p.1,bm P G ty sl p.2))) fun cs=> .ret ⟨.agg cs,[]⟩))).run C hp=some (r,rd)):
  dt P ((Instr.build t (ps.map fun (i,x)=>(i,a.eval x))).run P w) w I β hp B M w0 r:=by
 obtain ⟨aw,h⟩:=aU h
 simp only[aT] at aw
 obtain ⟨h1,l,h⟩:=Vu hs hg ty h
 cases hf:vQ (placeOf P t) (zeroCells P t) (ps.toList.map fun p=>(p.1,bm P G ty sl p.2)) with
 | none=>rw[hf] at h;cases h
 | some cs=>
  rw[hf] at h
  obtain rfl:=bj h
  obtain ⟨i,z,hi,hz,h3,h4,h5⟩:=Vn (w:=w) (I:=I) (β:=β) (hp:=hp) aw.1
  obtain ⟨cells,f1,f2,f3⟩:=Vs (placeOf P t) h1 h3 h5 hf
  have Vv:=aw.2.2
  refine .same S (v:= .agg cells) (aeW hi hz (by simpa using f1) aw.2.1 (fun fs hu=> ?_) (fun n e hu=> ?_)) (.agg f2 f3)
  ·simpa[Hc,hu] using Vv
  ·simpa[Hc,hu] using Vv
theorem aeY (c7: ∀id blk,hp id=some blk→eE P w I β hp (β id) blk) {x:V} {v:Value} {ys:List V} {fr:List (Nat × an)} {rd:List Nat} {ts:List TypeId} (hv:aq P w I β hp v x)
  (h:(uj P x.cells).run C hp=some ((ys,fr),rd)) (ht:su P ts ys=true):
  v.cells.size=x.cells.length∧∀(j:Nat) u y,v.cells.toList[j]? =some u→x.cells[j]? =some y→aq P w I β hp u y:=by
 cases x with
 | agg xs=>
  obtain ⟨cs,rfl,h1,h2⟩:=hv.mj
  exact ⟨h1,fun j u y a b=>h2 j u y (by simpa[Value.cells] using a) b⟩
 | _=>
  simp only[V.cells] at h⊢
  simp only[uj] at h
  obtain ⟨⟨y1,u1⟩,l3,l4,hq,h⟩:=mi h
  obtain ⟨q1,q2⟩:=Hs c7 hq hv
  obtain ⟨⟨y2,u2⟩,l5,l6,MQ,h⟩:=mi h
  cases MQ
  have:=bj h
  cases this
  obtain ⟨tl,tg⟩:=wk ht
  have gx:=tg 0 _ y1 (cq (by rw[tl];exact Nat.one_pos)) rfl
  have ct:=q2 (jP P w I β hp u1) (fun _ h=> .inl h) (fun p hp b h=> .inr ⟨p,hp,h⟩)
  have ho:=ct.pure gx
  have MR:v.cells= #[v]:=by cases ho<;>rfl
  rw[MR]
  refine ⟨rfl,fun j u y hu hy=> ?_⟩
  cases j with
  | zero=>simp at hu hy;subst hu;subst hy;exact hv
  | succ j=>simp at hy
def zL (P:Program) (w:World) (I:Nat→Prop) (e:TypeId) (cells:Array Value) (es:List V):Prop:=
 cells.size=es.length*P.cellsOf e∧∀(i j:Nat) (x:V) (t':TypeId),es[i]? =some x→(bx P e)[j]? =some t'→j<P.cellsOf e→∃v,cells[i*P.cellsOf e+j]? =some v∧Pure P w I t' v (ch P e x j)
theorem zL.set {e:TypeId} {cells:Array Value} {es ys:List V} {i:Nat} {v:Value} (h:zL P w I e cells es) (hi:i<es.length) (hv:v.cells.size=P.cellsOf e) (hy:ys.length=P.cellsOf e)
  (hr: ∀(j:Nat) (t':TypeId) (u:Value) (y:V),(bx P e)[j]? =some t'→v.cells[j]? =some u→ys[j]? =some y→Pure P w I t' u y):
  zL P w I e (v.cells.zipIdx.foldl (fun cs (p:Value × Nat)=>cs.setIfInBounds (i*P.cellsOf e+p.2) p.1) cells) (es.set i (cM P e ys)):=by
 obtain ⟨h1,h2⟩:=h
 have hb:i*P.cellsOf e+v.cells.size≤cells.size:=by
  have:(i+1)*P.cellsOf e≤es.length*P.cellsOf e:=eC _ hi
  rw[dU] at this
  omega
 refine ⟨by rw[Vr,nJ,h1],fun i' j x t' hx ht hj=> ?_⟩
 rw[Vq hb]
 rw[tY] at hx
 by_cases jT:i=i'
 ·subst jT
  rw[ai rfl,ai hi] at hx
  cases hx
  rw[aD,aF,show i*P.cellsOf e+j-i*P.cellsOf e=j by omega]
  have h3:j<v.cells.size:=by omega
  have h4:j<ys.length:=by omega
  refine ⟨v.cells[j],l8 h3,?_⟩
  rw[sO (cq h4) ht]
  exact hr j t' _ _ ht (l8 h3) (cq h4)
 ·rw[aj jT] at hx
  have bO:i'*P.cellsOf e+j<i*P.cellsOf e∨i*P.cellsOf e+v.cells.size≤i'*P.cellsOf e+j:=by
   rcases tV i' i with aR|rb
   ·left
    have:(i'+1)*P.cellsOf e≤i*P.cellsOf e:=eC _ aR
    rw[dU] at this
    omega
   ·right
    have:(i+1)*P.cellsOf e≤i'*P.cellsOf e:=eC _ (by omega)
    rw[dU] at this
    omega
  rcases bO with bO|bO
  ·rw[ai bO];exact h2 i' j x t' hx ht hj
  ·rw[aD,aD];exact h2 i' j x t' hx ht hj
theorem aeZ {t':TypeId} {v:Value} (gx:fc P t' (zb (qM P t' v))=true):Pure P w I t' v (zb (qM P t' v)):=by
 have hc:=aq.const (P:=P) (w:=w) (I:=I) (β:=fun _=>none) (hp:=fun _=>none) t' v
 cases wx:qM P t' v<;>rw[wx] at gx hc<;>simp only[zb] at gx⊢
 case int k n=>rw[hc.eD];exact Plain.pure (v:= .int k n) (y:= .int k n) rfl gx
 case bool b=>rw[hc.lI];exact Plain.pure (v:= .bool b) (y:= .bool b) rfl gx
 case str l=>obtain ⟨s,e1,e2⟩:=hc.nT;rw[e1];exact Plain.pure (v:= .string s) (y:= .str l) ⟨s,rfl,e2⟩ gx
 case nilS e'=>
  cases hc
  exact Plain.pure (y:= .list e' []) (jK.any fun _=>rfl) gx
 case list e' es=>
  cases hc with
  | list hp=>exact Plain.pure (y:= .list e' es) hp gx
 all_goals (unfold fc at gx;split at gx<;>simp_all)
theorem CR {e:TypeId} (h:nM P e=true): ∃i z,P.info? e=some i∧i.zero=some z∧i.size=P.cellsOf e∧z.cells.size=P.cellsOf e∧
  ∀(j:Nat) (t':TypeId),(bx P e)[j]? =some t'→j<P.cellsOf e→∃v,z.cells[j]? =some v∧Pure P w I t' v (ch P e (cM P e (fp P e)) j):=by
 unfold nM at h
 simp only[aT] at h
 obtain ⟨i,z,h1,h2,h3,h4,h5⟩:=lL h.1
 refine ⟨i,z,h1,h2,h3,h4,fun j t' ht hj=> ?_⟩
 obtain ⟨tl,tg⟩:=wk h.2
 have cy:j<(fp P e).length:=by rw[←tl,(lH h.1).1];exact hj
 have hz:=cq cy
 have gx:=tg j t' _ (by rw[←uB];exact ht) hz
 refine ⟨z.cells[j],l8 (by omega),?_⟩
 rw[sO hz ht]
 have wy:(fp P e)[j]=zb (qM P t' z.cells[j]):=by
  have:(fp P e)[j]? =((zeroCells P e)[j]?).map zb:=by simp[fp]
  rw[hz] at this
  cases hc:(zeroCells P e)[j]? with
  | none=>rw[hc] at this;cases this
  | some y=>
   rw[hc] at this
   simp only[Option.map_some,eb] at this
   rw[h5] at hc
   obtain ⟨t2,v2,a1,a2,rfl⟩:=MS hc
   have ht2:t2=t':=by
    rw[←uB,ht] at a1;exact (dh a1).symm
   have sI:v2=z.cells[j]:=by
    have hjz:j<z.cells.size:=by omega
    have:z.cells.toList[j]? =some z.cells[j]:=by simp[hjz]
    rw[this] at a2;exact (dh a2).symm
   rw[this,ht2,sI]
 rw[wy] at gx⊢
 exact aeZ gx
end
section
variable {P:Program} {w w':World} {I I':Nat→Prop} {β β':Nat→Option Nat} {hp hp':Nat→Option an} {C:ae} {B:Nat} {M:Nat→Prop} {w0:Start}
theorem zM (S:aQ P w I β hp B M w0) {nb cap:Nat} {e:TypeId} {es:List V} {C0:Array Value} (aw:dm P e=true) (hn:hp nb=none) (hs:C0.size=cap*P.cellsOf e) (hl:es.length≤cap) (hm:cap≤maxLen)
  (hx: ∀(i j:Nat) (x:V) (t':TypeId),es[i]? =some x→(bx P e)[j]? =some t'→j<P.cellsOf e→∃v,C0[i*P.cellsOf e+j]? =some v∧Pure P w I t' v (ch P e x j)):
  Le P w I β hp (w.alloc (.cells C0 e)) I (bd β nb (some w.heap.size)) (bd hp nb (some (.arr e es false)))∧aQ P (w.alloc (.cells C0 e)) I (bd β nb (some w.heap.size)) (bd hp nb (some (.arr e es false))) B M w0∧
  aq P (w.alloc (.cells C0 e)) I (bd β nb (some w.heap.size)) (bd hp nb (some (.arr e es false))) (.slice (some ⟨w.heap.size,0,none⟩) es.length cap) (.whole e nb):=by
 obtain ⟨h1,h2⟩:=Mw S (blk:= .arr e es false) (c:=C0) (T:=e) hn (fun b' h=>(dh (h.flat (by simp))).symm) (fun hle fL dj=> .arr aw rfl fL (by rw[hs];exact eC _ hl) (fun h=>by cases h) (fun _=>dj) fun i j x t' a b c=>by
  obtain ⟨v,hv,hp⟩:=hx i j x t' a b c
  exact ⟨v,hv,hp.mono hle.dN hle.cl⟩)
 refine ⟨h1,h2,.whole (dq _ _ _) (dq _ _ _) ?_ hl hm⟩
 rw[oK (heap_alloc_new w (.cells C0 e)),hs]
theorem At.only {b b':Nat} {e e':TypeId} {es bf:List V} {q:Path} (hz: ∀(i j:Nat) x t' e1 l,es[i]? =some x→(bx P e)[j]? =some t'→ch P e x j= .list e1 l→l=[])
  (h:At P w b e es q b' e' bf):q=[]∧b'=b∧e'=e∧bf=es:=by
 cases h with
 | here=>exact ⟨rfl,rfl,rfl,rfl⟩
 | step h1 h2 h3 h4 h5 h6=>have:=hz _ _ _ _ _ _ h2 h3 h5;subst this;simp at h6
theorem nQ.sG {t:TypeId} {v:Value} {x:V} (h:Pure P w I t v x) (hz: ∀e1 l,x= .list e1 l→l=[]):nQ P w I t v x:=by
 cases h with
 | int h=>exact .gM (by unfold gH;rw[h]) (.int h)
 | bool h=>exact .gM (by unfold gH;rw[h]) (.bool h)
 | str h hl=>exact .gM (by unfold gH;rw[h]) (.str h hl)
 | nil h=>exact .emp h fun _=>rfl
 | emp h=>exact .emp h fun h=>by cases h
 | list g hu hl _ _ _ _=>
  have:=hz _ _ rfl
  subst this
  simp at hl
  subst hl
  exact .emp hu fun h=>by cases h
theorem ae0 (S:aQ P w I β hp B M w0) {nb cap:Nat} {e:TypeId} {es:List V} {C0:Array Value} (aw:dm P e=true) (hn:hp nb=none) (hs:C0.size=cap*P.cellsOf e) (hl:es.length≤cap) (hm:cap≤maxLen)
  (hx: ∀(i j:Nat) (x:V) (t':TypeId),es[i]? =some x→(bx P e)[j]? =some t'→j<P.cellsOf e→∃v,C0[i*P.cellsOf e+j]? =some v∧Pure P w I t' v (ch P e x j))
  (hz: ∀(i j:Nat) x t' e1 l,es[i]? =some x→(bx P e)[j]? =some t'→ch P e x j= .list e1 l→l=[]):
  Le P w I β hp (w.alloc (.cells C0 e)) I (bd β nb (some w.heap.size)) (bd hp nb (some (.nest e es [0,0,0])))∧aQ P (w.alloc (.cells C0 e)) I (bd β nb (some w.heap.size)) (bd hp nb (some (.nest e es [0,0,0]))) B M w0∧
  aq P (w.alloc (.cells C0 e)) I (bd β nb (some w.heap.size)) (bd hp nb (some (.nest e es [0,0,0]))) (.slice (some ⟨w.heap.size,0,none⟩) es.length cap) (.whole e nb):=by
 obtain ⟨h1,h2⟩:=Mw S (blk:= .nest e es [0,0,0]) (c:=C0) (T:=e) hn (fun b' h=>by
   cases h with
   | root _ h=>exact (dh h).symm
   | row h ha=>cases h;exact (At.only hz ha).2.1)
  (fun hle fL dj=> .nest rfl (fun q b' e' bf ha=>by
   obtain ⟨rfl,rfl,rfl,rfl⟩:=At.only hz ha
   refine ⟨aw,⟨C0,fL,by rw[hs];exact eC _ hl,fun i j x t' a b c=> ?_⟩,dj⟩
   obtain ⟨v,hv,hp⟩:=hx i j x t' a b c
   exact ⟨v,hv,.sG (hp.mono hle.dN hle.cl) fun e1 l h=>hz i j x t' e1 l a b h⟩)
   fun q1 q2 b' e1 cN e2 cF a1 a2=>(At.only hz a1).1.trans (At.only hz a2).1.symm)
 refine ⟨h1,h2,.eU (dq _ _ _) (dq _ _ _) ?_ hl hm⟩
 rw[oK (heap_alloc_new w (.cells C0 e)),hs]
theorem Vw (c7: ∀id blk,hp id=some blk→eE P w I β hp (β id) blk) {a:Act} {sl:Nat→V} (hs:mh P w I β hp a sl) {G:Nat→V} (hg:iD P G w I) {e:TypeId} {len:Nat}: ∀{l:List (Nat × Operand)} {ps:List (Nat × V)} {upd:List (Nat × an)} {rd:List Nat},
  (B9 P e len (l.map fun p=>(p.1,bm P G e sl p.2))).run C hp=some ((ps,upd),rd)→dm P e=true→(∀p∈upd,Cx hp p)∧∀I':Nat→Prop,(∀b,I b→I' b)→(∀p∈upd,∀b,uA P w β hp p.1 b→I' b)→
   ∀(cells:Array Value) (es:List V),es.length=len→zL P w I' e cells es→∃rf,Instr.fill (fun i=>some (i*P.cellsOf e,P.cellsOf e)) cells (l.map fun p=>(p.1,a.eval p.2))=some rf∧zL P w I' e rf (B8 es ps)∧(B8 es ps).length=len
 | [],ps,upd,rd,h,_=>by
  cases h
  exact ⟨by simp,fun I' _ _ cells es hl he=>⟨cells,by simp[Instr.fill],he,hl⟩⟩
 | (i,x)::l,ps,upd,rd,h,aw=>by
  simp only[dw,B9] at h
  obtain ⟨⟨ys,u1⟩,l1,l2,h1,h⟩:=mi h
  obtain ⟨hc,h⟩:=aU h
  obtain ⟨⟨ps',u2⟩,l3,l4,h2,h⟩:=mi h
  have:=bj h
  cases this
  simp only[aT,ll] at hc
  obtain ⟨hi,gx⟩:=hc
  obtain ⟨tl,tg⟩:=wk gx
  have zA:=hs.ev hg e x
  obtain ⟨v1,v2⟩:=aeY c7 zA h1 gx
  obtain ⟨k1,k2,k3⟩:=Mu c7 h1 (vs:=(a.eval x).cells.toList) (by simpa using v1) v2
  obtain ⟨m1,m2⟩:=Vw c7 hs hg h2 aw
  refine ⟨fun p hp=> ?_,fun I' i1 i2 cells es hl he=> ?_⟩
  ·rcases dp.1 hp with h|h
   ·exact k2 p h
   ·exact m1 p h
  ·have ct:=k3 I' i1 (fun p hp=>i2 p (dp.2 (.inl hp)))
   have bw:=(lH aw).1
   have wu:ys.length=P.cellsOf e:=by rw[←tl,bw]
   have Vb:(a.eval x).cells.size=P.cellsOf e:=by rw[v1,←k1,wu]
   have wz:=he.set (i:=i) (ys:=ys) (by omega) Vb wu (fun j t' u y ht hu hy=>by
    exact (ct j u y (by simpa using hu) hy).pure (tg j t' y (by rw[←uB];exact ht) hy))
   obtain ⟨rf,f1,f2,f3⟩:=m2 I' i1 (fun p hp=>i2 p (dp.2 (.inr hp))) _ (es.set i (cM P e ys)) (by simpa using hl) wz
   refine ⟨rf,?_,f2,f3⟩
   have hb:i*P.cellsOf e+P.cellsOf e≤cells.size:=by
    rw[he.1,hl]
    have:(i+1)*P.cellsOf e≤len*P.cellsOf e:=eC _ hi
    rw[dU] at this
    omega
   simp only[dw,Instr.fill]
   rw[aj (by simp;omega)]
   exact f1
theorem Vx {z:Array Value} {n k:Nat} (hk:k<n) (hz:0<z.size):((Array.range n).map (z[· %z.size]!))[k]? =z[k %z.size]? :=by
 have hm:k %z.size<z.size:=yU _ hz
 simp[hk,hm]
theorem HP {e:TypeId} (h:nM P e=true) {i:TypeInfo} {z:Value} (hi:P.info? e=some i) (hz:i.zero=some z) (n m:Nat) (m8:n≤m):
  ∀(k j:Nat) (x:V) (t':TypeId),(List.replicate n (cM P e (fp P e)))[k]? =some x→(bx P e)[j]? =some t'→j<P.cellsOf e→
   ∃v,((Array.range (m*P.cellsOf e)).map (z.cells[· %z.cells.size]!))[k*P.cellsOf e+j]? =some v∧Pure P w I t' v (ch P e x j):=by
 intro k j x t' hx ht hj
 obtain ⟨i2,z2,h1,h2,h3,h4,h5⟩:=CR (w:=w) (I:=I) h
 rw[hi] at h1;cases h1
 rw[hz] at h2;cases h2
 rw[tZ] at hx
 split at hx
 ·rename_i hk
  cases hx
  obtain ⟨v,hv,hp⟩:=h5 j t' ht hj
  refine ⟨v,?_,hp⟩
  have hb:k*P.cellsOf e+j<m*P.cellsOf e:=by
   have:(k+1)*P.cellsOf e≤m*P.cellsOf e:=eC _ (by omega)
   rw[dU] at this
   omega
  rw[Vx hb (by omega),h4,show (k*P.cellsOf e+j) %P.cellsOf e=j by rw[l9,Nat.mul_add_mod];exact Nat.mod_eq_of_lt hj]
  exact hv
 ·cases hx
theorem ae1 {P:Program} (w:World) (t e:TypeId) (len:Nat) (parts:Array (Nat × Value)) (cells:Array Value) (ie:TypeInfo) (z:Value)
  (hu:P.underlying t=some (.slice e)) (js:P.info? e=some ie) (hz:ie.zero=some z) (ae2: ¬len*ie.size>2^24)
  (h:Instr.fill (fun i=>some (i*ie.size,ie.size)) ((Array.range (len*ie.size)).map (z.cells[· %z.cells.size]!)) parts.toList=some cells):
  (Instr.buildSlice t len parts).run P w= .ok (.slice (some ⟨w.heap.size,0,none⟩) len len) (w.alloc (.cells cells e)):=by
 by_cases m8:len*ie.size=0
 ·have h0: ∀g:Nat→Value,(Array.range (len*ie.size)).map g= #[]:=by intro g;exact Array.eq_empty_of_size_eq_zero (by simp[m8])
  have hp: ∀(u:Array Value),(Pure.pure u:Sem (Array Value)).run P w= .ok u w:=fun _=>rfl
  rw[h0] at h
  simp only[Instr.buildSlice,Sem.run_bind,run_underlying hu,Result.andThen_ok,sizeOf,typeInfo,js]
  have h1:(Array.range (len*ie.size)).map (fun _:Nat=>(default:Value))= #[]:=h0 _
  have hs: ¬16777216<len*ie.size:=by omega
  simp[js,hs,m8]
  simp only[m8] at h1
  simp[h1,h,newRow]
 ·exact run_buildSlice w t e len parts cells ie z hu js hz ae2 m8 h
theorem ae3 (S:aQ P w I β hp B M w0) {a:Act} {sl:Nat→V} (hs:mh P w I β hp a sl) {G:Nat→V} (hg:iD P G w I) {t e:TypeId} {len nb:Nat} {ps:Array (Nat × Operand)} {r:R} {rd:List Nat} (hu:P.underlying t=some (.slice e))
  (h:(Rd.aM (nM P e&&Nat.ble (len*P.cellsOf e) (2^24)) ((B9 P e len (ps.toList.map fun p=>(p.1,bm P G e sl p.2))).bind fun r=>
    km nb (.arr e (B8 (List.replicate len (cM P e (fp P e))) r.1) false) (.whole e nb) r.2)).run C hp=some (r,rd)):
  dt P ((Instr.buildSlice t len (ps.map fun (i,x)=>(i,a.eval x))).run P w) w I β hp B M w0 r:=by
 obtain ⟨hc,h⟩:=aU h
 simp only[aT,fa] at hc
 obtain ⟨cH,Ho⟩:=hc
 have aw:dm P e=true:=by
  unfold nM at cH;simp only[aT] at cH;exact cH.1
 obtain ⟨⟨pv,upd⟩,l1,l2,h1,h⟩:=mi h
 obtain ⟨hn,rfl⟩:=oT h
 obtain ⟨m1,m2⟩:=Vw S.h.rel hs hg h1 aw
 obtain ⟨sR,S1⟩:=CD S m1
 obtain ⟨i,z,hi,hz,h3,h4,_⟩:=CR (w:=w) (I:=I) cH
 have jL:=(lH aw).2
 have h0:zL P w (jP P w I β hp upd) e ((Array.range (len*P.cellsOf e)).map (z.cells[· %z.cells.size]!)) (List.replicate len (cM P e (fp P e))):=
  ⟨by simp,HP cH hi hz len len (bC _)⟩
 obtain ⟨cells,f1,f2,f3⟩:=m2 (jP P w I β hp upd) (fun _ h=> .inl h) (fun p hp b h=> .inr ⟨p,hp,h⟩) _ _ (by simp) h0
 have lM:cd hp upd nb=none:=by
  rcases wa (hp:=hp) (l:=upd) (id:=nb) with h|⟨b',hm,_⟩
  ·exact h.trans hn
  ·obtain ⟨e1,cN,_,h5⟩:=m1 _ hm
   simp only[hn] at h5
   rcases h5 with ⟨_,h5⟩|⟨_,h5⟩<;>cases h5
 have oN:len≤maxLen:=by
  have:len*1≤len*P.cellsOf e:=vL _ jL
  simp only[maxLen]
  omega
 obtain ⟨n1,n2,n3⟩:=zM S1 (cap:=len) aw lM (by rw[f2.1,f3]) (by rw[f3];exact bC _) oN f2.2
 have dr:=ae1 w t e len (ps.map fun (i,x)=>(i,a.eval x)) cells i z hu hi hz (by rw[h3];omega) (by rw[h3];simpa using f1)
 refine ⟨_,_,_,_,dr,sR.trans n1,n2,?_⟩
 rw[f3] at n3
 exact n3
theorem Vy (S:aQ P w I β hp B M w0) {t e:TypeId} {nb:Nat} {kl kc:IntKind} {n m:Int} {r:R} {rd:List Nat} (hu:P.underlying t=some (.slice e))
  (h:(Rd.aM (nM P e&&(decide (0≤n)&&(decide (n≤m)&&Nat.ble (m.toNat*P.bytesOf e) db)))
    (km nb (.arr e (List.replicate n.toNat (cM P e (fp P e))) false) (.whole e nb) [])).run C hp=some (r,rd)):
  dt P ((Instr.makeSlice t (.int kl n) (.int kc m)).run P w) w I β hp B M w0 r:=by
 obtain ⟨hc,h⟩:=aU h
 simp only[aT,fa,dC] at hc
 obtain ⟨cH,h0,m8,fe⟩:=hc
 have aw:dm P e=true:=by
  unfold nM at cH;simp only[aT] at cH;exact cH.1
 obtain ⟨hn,rfl⟩:=oT h
 obtain ⟨i,z,hi,hz,h3,h4,_⟩:=CR (w:=w) (I:=I) cH
 have mn:P.bytesOf e=i.bytes:=by simp[Program.bytesOf,hi]
 have MT:m≤9223372036854775807:=by
  have h1:m.toNat*1≤m.toNat*P.bytesOf e:=vL _ (zq aw)
  simp only[db] at fe
  omega
 have dr:=run_make (P:=P) w t e i z hu hi hz kl kc n m h0 m8 (by
  rw[mn] at fe
  simp only[db] at fe
  have:(i.bytes:Int)*m=((m.toNat*i.bytes:Nat):Int):=by
   rw[Int.natCast_mul,Int.toNat_of_nonneg (by omega),Int.mul_comm]
  rw[this]
  omega) MT
 have hlen:(List.replicate n.toNat (cM P e (fp P e))).length=n.toNat:=by simp
 obtain ⟨n1,n2,n3⟩:=zM S (cap:=m.toNat) (es:=List.replicate n.toNat (cM P e (fp P e))) (C0:=madeCells z.cells (m.toNat*i.size)) aw hn (by rw[size_madeCells,h3]) (by rw[hlen];omega) (by simp only[maxLen];omega)
  (by rw[h3];exact HP cH hi hz n.toNat m.toNat (by omega))
 refine ⟨_,_,_,_,dr,n1,n2,?_⟩
 rw[hlen] at n3
 exact n3
theorem MU: ∀{l:List V} {j:Nat} {e1:TypeId} {k:List V},Cl l=true→V.nth l j= .list e1 k→k=[]
 | [],j,e1,k,_,h=>by cases j<;>cases h
 | x::l,0,e1,k,hn,h=>by
  simp only[V.nth] at h
  subst h
  cases k with
  | nil=>rfl
  | cons _ _=>cases hn
 | x::l,j+1,e1,k,hn,h=>by
  refine MU (l:=l) (j:=j) ?_ h
  cases x with
  | list e2 k2=>
   cases k2 with
   | nil=>exact hn
   | cons _ _=>cases hn
  | _=>exact hn
theorem ae4 {e:TypeId} {n:Nat} (aw:dm P e=true) (h:Cl (fp P e)=true):
  ∀(i j:Nat) x t' e1 l,(List.replicate n (cM P e (fp P e)))[i]? =some x→(bx P e)[j]? =some t'→ch P e x j= .list e1 l→l=[]:=by
 intro i j x t' e1 l hx ht hl
 have:=List.eq_of_mem_replicate (kN hx)
 subst this
 unfold ch cM at hl
 cases ha:b7 P e with
 | true=>rw[ha] at hl;exact MU h hl
 | false=>rw[ha] at hl;exact MU h hl
theorem ae5 (S:aQ P w I β hp B M w0) {t e:TypeId} {nb:Nat} {kl kc:IntKind} {n m:Int} {r:R} {rd:List Nat} (hu:P.underlying t=some (.slice e))
  (h:(Rd.aM (nM P e&&(decide (0≤n)&&(decide (n≤m)&&Nat.ble (m.toNat*P.bytesOf e) db)))
    (Rd.aM (Cl (fp P e)) (km nb (.nest e (List.replicate n.toNat (cM P e (fp P e))) [0,0,0]) (.whole e nb) []))).run C hp=some (r,rd)):
  dt P ((Instr.makeSlice t (.int kl n) (.int kc m)).run P w) w I β hp B M w0 r:=by
 obtain ⟨hc,h⟩:=aU h
 simp only[aT,fa,dC] at hc
 obtain ⟨cH,h0,m8,fe⟩:=hc
 have aw:dm P e=true:=by
  unfold nM at cH;simp only[aT] at cH;exact cH.1
 obtain ⟨hnr,h⟩:=aU h
 obtain ⟨hn,rfl⟩:=oT h
 obtain ⟨i,z,hi,hz,h3,h4,_⟩:=CR (w:=w) (I:=I) cH
 have mn:P.bytesOf e=i.bytes:=by simp[Program.bytesOf,hi]
 have MT:m≤9223372036854775807:=by
  have h1:m.toNat*1≤m.toNat*P.bytesOf e:=vL _ (zq aw)
  simp only[db] at fe
  omega
 have dr:=run_make (P:=P) w t e i z hu hi hz kl kc n m h0 m8 (by
  rw[mn] at fe
  simp only[db] at fe
  have:(i.bytes:Int)*m=((m.toNat*i.bytes:Nat):Int):=by
   rw[Int.natCast_mul,Int.toNat_of_nonneg (by omega),Int.mul_comm]
  rw[this]
  omega) MT
 have hlen:(List.replicate n.toNat (cM P e (fp P e))).length=n.toNat:=by simp
 obtain ⟨n1,n2,n3⟩:=ae0 S (cap:=m.toNat) (es:=List.replicate n.toNat (cM P e (fp P e))) (C0:=madeCells z.cells (m.toNat*i.size)) aw hn (by rw[size_madeCells,h3]) (by rw[hlen];omega) (by simp only[maxLen];omega)
  (by rw[h3];exact HP cH hi hz n.toNat m.toNat (by omega))
  (ae4 aw hnr)
 refine ⟨_,_,_,_,dr,n1,n2,?_⟩
 rw[hlen] at n3
 exact n3
theorem Pure.one {t:TypeId} {v:Value} {x:V} (h:Pure P w I t v x):v.oneCell'=true:=by cases h<;>rfl
structure Row (P:Program) (w:World) (I:Nat→Prop) (e:TypeId) (v:Value) (xs:List V) (a:Addr) (c:Nat) (news:List Value):Prop where
 val:v= .slice (some a) xs.length c
 len:news.length=xs.length*P.cellsOf e
 cell: ∀(j:Nat) u,news[j]? =some u→w.cell? (a.add j)=some u
 el: ∀(i j:Nat) (x:V) (t':TypeId),xs[i]? =some x→(bx P e)[j]? =some t'→j<P.cellsOf e→∃u,news[i*P.cellsOf e+j]? =some u∧Pure P w I t' u (ch P e x j)
theorem Row.one {e:TypeId} {v:Value} {xs:List V} {a:Addr} {c:Nat} {news:List Value} (h:Row P w I e v xs a c news) (aw:dm P e=true): ∀u∈news,u.oneCell'=true:=by
 intro u hu
 obtain ⟨k,hk⟩:=tX hu
 have kV:=(bL.1 hk).1
 have jL:=(lH aw).2
 rw[h.len] at kV
 have hi:k/P.cellsOf e<xs.length:=Nat.div_lt_of_lt_mul (by rw[l9];exact kV)
 have hj:k %P.cellsOf e<P.cellsOf e:=yU _ jL
 have gO:k %P.cellsOf e<(bx P e).length:=by rw[gu aw];exact hj
 obtain ⟨u',fu,hp⟩:=h.el (k/P.cellsOf e) (k %P.cellsOf e) _ _ (cq hi) (cq gO) hj
 rw[Nat.div_add_mod'] at fu
 rw[hk] at fu
 cases fu
 exact hp.one
theorem Vz {e:TypeId} {es:List V} {b:Nat} {Ca:Array Value} {off len cap o:Nat} (hh:w.heap[b]? =some (.cells Ca e (0,0))) (hs:es.length*P.cellsOf e≤Ca.size)
  (hx: ∀(i j:Nat) (x:V) (t':TypeId),es[i]? =some x→(bx P e)[j]? =some t'→j<P.cellsOf e→∃v,Ca[i*P.cellsOf e+j]? =some v∧Pure P w I t' v (ch P e x j))
  (lG:off+len≤es.length) (ho:0<len→o=off*P.cellsOf e):
  Row P w I e (.slice (some ⟨b,o,none⟩) len cap) ((es.drop off).take len) ⟨b,o,none⟩ cap ((Ca.toList.drop (off*P.cellsOf e)).take (len*P.cellsOf e)):=by
 have hlen:((es.drop off).take len).length=len:=by simp;omega
 have hb:(off+len)*P.cellsOf e≤Ca.size:=jb (eC _ lG) hs
 rw[dU] at hb
 refine ⟨by rw[hlen],by rw[hlen];simp;omega,fun j u hj=> ?_,fun i j x t' iE ht hj=> ?_⟩
 ·have cy:=(bL.1 hj).1
  have MV:j<len*P.cellsOf e:=by
   rw[fb] at cy;omega
  have nR:0<len:=by
   rcases Nat.eq_zero_or_pos len with h|h
   ·rw[h] at MV;simp at MV
   ·exact h
  rw[fT MV,jc] at hj
  rw[oQ,cell?_cells hh,ho nR]
  simpa using hj
 ·have hi:i<len:=by rw[←hlen];exact (bL.1 iE).1
  rw[fT hi,jc] at iE
  obtain ⟨u,hu,hp⟩:=hx (off+i) j x t' iE ht hj
  refine ⟨u,?_,hp⟩
  have:i*P.cellsOf e+j<len*P.cellsOf e:=by
   have:(i+1)*P.cellsOf e≤len*P.cellsOf e:=eC _ hi
   rw[dU] at this
   omega
  rw[fT this,jc]
  rw[dU] at hu
  rw[←pB]
  simpa using hu
theorem HQ (c7: ∀id blk,hp id=some blk→eE P w I β hp (β id) blk) {e:TypeId} {v:Value} {x:V} {k:List V→Rd R} {r:R} {rd:List Nat} (aw:dm P e=true) (hv:aq P w I β hp v x)
  (h:(uo e x k).run C hp=some (r,rd)): ∃xs,(((∃a,v= .slice a 0 0)∧xs=[])∨∃a c news,Row P w I e v xs a c news)∧∃l,(k xs).run C hp=some (r,l):=by
 cases hv with
 | list hp'=>
  obtain ⟨hc,h2⟩:=aU h
  clear h
  rw[bq] at hc
  subst hc
  cases hp' with
  | nil=>exact ⟨[],.inl ⟨⟨_,rfl⟩,rfl⟩,rd,h2⟩
  | @emp a cap=>exact ⟨[],.inr ⟨a,cap,[],⟨rfl,by simp,fun j u hj=>by simp at hj,fun i j x t' hx _ _=>by simp at hx⟩⟩,rd,h2⟩
  | @list b o len cap es g hl cG hI ib hx=>
   refine ⟨_,.inr ⟨⟨b,o,none⟩,cap,(List.range (len*P.cellsOf e)).map fun k=>g (k/P.cellsOf e) (k %P.cellsOf e),⟨by rw[hl],by rw[hl];simp,fun j u hj=> ?_,fun i j x t' iE ht hj=> ?_⟩⟩,rd,h2⟩
   ·obtain ⟨cy,jo⟩:=bL.1 hj
    simp at cy jo
    have jL:=(lH aw).2
    have hi:j/P.cellsOf e<len:=Nat.div_lt_of_lt_mul (by rw[l9];exact cy)
    have jq:j %P.cellsOf e<P.cellsOf e:=yU _ jL
    rw[oQ,←jo]
    have:=ib (j/P.cellsOf e) (j %P.cellsOf e) hi jq
    rwa [Nat.div_add_mod'] at this
   ·have hi:i<len:=by rw[←hl];exact (bL.1 iE).1
    have hb:i*P.cellsOf e+j<len*P.cellsOf e:=by
     have:(i+1)*P.cellsOf e≤len*P.cellsOf e:=eC _ hi
     rw[dU] at this
     omega
    refine ⟨g i j,?_,hx i j x t' iE ht⟩
    have e1:(i*P.cellsOf e+j)/P.cellsOf e=i:=by
     rw[l9,Nat.mul_add_div (lH aw).2,Nat.div_eq_of_lt hj,Nat.add_zero]
    have e2:(i*P.cellsOf e+j) %P.cellsOf e=j:=by
     rw[l9,Nat.mul_add_mod];exact Nat.mod_eq_of_lt hj
    simp[hb,e1,e2]
 | nilS=>
  obtain ⟨hc,h⟩:=aU h
  exact ⟨[],.inl ⟨⟨_,rfl⟩,rfl⟩,rd,h⟩
 | eo af hb=>
  obtain ⟨l,h⟩:=run_get h
  simp only[af] at h
  obtain ⟨hc,h⟩:=aU h
  exact ⟨[],.inl ⟨⟨_,rfl⟩,rfl⟩,l,h⟩
 | @whole e' id es fz b cap af hb bw cG hm=>
  obtain ⟨l,h⟩:=run_get h
  simp only[af] at h
  obtain ⟨hc,h2⟩:=aU h
  clear h
  simp only[aT,bq] at hc
  obtain ⟨rfl,_⟩:=hc
  have hr:=c7 _ _ af
  cases hr with
  | ep aI=>rw[aI] at hb;cases hb
  | arr MA aI hh hs hf eM hx=>
   rw[hb] at aI;cases aI
   have:=Vz (cap:=cap) (off:=0) (len:=es.length) (o:=0) hh hs hx (by omega) (fun _=>by simp)
   exact ⟨es,.inr ⟨_,_,_,by simpa using this⟩,l,h2⟩
 | gN af hb=>
  obtain ⟨l,h⟩:=run_get h
  simp only[af] at h
  obtain ⟨hc,h⟩:=aU h
  exact ⟨[],.inl ⟨⟨_,rfl⟩,rfl⟩,l,by simpa using h⟩
 | @sub e' id off len es fz b o cap af hb lG cG ho=>
  obtain ⟨l,h⟩:=run_get h
  simp only[af] at h
  obtain ⟨hc,h2⟩:=aU h
  clear h
  simp only[aT,bq] at hc
  obtain ⟨rfl,_⟩:=hc
  have hr:=c7 _ _ af
  cases hr with
  | ep aI=>rw[aI] at hb;cases hb
  | arr MA aI hh hs hf eM hx=>
   rw[hb] at aI;cases aI
   exact ⟨_,.inr ⟨_,_,_,Vz (cap:=cap) hh hs hx lG ho⟩,l,h2⟩
 | eL af=>
  obtain ⟨l,h⟩:=run_get h
  simp only[af] at h
  cases h
 | ia af=>
  obtain ⟨l,h⟩:=run_get h
  simp only[af] at h
  cases h
 | undef=>cases h
 | int=>cases h
 | bool=>cases h
 | str=>cases h
 | agg=>cases h
 | bJ=>cases h
 | dW=>cases h
 | fn=>cases h
 | pref=>cases h
 | lE=>cases h
 | ptr=>cases h
 | kR=>cases h
 | kS=>cases h
 | row=>cases h
 | cY=>cases h
 | ec=>cases h
 | jm=>cases h
 | cZ=>cases h
 | eU af=>
  obtain ⟨l,h⟩:=run_get h
  simp only[af] at h
  cases h
theorem VA {t ty e:TypeId} {i:TypeInfo} (ht:P.underlying t=some (.slice e)) (hi:P.info? e=some i) (a:Option Addr) (n cap:Nat) (x:Value) (hx: ∃a c,x= .slice a 0 c) (hn:n≤cap):
  (Builtin.append_ #[t,t] ty #[.slice a n cap,x]).run P w= .ok (.slice a n cap) w:=by
 obtain ⟨a',c,rfl⟩:=hx
 cases a' with
 | none=>cases a<;>simp[Builtin.append_,run_underlying ht,sizeOf,typeInfo,hi,Builtin.lenOf,Builtin.firstCells,hn,storeCells]
 | some a'=>cases a<;>simp[Builtin.append_,run_underlying ht,sizeOf,typeInfo,hi,Builtin.lenOf,Builtin.firstCells,hn,storeCells,loadCells,loadCellsFrom]
theorem HR {e:TypeId} {es xs:List V} {n:Nat} {c:List Value} {news:List Value} (hn:es.length=n)
  (h1: ∀(i j:Nat) (x:V) (t':TypeId),es[i]? =some x→(bx P e)[j]? =some t'→j<P.cellsOf e→∃v,c[i*P.cellsOf e+j]? =some v∧Pure P w I t' v (ch P e x j))
  (h2: ∀(i j:Nat) (x:V) (t':TypeId),xs[i]? =some x→(bx P e)[j]? =some t'→j<P.cellsOf e→∃v,news[i*P.cellsOf e+j]? =some v∧Pure P w I t' v (ch P e x j))
  (hb:n*P.cellsOf e≤c.length) (rest:List Value):
  ∀(i j:Nat) (x:V) (t':TypeId),(es++xs)[i]? =some x→(bx P e)[j]? =some t'→j<P.cellsOf e→∃v,(c.take (n*P.cellsOf e)++news++rest)[i*P.cellsOf e+j]? =some v∧Pure P w I t' v (ch P e x j):=by
 intro i j x t' hx ht hj
 have hl:(c.take (n*P.cellsOf e)).length=n*P.cellsOf e:=by simp;omega
 by_cases hi:i<n
 ·rw[ln (by omega)] at hx
  obtain ⟨v,hv,hp⟩:=h1 i j x t' hx ht hj
  have:i*P.cellsOf e+j<n*P.cellsOf e:=by
   have:(i+1)*P.cellsOf e≤n*P.cellsOf e:=eC _ hi
   rw[dU] at this
   omega
  exact ⟨v,by rw[da,ln (by omega),fT this];exact hv,hp⟩
 ·rw[jG (by omega),hn] at hx
  obtain ⟨v,hv,hp⟩:=h2 (i-n) j x t' hx ht hj
  have fv:i-n<xs.length:=(bL.1 hx).1
  have e1:i*P.cellsOf e+j-n*P.cellsOf e=(i-n)*P.cellsOf e+j:=by
   rw[Nat.sub_mul]
   have:n*P.cellsOf e≤i*P.cellsOf e:=eC _ (by omega)
   omega
  have h3:(i-n)*P.cellsOf e+j<news.length:=(bL.1 hv).1
  refine ⟨v,?_,hp⟩
  have h4:n*P.cellsOf e≤i*P.cellsOf e+j:=by
   have:n*P.cellsOf e≤i*P.cellsOf e:=eC _ (by omega)
   omega
  rw[da,jG (by omega),hl,e1,ln h3]
  exact hv
theorem Pure.drew {t:TypeId} {v:Value} {x:V} (h:Pure P w I t v x):Pure P w.drew I t v x:=Pure.mono (w:=w) (w':=w.drew) (fun _ h=>h) (fun _ _=>rfl) h
theorem ae6 (w:World) (t ty e:TypeId) (i:TypeInfo) (z:Value) (ht:P.underlying t=some (.slice e)) (hi:P.info? e=some i) (hz:i.zero=some z)
  (a0:Option Addr) (a:Addr) (n c:Nat) (news:List Value) (hl:news.length=n*i.size) (HS: ∀j v,news[j]? =some v→w.cell? (a.add j)=some v)
  (h0:0<n) (HT:(n:Int)≤9223372036854775807) (HU:n*i.bytes≤281474976710656):
  (Builtin.append_ #[t,t] ty #[.slice a0 0 0,.slice (some a) n c]).run P w=
   .ok (.slice (some ⟨w.heap.size,0,none⟩) n (grownCap w n 0 e)) (w.drew.alloc (.cells (news.toArray++Builtin.zeroCells z.cells (grownCap w n 0 e-n)) e)):=by
 cases a0 with
 | none=>exact run_append_nil w t ty e i z ht hi hz a n c news hl HS h0 HT HU
 | some b=>
  have:=run_append_grow (P:=P) w t ty e i z ht hi hz b 0 0 [] (by simp) (by simp) a n c news hl HS (by omega) (by omega) (by rw[je,nextslicecap_zero h0];omega)
  simpa using this
theorem MW (S:aQ P w I β hp B M w0) {t ty e:TypeId} {nb:Nat} {x:Value} {xs:List V} (hu:P.underlying t=some (.slice e)) (aw:dm P e=true) (hn:hp nb=none)
  (fe:xs.length*P.bytesOf e≤db) {a0:Option Addr} (hx:((∃a,x= .slice a 0 0)∧xs=[])∨∃a c news,Row P w I e x xs a c news):
  ∃v w' β',(Builtin.append_ #[t,t] ty #[.slice a0 0 0,x]).run P w= .ok v w'∧Le P w I β hp w' I β' (bd hp nb (some (.arr e xs false)))∧aQ P w' I β' (bd hp nb (some (.arr e xs false))) B M w0∧
   aq P w' I β' (bd hp nb (some (.arr e xs false))) v (.whole e nb):=by
 obtain ⟨i,z,hi,hz,h3,h4,_⟩:=lL aw
 have wA:=zq aw
 have mn:P.bytesOf e=i.bytes:=by simp[Program.bytesOf,hi]
 have hlen:xs.length≤2^45:=by
  have:xs.length*1≤xs.length*P.bytesOf e:=vL _ wA
  simp only[db] at fe
  omega
 have empty:xs=[]→(∃a c,x= .slice a 0 c)→∃v w' β',(Builtin.append_ #[t,t] ty #[.slice a0 0 0,x]).run P w= .ok v w'∧Le P w I β hp w' I β' (bd hp nb (some (.arr e xs false)))∧aQ P w' I β' (bd hp nb (some (.arr e xs false))) B M w0∧
   aq P w' I β' (bd hp nb (some (.arr e xs false))) v (.whole e nb):=by
  intro iG MX
  subst iG
  obtain ⟨a1,a2⟩:=Hu S e hn
  exact ⟨_,_,_,VA hu hi a0 0 0 x MX (bC _),a1,a2,.eo (dq _ _ _) (dq _ _ _)⟩
 rcases hx with ⟨⟨_,rfl⟩,rfl⟩|⟨a,c,news,hr⟩
 ·exact empty rfl ⟨_,_,rfl⟩
 ·by_cases h0:xs.length=0
  ·have iG:xs=[]:=mY h0
   refine empty iG ⟨some a,c,?_⟩
   rw[hr.val,h0]
  ·have dr:=ae6 (P:=P) w t ty e i z hu hi hz a0 a xs.length c news (by rw[hr.len,h3]) hr.cell (by omega) (by omega) (by rw[←mn];simp only[db] at fe;omega)
   have rb:=grownCap_ge w xs.length 0 e
   have wB:grownCap w xs.length 0 e≤maxLen:=grownCap_le_maxLen w xs.length 0 e (by simp only[maxLen];omega)
   obtain ⟨n1,n2,n3⟩:=zM S.drew (nb:=nb) (cap:=grownCap w xs.length 0 e) (es:=xs) (C0:=news.toArray++Builtin.zeroCells z.cells (grownCap w xs.length 0 e-xs.length)) aw hn
    (by simp only[GJ,si,size_zeroCells,h4,hr.len,←dU];congr 1;omega) rb wB
    (fun i' j y t' hy ht hj=>by
     obtain ⟨u,fu,hp⟩:=hr.el i' j y t' hy ht hj
     have aR:=(bL.1 fu).1
     refine ⟨u,?_,Pure.drew hp⟩
     rw[Array.getElem?_append_left (by simpa using aR)]
     simpa using fu)
   rw[hr.val]
   exact ⟨_,_,_,dr,(Le.drew w I β hp).trans n1,n2,n3⟩
theorem ae7 (S:aQ P w I β hp B M w0) {t ty e:TypeId} {nb:Nat} {s x:Value} {sv xv:V} {r:R} {rd:List Nat} (hu:P.underlying t=some (.slice e)) (hs:aq P w I β hp s sv) (hx:aq P w I β hp x xv)
  (h:(zg P nb e sv xv).run C hp=some (r,rd)):dt P ((Builtin.append_ #[t,t] ty #[s,x]).run P w) w I β hp B M w0 r:=by
 unfold zg at h
 obtain ⟨aw,h⟩:=aU h
 obtain ⟨xs,nk,l0,h⟩:=HQ S.h.rel aw hx h
 cases sv with
 | nilS e'=>
  obtain ⟨hc,h⟩:=aU h
  simp only[aT,bq,fa] at hc
  obtain ⟨hn,rfl⟩:=oT h
  obtain ⟨a0,rfl⟩: ∃a0,s= .slice a0 0 0:=by cases hs;exact ⟨_,rfl⟩
  obtain ⟨v,w',β',a1,a2,a3,a4⟩:=MW (ty:=ty) S hu aw hn hc.2 nk
  exact ⟨v,w',I,β',a1,a2,a3,a4⟩
 | whole e' id=>
  obtain ⟨l,h⟩:=run_get h
  cases af:hp id with
  | none=>rw[af] at h;cases h
  | some blk=>
   rw[af] at h
   cases blk with
   | dead=>cases h
   | var _=>cases h
   | nest _ _ _=>cases h
   | map _ _=>cases h
   | arr ek es fz=>
    cases fz with
    | true=>cases h
    | false=>
     obtain ⟨hc,h⟩:=aU h
     obtain ⟨hn,rfl⟩:=oT h
     simp only[aT,bq,fa] at hc
     obtain ⟨MY,MZ,fe⟩:=hc
     subst MY
     subst MZ
     have bO:nb≠id:=fun e=>by rw[e,af] at hn;cases hn
     obtain ⟨k1,k2⟩:=Hv S af
     have lM:bd hp id (some an.dead) nb=none:=by rw[eN _ _ bO];exact hn
     cases hs with
     | eL hd=>rw[af] at hd;cases hd
     | eU hd=>rw[af] at hd;cases hd
     | eo hd hb=>
      rw[af] at hd
      cases hd
      simp only[List.length_nil,je] at fe
      have ae8:((∃a,x= .slice a 0 0)∧xs=[])∨∃a c news,Row P w I e x xs a c news:=nk
      obtain ⟨v,w',β',a1,a2,a3,a4⟩:=MW (ty:=ty) k2 hu aw lM fe ae8
      exact ⟨v,w',I,β',a1,k1.trans a2,a3,a4⟩
     | @whole _ _ bf oH b cap hd hb bw cG hm=>
      rw[af] at hd
      cases hd
      have hr:=S.h.rel id _ af
      cases hr with
      | ep aI=>rw[aI] at hb;cases hb
      | @arr _ _ _ b' Ca _ aI hh rh hf eM nY=>
       rw[hb] at aI
       cases aI
       obtain ⟨i,z,hi,hz,h3,h4,_⟩:=lL aw
       have wA:=zq aw
       have mn:P.bytesOf e=i.bytes:=by simp[Program.bytesOf,hi]
       have hlen:es.length+xs.length≤2^45:=by
        have:(es.length+xs.length)*1≤(es.length+xs.length)*P.bytesOf e:=vL _ wA
        simp only[db] at fe
        omega
       rw[oK hh] at bw
       have sK: ∀aN blk',bd hp id (some an.dead) aN=some blk'→¬bN P w (β aN) blk' b:=by
        intro aN blk' h1 h2
        by_cases jT:aN=id
        ·subst jT;rw[dq] at h1;cases h1;exact h2.alive rfl
        ·rw[eN _ _ jT] at h1
         exact jT (S.h.inj aN id blk' _ b h1 af h2 (.root (by simp) hb))
       have M0:=S.h.uy id _ b af (by simp) hb
       have room: ∀(C':Array Value) (w':World) (ys:List V),w'.heap[b]? =some (.cells C' e (0,0))→C'.size=Ca.size→(∀b',b'≠b→w'.heap[b']? =w.heap[b']?)→w.heap.size≤w'.heap.size→(w'.os=w.os∧w'.output=w.output)→ys.length≤cap→
         (∀(i j:Nat) (y:V) (t':TypeId),ys[i]? =some y→(bx P e)[j]? =some t'→j<P.cellsOf e→∃v,C'[i*P.cellsOf e+j]? =some v∧Pure P w I t' v (ch P e y j))→
         Le P w I β hp w' I (bd β nb (some b)) (bd (bd hp id (some .dead)) nb (some (.arr e ys false)))∧aQ P w' I (bd β nb (some b)) (bd (bd hp id (some .dead)) nb (some (.arr e ys false))) B M w0∧
         aq P w' I (bd β nb (some b)) (bd (bd hp id (some .dead)) nb (some (.arr e ys false))) (.slice (some ⟨b,0,none⟩) ys.length cap) (.whole e nb):=by
        intro C' w' ys hC pS hw' hwz ae9 wu hy
        obtain ⟨a1,a2⟩:=CE k2 (blk:= .arr e ys false) (w':=w') lM sK (eM rfl) (fun b' h _=>hw' b' h) hwz ae9 M0
         (fun b' h=>(dh (h.flat (by simp))).symm) (fun hle=> .arr aw rfl hC (by rw[pS,←bw];exact eC _ wu) (fun h=>by cases h) (fun _=>eM rfl) fun i j y t' a b c=>by
          obtain ⟨v,hv,hp⟩:=hy i j y t' a b c
          exact ⟨v,hv,hp.mono hle.dN hle.cl⟩)
        refine ⟨k1.trans a1,a2,.whole (dq _ _ _) (dq _ _ _) ?_ wu hm⟩
        rw[oK hC,pS,bw]
       have same:xs=[]→(∃a c,x= .slice a 0 c)→dt P ((Builtin.append_ #[t,t] ty #[.slice (some ⟨b,0,none⟩) es.length cap,x]).run P w) w I β hp B M w0 ⟨.whole e nb,[(nb,.arr e (es++xs) false),(id,.dead)]⟩:=by
        intro iG MX
        subst iG
        rw[di]
        obtain ⟨a1,a2,a3⟩:=room Ca w es hh rfl (fun _ _=>rfl) (bC _) ⟨rfl,rfl⟩ cG nY
        exact ⟨_,_,_,_,VA hu hi _ _ _ x MX cG,a1,a2,a3⟩
       rcases nk with ⟨⟨_,rfl⟩,rfl⟩|⟨a,c,news,cO⟩
       ·exact same rfl ⟨_,_,rfl⟩
       ·have h1:=cO.one aw
        have nj:es.length*P.cellsOf e≤Ca.toList.length:=by simpa using rh
        by_cases uJ:es.length+xs.length≤cap
        ·have CS:es.length*P.cellsOf e+news.length≤Ca.size:=by rw[cO.len,←dU,←bw];exact eC _ uJ
         have dr:=run_append_room (P:=P) w t ty e i hu hi b es.length cap Ca hh a xs.length c news (by rw[cO.len,h3]) cO.cell h1 uJ (by rw[h3];exact CS)
         rw[h3] at dr
         have cH:=HR (P:=P) (w:=w) (I:=I) (n:=es.length) (c:=Ca.toList) rfl (fun i j y t' a b c=>by
          obtain ⟨v,hv,hp⟩:=nY i j y t' a b c
          exact ⟨v,by simpa using hv,hp⟩) cO.el nj (Ca.toList.drop (es.length*P.cellsOf e+news.length))
         obtain ⟨a1,a2,a3⟩:=room (Ca.toList.take (es.length*P.cellsOf e)++news++Ca.toList.drop (es.length*P.cellsOf e+news.length)).toArray (w.setRow b _) (es++xs)
          (setRow_heap w b Ca _ e _ hh) (by simp;omega) (fun b' aI=>setRow_other w b b' _ aI) (by simp) ⟨rfl,rfl⟩ (by simpa using uJ)
          (fun i j y t' a b c=>by
           obtain ⟨v,hv,hp⟩:=cH i j y t' a b c
           exact ⟨v,by simpa using hv,hp⟩)
         rw[cO.val]
         rw[cg] at a3
         exact ⟨_,_,_,_,dr,a1,a2,a3⟩
        ·have hold: ∀(j:Nat) v,(Ca.toList.take (es.length*P.cellsOf e))[j]? =some v→w.cell? ((⟨b,0,none⟩:Addr).add j)=some v:=by
          intro j v hj
          have cy:=(bL.1 hj).1
          have jq:j<es.length*P.cellsOf e:=by rw[fb] at cy;omega
          rw[fT jq] at hj
          rw[oQ,cell?_cells hh,je]
          simpa using hj
         have dr:=run_append_grow (P:=P) w t ty e i z hu hi hz ⟨b,0,none⟩ es.length cap (Ca.toList.take (es.length*P.cellsOf e)) (by rw[h3];simp;omega) hold a xs.length c news (by rw[cO.len,h3]) cO.cell (by omega) (by omega)
          (growslice_fits (by omega) (by rw[←mn];simp only[db] at fe;omega))
         have rb:=grownCap_ge w (es.length+xs.length) cap e
         have wB:grownCap w (es.length+xs.length) cap e≤maxLen:=grownCap_le_maxLen w _ cap e (by simp only[maxLen];omega)
         have cH:=HR (P:=P) (w:=w) (I:=I) (n:=es.length) (c:=Ca.toList) rfl (fun i j y t' a b c=>by
          obtain ⟨v,hv,hp⟩:=nY i j y t' a b c
          exact ⟨v,by simpa using hv,hp⟩) cO.el nj (Builtin.zeroCells z.cells (grownCap w (es.length+xs.length) cap e-(es.length+xs.length))).toList
         obtain ⟨n1,n2,n3⟩:=zM k2.drew (nb:=nb) (cap:=grownCap w (es.length+xs.length) cap e) (es:=es++xs)
          (C0:=(Ca.toList.take (es.length*P.cellsOf e)).toArray++news.toArray++Builtin.zeroCells z.cells (grownCap w (es.length+xs.length) cap e-(es.length+xs.length))) aw lM
          (by
           have e1:(Ca.toList.take (es.length*P.cellsOf e)).length=es.length*P.cellsOf e:=by simp;omega
           simp only[GJ,si,size_zeroCells,h4,cO.len,e1,←dU];congr 1;omega) (by simpa using rb) wB
          (fun i j y t' a b c=>by
           obtain ⟨v,hv,hp⟩:=cH i j y t' a b c
           refine ⟨v,?_,Pure.drew hp⟩
           rw[←ua]
           simpa using hv)
         rw[cO.val]
         rw[cg] at n3
         exact ⟨_,_,_,_,dr,(k1.trans (Le.drew w I β _)).trans n1,n2,n3⟩
 | _=>cases h
end
section
variable {P:Program} {w w':World} {I I':Nat→Prop} {β β':Nat→Option Nat} {hp hp':Nat→Option an} {C:ae} {B:Nat} {M:Nat→Prop} {w0:Start}
theorem run_copy_none (w:World) {dT sT ty elem:TypeId} {i:TypeInfo} (a0:Option Addr) (VB afa:Nat) (a1:Option Addr) (VC afb:Nat) (hu:P.underlying dT=some (.slice elem)) (hi:P.info? elem=some i) (h0:Nat.min VC VB=0):
  (Builtin.copy_ #[dT,sT] ty #[.slice a0 VB afa,.slice a1 VC afb]).run P w= .ok (goInt 0) w:=by
 cases a0<;>cases a1<;>simp[Builtin.copy_,run_underlying hu,Builtin.lenOf,Builtin.firstCells,sizeOf,typeInfo,hi,h0,storeCells,loadCells,loadCellsFrom]
theorem afc (S:aQ P w I β hp B M w0) {t u ty e:TypeId} {s x:Value} {sv xv:V} {r:R} {rd:List Nat} (hu:P.underlying t=some (.slice e)) (hs:aq P w I β hp s sv) (hx:aq P w I β hp x xv)
  (h:(L9 P e sv xv).run C hp=some (r,rd)):dt P ((Builtin.copy_ #[t,u] ty #[s,x]).run P w) w I β hp B M w0 r:=by
 unfold L9 at h
 obtain ⟨aw,h'⟩:=aU h
 clear h
 simp only[aT,bq] at aw
 obtain ⟨aw,h1⟩:=aw
 obtain ⟨xs,nk,l0,h⟩:=HQ S.h.rel aw hx h'
 obtain ⟨i,z,hi,hz,bw,_⟩:=lL aw
 cases sv<;>simp only at h<;>first|(cases h;done)|skip
 rename_i e' id
 obtain ⟨l,h2⟩:=run_get h
 clear h
 cases af:hp id with
 | none=>rw[af] at h2;cases h2
 | some blk=>
  rw[af] at h2
  cases blk<;>simp only at h2<;>first|(cases h2;done)|skip
  rename_i e2 es fz
  cases fz with
  | true=>cases h2
  | false=>
  obtain ⟨hc,h3⟩:=aU h2
  simp only[aT,bq] at hc
  obtain ⟨rfl,rfl⟩:=hc
  obtain rfl:=bj h3
  have oU:min xs.length es.length=0→(Builtin.copy_ #[t,u] ty #[s,x]).run P w= .ok (goInt 0) w→dt P ((Builtin.copy_ #[t,u] ty #[s,x]).run P w) w I β hp B M w0 ⟨.int .i64 (min xs.length es.length:Nat),[(id,.arr e (xs.take es.length++es.drop xs.length) false)]⟩:=by
   intro h0 hr
   have he:xs.take es.length++es.drop xs.length=es:=by
    rcases Nat.le_total xs.length es.length with hl|hl
    ·have:xs=[]:=mY (by omega)
     simp[this]
    ·have:es=[]:=mY (by omega)
     simp[this]
   have ic:cd hp [(id,.arr e (xs.take es.length++es.drop xs.length) false)]=hp:=by
    rw[he];exact Mj hp id _ af
   refine ⟨goInt 0,w,I,β,hr,?_⟩
   simp only[ic,h0]
   exact ⟨Le.refl w I β hp,S,.int⟩
  cases hs with
  | eL hd=>rw[af] at hd;cases hd
  | eU hd=>rw[af] at hd;cases hd
  | @eo _ _ fz a hd hb=>
   rw[af] at hd
   cases hd
   refine oU (by simp) ?_
   rcases nk with ⟨⟨a',rfl⟩,rfl⟩|⟨a',c,news,cO⟩
   ·exact run_copy_none w _ _ _ _ _ _ hu hi (by simp)
   ·rw[cO.val];exact run_copy_none w _ _ _ _ _ _ hu hi (by simp)
  | @whole _ _ bf oH b cap hd hb CT cG hm=>
   have ft:=hd
   rw[af] at hd
   cases hd
   rcases nk with ⟨⟨a',rfl⟩,rfl⟩|⟨a',c,news,cO⟩
   ·exact oU (by simp) (run_copy_none w _ _ _ _ _ _ hu hi (by simp))
   have hr:=S.h.rel id _ af
   cases hr with
   | ep aI=>rw[aI] at hb;cases hb
   | @arr _ _ _ b' Ca _ aI hh rh hf eM nY=>
    rw[hb] at aI
    cases aI
    have nV:news.length=xs.length:=by rw[cO.len,h1,oC]
    rw[h1,oC] at rh
    have nn:(news.take es.length).length=Nat.min xs.length es.length:=by
     rw[fb,nV,Nat.min_comm]
    have HV:Nat.min xs.length es.length=min xs.length es.length:=rfl
    have dr:=run_copy_row (P:=P) w t u ty e b 0 es.length cap a' xs.length c Ca e (news.take es.length) hu (by rw[hi];simp[bw,h1]) hh nn
     (fun j v hj=>cO.cell j v (by
      have:=(bL.1 hj).1
      rw[fb] at this
      rwa [fT (by omega)] at hj)) (by rw[nn,HV];omega) (fun v hv=>cO.one aw v (GK hv))
    rw[cO.val]
    have hq:(goInt (news.take es.length).length)= .int .i64 ((min xs.length es.length:Nat):Int):=by rw[nn];rfl
    have ku:(xs.take es.length++es.drop xs.length).length=es.length:=by simp;omega
    have pS:(Ca.toList.take 0++news.take es.length++Ca.toList.drop (0+(news.take es.length).length)).toArray.size=Ca.size:=by
     simp only[si,cg,qE,fb,nn,HV]
     simp
     omega
    obtain ⟨a1,a2⟩:=HF S (blk':= .arr e (xs.take es.length++es.drop xs.length) false) (Cb:=(Ca.toList.take 0++news.take es.length++Ca.toList.drop (0+(news.take es.length).length)).toArray) af (by simp) ⟨rfl,ku.symm⟩ hb (eM rfl) (by simp) hh pS
     (fun hle fL=> .arr aw rfl fL (by rw[pS,ku,h1,oC];exact rh) (fun h=>by cases h) (fun _=>eM rfl) fun i j y t' hy ht hj=>by
      rw[h1] at hj⊢
      obtain rfl:j=0:=by omega
      rw[oC,Nat.add_zero]
      have mo:=(bL.1 hy).1
      rw[ku] at mo
      by_cases c8:i<xs.length
      ·rw[ln (by rw[fb];omega),fT mo] at hy
       obtain ⟨u',k1,k2⟩:=cO.el i 0 y t' hy ht (by omega)
       rw[h1,oC,Nat.add_zero] at k1
       refine ⟨u',?_,k2.mono hle.dN hle.cl⟩
       simp only[List.take_zero,List.nil_append,oB]
       rw[ln (by rw[fb];omega),fT mo]
       exact k1
      ·have e1:(xs.take es.length).length=xs.length:=by rw[fb];omega
       rw[jG (by omega),e1,jc,show xs.length+(i-xs.length)=i by omega] at hy
       obtain ⟨u',k1,k2⟩:=nY i 0 y t' hy ht (by omega)
       rw[h1,oC,Nat.add_zero] at k1
       refine ⟨u',?_,k2.mono hle.dN hle.cl⟩
       simp only[List.take_zero,List.nil_append,oB,je]
       have e2:(news.take es.length).length=xs.length:=by rw[fb];omega
       rw[jG (by omega),e2,jc,show xs.length+(i-xs.length)=i by omega]
       simpa using k1)
    exact ⟨_,_,_,_,dr,a1,a2,by rw[hq];exact .int⟩
theorem afd (S:aQ P w I β hp B M w0) {t ty e:TypeId} {x:Value} {xv:V} {r:R} {rd:List Nat} (hu:P.underlying t=some (.slice e)) (hx:aq P w I β hp x xv)
  (h:(L8 P e xv).run C hp=some (r,rd)):dt P ((Builtin.clear_ #[t] ty #[x]).run P w) w I β hp B M w0 r:=by
 unfold L8 at h
 obtain ⟨cH,h'⟩:=aU h
 clear h
 have aw:dm P e=true:=by
  unfold nM at cH;simp only[aT] at cH;exact cH.1
 obtain ⟨i,z,hi,hz,bw,CU,sV⟩:=CR (w:=w) (I:=I) cH
 have jL:=(lH aw).2
 cases xv<;>simp only at h'<;>first|(cases h';done)|skip
 rename_i e' id off len
 obtain ⟨l,h2⟩:=run_get h'
 clear h'
 cases af:hp id with
 | none=>rw[af] at h2;cases h2
 | some blk=>
  rw[af] at h2
  cases blk<;>simp only at h2<;>first|(cases h2;done)|skip
  rename_i e2 es fz
  cases fz with
  | true=>cases h2
  | false=>
  obtain ⟨hc,h3⟩:=aU h2
  simp only[aT,bq] at hc
  obtain ⟨rfl,rfl⟩:=hc
  obtain rfl:=bj h3
  have oU:len=0→(Builtin.clear_ #[t] ty #[x]).run P w= .ok (.tuple #[]) w→dt P ((Builtin.clear_ #[t] ty #[x]).run P w) w I β hp B M w0 ⟨.bJ [],[(id,.arr e (es.take off++(List.replicate len (cM P e (fp P e))++es.drop (off+len))) false)]⟩:=by
   intro h0 hr
   subst h0
   have ic:cd hp [(id,.arr e (es.take off++(List.replicate 0 (cM P e (fp P e))++es.drop (off+0))) false)]=hp:=by
    simp only[List.replicate_zero,List.nil_append,Nat.add_zero,GL]
    exact Mj hp id _ af
   refine ⟨.tuple #[],w,I,β,hr,?_⟩
   simp only[ic]
   exact ⟨Le.refl w I β hp,S,.bJ rfl fun j v x hj hx=>by simp at hx⟩
  cases hx with
  | ia hd=>rw[af] at hd;cases hd
  | @gN _ _ _ a0 hd hb=>exact oU rfl (by cases a0<;>simp[Builtin.clear_,run_underlying hu])
  | @sub _ _ _ _ bf oH b o cap hd hb lG cG ho=>
   by_cases hlen:len=0
   ·refine oU hlen ?_
    subst hlen
    simp[Builtin.clear_,run_underlying hu]
   have afe:0<len:=by omega
   have ft:=hd
   rw[af] at hd
   cases hd
   have hr:=S.h.rel id _ af
   cases hr with
   | ep aI=>rw[aI] at hb;cases hb
   | @arr _ _ _ b' Ca _ aI hh rh hf eM nY=>
    rw[hb] at aI
    cases aI
    have ho:=ho afe
    subst ho
    have wy:(Builtin.zeroCells z.cells len).toList.length=len*P.cellsOf e:=by rw[Array.length_toList,size_zeroCells,CU]
    have hmul:off*P.cellsOf e+len*P.cellsOf e≤es.length*P.cellsOf e:=by rw[←dU];exact eC _ lG
    have pR: ∀v∈(Builtin.zeroCells z.cells len).toList,v.oneCell'=true:=by
     intro v hv
     obtain ⟨k,hk⟩:=tX hv
     have kV:=(bL.1 hk).1
     rw[wy] at kV
     have hzg:(Builtin.zeroCells z.cells len)[k]? =z.cells[k %z.cells.size]? :=Vx (z:=z.cells) (n:=len*z.cells.size) (by rw[CU];exact kV) (by rw[CU];exact jL)
     rw[ua,hzg] at hk
     have hm:k %z.cells.size<P.cellsOf e:=by rw[CU];exact yU _ jL
     have htl:k %z.cells.size<(bx P e).length:=by rw[gu aw];exact hm
     obtain ⟨v',zz,hp'⟩:=sV (k %z.cells.size) _ (cq htl) hm
     rw[hk] at zz
     cases zz
     generalize ch P e (cM P e (fp P e)) (k %z.cells.size)=y at hp'
     cases hp'<;>rfl
    have bz:=run_storeCells_at P b (off*P.cellsOf e) e (Builtin.zeroCells z.cells len).toList 0 Ca w hh (by rw[wy];omega) pR
    simp only[Nat.add_zero] at bz
    have dr:(Builtin.clear_ #[t] ty #[.slice (some ⟨b,off*P.cellsOf e,none⟩) len cap]).run P w= .ok (.tuple #[]) (w.setRow b (Ca.toList.take (off*P.cellsOf e)++(Builtin.zeroCells z.cells len).toList++Ca.toList.drop (off*P.cellsOf e+(Builtin.zeroCells z.cells len).toList.length)).toArray):=by
     obtain ⟨n,rfl⟩: ∃n,len=n+1:=⟨len-1,by omega⟩
     simp[Builtin.clear_,run_underlying hu,zeroValue,typeInfo,hi,hz,bz]
    have ku:(es.take off++(List.replicate len (cM P e (fp P e))++es.drop (off+len))).length=es.length:=by simp;omega
    have pS:(Ca.toList.take (off*P.cellsOf e)++(Builtin.zeroCells z.cells len).toList++Ca.toList.drop (off*P.cellsOf e+(Builtin.zeroCells z.cells len).toList.length)).toArray.size=Ca.size:=by
     simp only[si,cg,qE,fb,wy,Array.length_toList]
     omega
    obtain ⟨a1,a2⟩:=HF S (blk':= .arr e (es.take off++(List.replicate len (cM P e (fp P e))++es.drop (off+len))) false) af (by simp) ⟨rfl,ku.symm⟩ hb (eM rfl) (by simp) hh pS
     (fun hle fL=> .arr aw rfl fL (by rw[pS,ku];exact rh) (fun h=>by cases h) (fun _=>eM rfl) fun i' j y t' hy ht hj=>by
      have mq:=oR es (List.replicate len (cM P e (fp P e))) off i' (by simp;omega)
      rw[pD] at mq
      rw[mq] at hy
      have hC:(Ca.toList.take (off*P.cellsOf e)++(Builtin.zeroCells z.cells len).toList++Ca.toList.drop (off*P.cellsOf e+(Builtin.zeroCells z.cells len).toList.length)).toArray[i'*P.cellsOf e+j]? =
        if i'*P.cellsOf e+j<off*P.cellsOf e then Ca.toList[i'*P.cellsOf e+j]? else if i'*P.cellsOf e+j<off*P.cellsOf e+len*P.cellsOf e then (Builtin.zeroCells z.cells len).toList[i'*P.cellsOf e+j-off*P.cellsOf e]? else Ca.toList[i'*P.cellsOf e+j]? :=by
       have:=oR Ca.toList (Builtin.zeroCells z.cells len).toList (off*P.cellsOf e) (i'*P.cellsOf e+j) (by rw[wy,Array.length_toList];omega)
       rw[oB,da,this,wy]
      by_cases zN:i'<off
      ·rw[ai zN] at hy
       have:(i'+1)*P.cellsOf e≤off*P.cellsOf e:=eC _ zN
       rw[dU] at this
       rw[aF] at hC
       obtain ⟨u,k1,k2⟩:=nY i' j y t' hy ht hj
       exact ⟨u,hC.trans (by simpa using k1),k2.mono hle.dN hle.cl⟩
      ·rw[aj zN] at hy
       have h1:off*P.cellsOf e≤i'*P.cellsOf e:=eC _ (by omega)
       rw[aD] at hC
       by_cases fv:i'<off+len
       ·rw[ai fv] at hy
        have:(i'+1)*P.cellsOf e≤(off+len)*P.cellsOf e:=eC _ fv
        rw[dU,dU] at this
        rw[aF] at hC
        obtain ⟨v,k1,k2⟩:=HP (w:=w) (I:=I) cH hi hz len len (bC _) (i'-off) j y t' hy ht hj
        refine ⟨v,hC.trans ?_,k2.mono hle.dN hle.cl⟩
        rw[show i'*P.cellsOf e+j-off*P.cellsOf e=(i'-off)*P.cellsOf e+j by rw[Nat.sub_mul];omega,ua]
        unfold Builtin.zeroCells
        rw[CU] at k1⊢
        exact k1
       ·rw[aj fv] at hy
        have:(off+len)*P.cellsOf e≤i'*P.cellsOf e:=eC _ (by omega)
        rw[dU] at this
        rw[aD] at hC
        obtain ⟨u,k1,k2⟩:=nY i' j y t' hy ht hj
        exact ⟨u,hC.trans (by simpa using k1),k2.mono hle.dN hle.cl⟩)
    exact ⟨_,_,_,_,dr,a1,a2,.bJ rfl fun j v x hj hx=>by simp at hx⟩
end
section
variable {P:Program} {w w':World} {I I':Nat→Prop} {β β':Nat→Option Nat} {hp hp':Nat→Option an} {C:ae} {B:Nat} {M:Nat→Prop} {w0:Start}
theorem aff (S:aQ P w I β hp B M w0) {s:TypeId} {f:Nat} {v:Value} {x:V} {r:R} {rd:List Nat} (hv:aq P w I β hp v x)
  (h:(Mc P s f x).run C hp=some (r,rd)):dt P ((Instr.field s v f).run P w) w I β hp B M w0 r:=by
 unfold Mc G4 at h
 split at h
 ·rename_i fs hu
  cases hf:fs[f]? with
  | none=>rw[hf] at h;cases h
  | some fd=>
   rw[hf] at h
   simp only[zh] at h
   obtain ⟨ht,h⟩:=aU h
   obtain ⟨d,wC⟩:=CI ht
   obtain ⟨i,hi⟩:=zx wC
   have bw:i.size=P.cellsOf fd.type:=by simp[Program.cellsOf,hi]
   cases x with
   | agg xs=>
    obtain ⟨cs,rfl,h1,h2⟩:=hv.mj
    dsimp only at h
    cases ha:b7 P fd.type with
    | true=>
     rw[ha] at h
     simp only[cond_true] at h
     obtain ⟨hc,h⟩:=aU h
     obtain rfl:=bj h
     rw[fa] at hc
     refine .same S (v:= .agg (cs.extract fd.offset (fd.offset+P.cellsOf fd.type))) ?_ (.agg (by simp;omega) fun j u y fu hy=> ?_)
     ·simp[Instr.field,run_underlying hu,hf,part,My wC,ha,asAgg,sizeOf,typeInfo,hi,bw]
     ·have hj:j<P.cellsOf fd.type:=by
       have:=(jd.1 fu).1
       simp at this;omega
      rw[fT hj,jc] at hy
      refine h2 (fd.offset+j) u y ?_ hy
      rw[Array.getElem?_extract] at fu
      split at fu
      ·exact fu
      ·cases fu
    | false=>
     rw[ha] at h
     simp only[cond_false] at h
     obtain ⟨y,hy,h⟩:=nf h
     obtain rfl:=bj h
     have aR:fd.offset<cs.size:=by rw[h1];exact (bL.1 hy).1
     refine .same S (v:=cs[fd.offset]) ?_ (h2 _ _ _ (l8 aR) hy)
     simp[Instr.field,run_underlying hu,hf,part,My wC,ha,asAgg,aR]
   | _=>cases h
 ·cases h
theorem afg (S:aQ P w I β hp B M w0) {i:Nat} {v:Value} {xs:List V} {r:R} {rd:List Nat} (hv:aq P w I β hp v (.bJ xs))
  (h:(Rd.opt xs[i]? fun v=> .ret ⟨v,[]⟩).run C hp=some (r,rd)):dt P ((Instr.extract v i).run P w) w I β hp B M w0 r:=by
 obtain ⟨cs,rfl,h1,h2⟩:=hv.wg
 obtain ⟨y,hy,h⟩:=nf h
 obtain rfl:=bj h
 have aR:i<cs.size:=by rw[h1];exact (bL.1 hy).1
 exact .same S (v:=cs[i]) (by simp[Instr.extract,aR]) (h2 _ _ _ (l8 aR) hy)
theorem afh (S:aQ P w I β hp B M w0) {t:TypeId} {s:ByteArray} {l:List UInt8} {k:IntKind} {i:Int} {r:R} {rd:List Nat} (hu:P.underlying t=some .string) (hs:s.data.toList=l)
  (h:(Rd.opt (bif decide (0≤i) then (l[i.toNat]?).map fun b=>V.int .u8 b.toNat else none) fun v=> .ret ⟨.int .u8 v.toInt,[]⟩).run C hp=some (r,rd)):
  dt P ((Instr.index t (.string s) (.int k i)).run P w) w I β hp B M w0 r:=by
 obtain ⟨v,hv,h⟩:=nf h
 obtain rfl:=bj h
 cases hc:decide (0≤i) with
 | false=>rw[hc] at hv;cases hv
 | true=>
  rw[hc] at hv
  simp only[cond_true] at hv
  have h0:0≤i:=by simpa using hc
  cases hb:l[i.toNat]? with
  | none=>rw[hb] at hv;cases hv
  | some b=>
   rw[hb] at hv
   simp only[Option.map_some,eb] at hv
   subst hv
   have hsb:s[i.toNat]? =some b:=by
    subst hs
    obtain ⟨aR,he⟩:=bL.1 hb
    have M1:i.toNat<s.size:=by simpa using aR
    rw[getElem?_pos s i.toNat M1]
    congr 1
   refine .same S (v:= .int .u8 b.toNat) ?_ .int
   simp[Instr.index,asIntOf,run_underlying hu,h0,hsb]
theorem M3 (S:aQ P w I β hp B M w0) (mx:Bool): ∀{vs:List Value} {xs:List V} {v:Value} {x:V} {r:R} {rd:List Nat},aq P w I β hp v x→vs.length=xs.length→
  (∀(j:Nat) u y,vs[j]? =some u→xs[j]? =some y→aq P w I β hp u y)→(zi mx x xs).run C hp=some (r,rd)→
  dt P ((vs.foldlM (if mx then Builtin.max2 else Builtin.min2) v).run P w) w I β hp B M w0 r
 | [],[],v,x,r,rd,hv,_,_,h=>by
  have:r=⟨x,[]⟩:=by
   cases x<;>(simp only[zi] at h;exact (bj h).symm)
  subst this
  exact .same S (by simp) hv
 | [],_::_,v,x,r,rd,hv,hl,_,h=>by simp at hl
 | _::_,[],v,x,r,rd,hv,hl,_,h=>by simp at hl
 | u::vs,y::xs,v,x,r,rd,hv,hl,hx,h=>by
  cases x<;>cases y<;>simp only[zi] at h<;>first|(cases h;done)|skip
  rename_i k a k' b
  obtain ⟨hc,h4⟩:=aU h
  clear h
  obtain rfl:k=k':=by simpa using hc
  have hu:=hx 0 u _ rfl rfl
  rw[hv.eD,hu.eD]
  have ih:=M3 S mx (vs:=vs) (xs:=xs) (v:= .int k (bif mx then (if b>a then b else a) else (if b<a then b else a))) .int (by simpa using hl)
   (fun j u y h1 h2=>hx (j+1) u y (by simpa using h1) (by simpa using h2)) h4
  cases mx with
  | true=>simpa[List.foldlM_cons,Builtin.max2] using ih
  | false=>simpa[List.foldlM_cons,Builtin.min2] using ih
theorem sW {n cap:Nat} {isS:Bool} {lo hi:Option V} {lov hiv:Option Value} {k:Nat→Nat→Rd R} {r:R} {rd:List Nat} (hn:n≤cap)
  (iH: ∀x,lo=some x→∃v,lov=some v∧aq P w I β hp v x) (gP: ∀x,hi=some x→∃v,hiv=some v∧aq P w I β hp v x) (oW:lo=none→lov=none) (pT:hi=none→hiv=none)
  (h:(uq n lo hi k).run C hp=some (r,rd)): ∃l u,l≤u∧u≤n∧(Instr.sliceBounds isS n cap lov hiv none).run P w= .ok (l,u,cap) w∧(k l u).run C hp=some (r,rd):=by
 have ok: ∀(kk:IntKind) (i:Int) (y:Nat) (c:BoundsCode),0≤i→i≤y→(Instr.sliceBound (.int kk i) y c).run P w= .ok i.toNat w:=by
  intro kk i y c h1 h2
  simp[Instr.sliceBound,asIntOf,h1,h2]
 unfold uq at h
 cases lo with
 | none=>
  rw[oW rfl]
  cases hi with
  | none=>
   rw[pT rfl]
   exact ⟨0,n,fS _,bC _,by simp[Instr.sliceBounds],h⟩
  | some x=>
   obtain ⟨v,rfl,hv⟩:=gP x rfl
   cases x<;>simp only at h<;>first|(cases h;done)|skip
   rename_i kk u
   obtain ⟨hc,h⟩:=aU h
   simp only[aT,dC] at hc
   rw[hv.eD]
   have:=ok kk u cap (if isS then .sliceAcap else .sliceAlen) hc.1 (by omega)
   exact ⟨0,u.toNat,fS _,by omega,by simp[Instr.sliceBounds,this],h⟩
 | some x=>
  obtain ⟨v,rfl,hv⟩:=iH x rfl
  cases hi with
  | none=>
   rw[pT rfl]
   cases x<;>simp only at h<;>first|(cases h;done)|skip
   rename_i kk l
   obtain ⟨hc,h⟩:=aU h
   simp only[aT,dC] at hc
   rw[hv.eD]
   have:=ok kk l n .sliceB hc.1 (by omega)
   exact ⟨l.toNat,n,by omega,bC _,by simp[Instr.sliceBounds,this],h⟩
  | some y=>
   obtain ⟨v2,rfl,sI⟩:=gP y rfl
   cases x<;>cases y<;>simp only at h<;>first|(cases h;done)|skip
   rename_i kk l kk2 u
   obtain ⟨hc,h⟩:=aU h
   simp only[aT,dC] at hc
   rw[hv.eD,sI.eD]
   have h1:=ok kk2 u cap (if isS then .sliceAcap else .sliceAlen) (by omega) (by omega)
   have h2:=ok kk l u.toNat .sliceB hc.1 (by omega)
   exact ⟨l.toNat,u.toNat,by omega,by omega,by simp[Instr.sliceBounds,h1,h2],h⟩
theorem HW {a:Option Addr} {t e:TypeId} {i:TypeInfo} (hu:P.underlying t=some (.slice e)) (hi:P.info? e=some i) {lov hiv:Option Value}
  (hb:(Instr.sliceBounds true 0 0 lov hiv none).run P w= .ok (0,0,0) w):(Instr.sliceAt t (.slice a 0 0) lov hiv none).run P w= .ok (.slice a 0 0) w:=by
 cases a<;>simp[Instr.sliceAt,Instr.slice,run_underlying hu,hb,sizeOf,typeInfo,hi]
theorem M4 {t e:TypeId} {i:TypeInfo} {b o len cap l u:Nat} (hu:P.underlying t=some (.slice e)) (hi:P.info? e=some i) {lov hiv:Option Value} (huc:u≤cap)
  (hb:(Instr.sliceBounds true len cap lov hiv none).run P w= .ok (l,u,cap) w): ∃o',(0<u-l→o'=o+l*i.size)∧(Instr.sliceAt t (.slice (some ⟨b,o,none⟩) len cap) lov hiv none).run P w= .ok (.slice (some ⟨b,o',none⟩) (u-l) (cap-l)) w:=by
 by_cases hc:cap=l
 ·subst hc
  refine ⟨o,fun h=>by omega,?_⟩
  ·simp[Instr.sliceAt,Instr.slice,run_underlying hu,hb,sizeOf,typeInfo,hi]
 ·refine ⟨o+l*i.size,fun _=>rfl,?_⟩
  simp[Instr.sliceAt,Instr.slice,run_underlying hu,hb,sizeOf,typeInfo,hi,hc,oQ]
theorem afi (s:ByteArray) (l:List UInt8) (h:s.data.toList=l) (a b:Nat):(s.extract a b).data.toList=(l.drop a).take (b-a):=by
 subst h
 simp[ByteArray.data_extract]
theorem afj (S:aQ P w I β hp B M w0) {t:TypeId} {v:Value} {x:V} {lo hi:Option V} {lov hiv:Option Value} {r:R} {rd:List Nat} (hv:aq P w I β hp v x)
  (iH: ∀x,lo=some x→∃v,lov=some v∧aq P w I β hp v x) (gP: ∀x,hi=some x→∃v,hiv=some v∧aq P w I β hp v x) (oW:lo=none→lov=none) (pT:hi=none→hiv=none)
  (h:(Ha P t x lo hi).run C hp=some (r,rd)):dt P ((Instr.sliceAt t v lov hiv none).run P w) w I β hp B M w0 r:=by
 unfold Ha at h
 cases hu:P.underlying t with
 | none=>rw[hu] at h;cases h
 | some d=>
  rw[hu] at h
  cases d<;>simp only at h<;>first|(cases h;done)|skip
  case string=>
   cases x<;>simp only at h<;>first|(cases h;done)|skip
   rename_i l
   obtain ⟨s,rfl,hs⟩:=hv.nT
   have bw:l.length=s.size:=by rw[←hs];simp
   obtain ⟨a,u,h1,h2,h3,h4⟩:=sW (isS:=false) (cap:=s.size) (by omega) iH gP oW pT h
   obtain rfl:=bj h4
   rw[bw] at h3
   refine .same S (v:= .string (s.extract a u)) ?_ (.str (afi s l hs a u))
   simp[Instr.sliceAt,Instr.slice,run_underlying hu,h3]
  case slice e=>
   cases x<;>simp only at h<;>first|(cases h;done)|skip
   case list e' es=>
    obtain ⟨hc,h⟩:=aU h
    simp only[aT,bq] at hc
    obtain ⟨er,aw⟩:=hc
    obtain ⟨i,z,dX,_,bw,_⟩:=lL aw
    cases hv with
    | list hp'=>
     cases hp' with
     | nil=>
      obtain ⟨a,u,h1,h2,h3,h4⟩:=sW (n:=0) (isS:=true) (cap:=0) (bC _) iH gP oW pT h
      obtain rfl:=bj h4
      obtain rfl:u=0:=by omega
      obtain rfl:a=0:=by omega
      exact .same S (HW hu dX h3) (by simpa using aq.list jK.nil)
     | @emp ad cap=>
      obtain ⟨a,u,h1,h2,h3,h4⟩:=sW (n:=0) (isS:=true) (cap:=cap) (fS _) iH gP oW pT h
      obtain rfl:=bj h4
      obtain rfl:u=0:=by omega
      obtain rfl:a=0:=by omega
      refine .same S (v:= .slice (some ad) 0 cap) ?_ (by simpa using aq.list jK.emp)
      by_cases hc:cap=0
      ·subst hc
       simp[Instr.sliceAt,Instr.slice,run_underlying hu,h3,sizeOf,typeInfo,dX]
      ·simp[Instr.sliceAt,Instr.slice,run_underlying hu,h3,sizeOf,typeInfo,dX,hc,Addr.add]
     | @list b o len cap _ g hl cG hI ib hx=>
      obtain ⟨a,u,h1,h2,h3,h4⟩:=sW (isS:=true) (cap:=cap) (by omega) iH gP oW pT h
      obtain rfl:=bj h4
      rw[hl] at h2 h3
      obtain ⟨o',nS,dr⟩:=M4 (b:=b) (o:=o) hu dX (by omega) h3
      have iI:e=e':=er
      refine .same S dr (.list ?_)
      rw[←iI]
      rw[←iI] at ib hx hI
      have hlen:((es.drop a).take (u-a)).length=u-a:=by simp;omega
      refine .list (fun i j=>g (a+i) j) hlen (by omega) (fun h=>hI (mX h (eC _ (by omega)))) (fun i j hi hj=> ?_) (fun i j y t' hy ht=> ?_)
      ·have:=ib (a+i) j (by omega) hj
       rw[dU,pB,←pB o] at this
       rw[nS (by omega),bw]
       exact this
      ·have hi:i<u-a:=by rw[←hlen];exact (bL.1 hy).1
       rw[fT hi,jc] at hy
       exact hx (a+i) j y t' hy ht
   case whole e' id=>
    obtain ⟨l,h⟩:=run_get h
    cases af:hp id with
    | none=>rw[af] at h;cases h
    | some blk=>
     rw[af] at h
     cases blk<;>simp only at h<;>first|(cases h;done)|skip
     rename_i ek es fz
     obtain ⟨hc,h9⟩:=aU h
     clear h
     simp only[aT,bq] at hc
     obtain ⟨er,jM,aw⟩:=hc
     obtain ⟨i,z,dX,_,bw,_⟩:=lL aw
     cases hv with
     | eL hd=>rw[af] at hd;cases hd
     | eU hd=>rw[af] at hd;cases hd
     | eo hd hb=>
      rw[af] at hd
      cases hd
      obtain ⟨a,u,h1,h2,h3,h4⟩:=sW (n:=0) (isS:=true) (cap:=0) (bC _) iH gP oW pT h9
      obtain rfl:=bj h4
      obtain rfl:u=0:=by omega
      obtain rfl:a=0:=by omega
      exact .same S (HW hu dX h3) (.gN af hb)
     | @whole _ _ bf oH b cap hd hb CT cG hm=>
      have ft:=hd
      rw[af] at hd
      cases hd
      obtain ⟨a,u,h1,h2,h3,h4⟩:=sW (isS:=true) (cap:=cap) cG iH gP oW pT h9
      obtain rfl:=bj h4
      obtain ⟨o',nS,dr⟩:=M4 (b:=b) (o:=0) hu dX (by omega) h3
      have iI:e=e':=er
      exact .same S dr (.sub ft hb (by omega) (by omega) (fun h=>by rw[nS h,bw,iI,je]))
   case sub e' id off len=>
    obtain ⟨l,h⟩:=run_get h
    cases af:hp id with
    | none=>rw[af] at h;cases h
    | some blk=>
     rw[af] at h
     cases blk<;>simp only at h<;>first|(cases h;done)|skip
     rename_i ek es fz
     obtain ⟨hc,h⟩:=aU h
     simp only[aT,bq] at hc
     obtain ⟨er,jM,aw⟩:=hc
     obtain ⟨i,z,dX,_,bw,_⟩:=lL aw
     cases hv with
     | ia hd=>rw[af] at hd;cases hd
     | gN hd hb=>
      have ft:=hd
      obtain ⟨a,u,h1,h2,h3,h4⟩:=sW (isS:=true) (cap:=0) (bC _) iH gP oW pT h
      obtain rfl:=bj h4
      obtain rfl:u=0:=by omega
      obtain rfl:a=0:=by omega
      exact .same S (HW hu dX h3) (.gN ft hb)
     | @sub _ _ _ _ bf oH b o cap hd hb lG cG ho=>
      have ft:=hd
      obtain ⟨a,u,h1,h2,h3,h4⟩:=sW (isS:=true) (cap:=cap) cG iH gP oW pT h
      obtain rfl:=bj h4
      obtain ⟨o',nS,dr⟩:=M4 (b:=b) (o:=o) hu dX (by omega) h3
      have iI:e=e':=er
      exact .same S dr (.sub ft hb (by omega) (by omega) (fun h=>by rw[nS h,bw,ho (by omega),iI,dU]))
theorem afk (S:aQ P w I β hp B M w0) {t:TypeId} {v:Value} {x:V} {lo hi mx:Option V} {lov hiv VD:Option Value} {r:R} {rd:List Nat} (hv:aq P w I β hp v x)
  (iH:lo=none→lov=none) (gP: ∀y,hi=some y→∃u,hiv=some u∧aq P w I β hp u y) (oN: ∀y,mx=some y→∃u,VD=some u∧aq P w I β hp u y)
  (h:(Ma P t x lo hi mx).run C hp=some (r,rd)):dt P ((Instr.sliceAt t v lov hiv VD).run P w) w I β hp B M w0 r:=by
 unfold Ma at h
 cases hu:P.underlying t with
 | none=>rw[hu] at h;cases h
 | some d=>
  rw[hu] at h
  cases d<;>(try (cases h;done))
  rename_i e
  cases lo<;>(try (cases h;done))
  cases hi<;>(try (cases h;done))
  rename_i zO
  cases zO<;>(try (cases h;done))
  cases mx<;>(try (cases h;done))
  rename_i mv1
  cases mv1<;>(try (cases h;done))
  obtain ⟨hc,h9⟩:=aU h
  clear h
  have h:=h9
  clear h9
  simp only[aT,dC] at hc
  obtain ⟨rfl,rfl,aw⟩:=hc
  obtain ⟨i,z,dX,_,_,_⟩:=lL aw
  obtain ⟨u1,rfl,k1⟩:=gP _ rfl
  obtain ⟨u2,rfl,k2⟩:=oN _ rfl
  rw[k1.eD,k2.eD,iH rfl]
  have run: ∀{k k2:IntKind} (a:Option Addr) (len cap:Nat),(Instr.sliceAt t (.slice a len cap) none (some (.int k 0)) (some (.int k2 0))).run P w= .ok (.slice a 0 0) w:=by
   intro k k2 a len cap
   cases a<;>simp[Instr.sliceAt,Instr.slice,Instr.sliceBounds,Instr.sliceBound,asIntOf,run_underlying hu,sizeOf,typeInfo,dX]
  cases x<;>(try (cases h;done))
  ·simp only at h
   obtain rfl:=bj h
   cases hv with
   | list hp'=>cases hp'<;>exact .same S (run _ _ _) .nilS
  ·simp only at h
   obtain rfl:=bj h
   cases hv
   exact .same S (run _ _ _) .nilS
  ·rename_i e' id
   simp only at h
   obtain ⟨l,h⟩:=run_get h
   cases af:hp id with
   | none=>rw[af] at h;cases h
   | some blk=>
    rw[af] at h
    cases blk<;>simp only at h<;>first|(cases h;done)|skip
    all_goals
     obtain rfl:=bj h
     cases hv with
     | eL hd=>rw[af] at hd;cases hd
     | eU hd=>exact .same S (run _ _ _) .nilS
     | eo hd hb=>exact .same S (run _ _ _) .nilS
     | whole hd=>exact .same S (run _ _ _) .nilS
theorem afl (S:aQ P w I β hp B M w0) {t:TypeId} {v ix:Value} {x y:V} {r:R} {rd:List Nat} (hv:aq P w I β hp v x) (hy:aq P w I β hp ix y)
  (h:(Md P t x y).run C hp=some (r,rd)):dt P ((Instr.indexAt t v ix).run P w) w I β hp B M w0 r:=by
 unfold Md at h
 cases hu:P.underlying t with
 | none=>rw[hu] at h;cases h
 | some d=>
  rw[hu] at h
  cases y<;>(try (cases d<;>cases h;done))
  rename_i k i
  rw[hy.eD]
  cases d<;>simp only at h<;>first|(cases h;done)|skip
  case slice e=>
   have run: ∀(b o len cap:Nat) (ie:TypeInfo),P.info? e=some ie→0≤i→i<(len:Int)→(Instr.indexAt t (.slice (some ⟨b,o,none⟩) len cap) (.int k i)).run P w= .ok (.pointer (some ⟨b,o+i.toNat*ie.size,none⟩)) w:=by
    intro b o len cap ie js h0 h1
    simp[Instr.indexAt,asIntOf,run_underlying hu,h0,h1,sizeOf,typeInfo,js,oQ]
   cases x<;>simp only at h<;>first|(cases h;done)|skip
   case list e' es=>
    obtain ⟨hc,h⟩:=aU h
    simp only[aT,bq] at hc
    obtain ⟨er,aw⟩:=hc
    have iI:e=e':=er
    obtain ⟨ie,z,dX,_,bw,_⟩:=lL aw
    obtain ⟨el,cH,h⟩:=nf h
    obtain rfl:=bj h
    unfold idx at cH
    cases h0:decide (0≤i) with
    | false=>rw[h0] at cH;cases cH
    | true=>
     rw[h0] at cH
     simp only[cond_true] at cH
     have h0':0≤i:=by simpa using h0
     have aR:i.toNat<es.length:=(bL.1 cH).1
     cases hv with
     | list hp'=>
      cases hp' with
      | nil=>simp at aR
      | emp=>simp at aR
      | @list b o len cap _ g hl cG hI ib hx=>
       rw[←iI] at ib hx hI
       refine .same S (run b o len cap ie dX h0' (by omega)) ?_
       have ct:=zy (P:=P) e el
       have M5:=gu aw
       have VE:(bif b7 P e then flat P e else [e])=bx P e:=rfl
       rw[VE]
       refine .pref (by rw[ct]) (fun _=>hI ?_) (fun j t' y' ht CF=> ?_)
       ·have:=yR (show 0<len by omega) (lH aw).2
        exact this
       ·obtain ⟨t2,a1,a2⟩:=Mz CF
        rw[ht] at a1;cases a1
        have hj:j<P.cellsOf e:=by rw[←M5];exact (bL.1 ht).1
        have iR:=hx i.toNat j el t' cH ht
        refine ⟨g i.toNat j,?_,?_⟩
        ·rw[bw,pB];exact ib i.toNat j (by omega) hj
        ·rw[a2,iR.uD];exact iR
   case whole e' id=>
    obtain ⟨l,h⟩:=run_get h
    cases af:hp id with
    | none=>rw[af] at h;cases h
    | some blk=>
     rw[af] at h
     cases blk<;>simp only at h<;>first|(cases h;done)|skip
     rename_i ek es fz
     obtain ⟨hc,h⟩:=aU h
     simp only[aT,bq] at hc
     obtain ⟨er,jM⟩:=hc
     obtain ⟨fw,h⟩:=aU h
     simp only[aT,dC] at fw
     obtain rfl:=bj h
     cases hv with
     | eL hd=>rw[af] at hd;cases hd
     | eU hd=>rw[af] at hd;cases hd
     | eo hd hb=>rw[af] at hd;cases hd;simp at fw;omega
     | @whole _ _ bf oH b cap hd hb CT cG hm=>
      have ft:=hd
      rw[af] at hd
      cases hd
      have hr:=S.h.rel id _ af
      cases hr with
      | ep aI=>rw[aI] at hb;cases hb
      | arr aw aI hh hs hf eM hx=>
       have iI:e=e':=er
       obtain ⟨ie,z,dX,_,bw,_⟩:=lL aw
       rw[←iI] at dX bw
       refine .same S (run b 0 _ cap ie dX fw.1 fw.2) ?_
       have:=aq.ptr (P:=P) (w:=w) (I:=I) (i:=i.toNat) (c:=0) ft (by simp) hb
       simp only[an.sz] at this
       rw[je,bw,iI]
       simpa using this
     rename_i ek es av
     obtain ⟨hc,h⟩:=aU h
     simp only[aT,bq] at hc
     obtain ⟨er,jM⟩:=hc
     obtain ⟨fw,h⟩:=aU h
     simp only[aT,dC] at fw
     obtain rfl:=bj h
     cases hv with
     | eL hd=>rw[af] at hd;cases hd
     | eo hd hb=>rw[af] at hd;cases hd
     | whole hd=>rw[af] at hd;cases hd
     | @eU _ _ bf vers' b cap hd hb CT cG hm=>
      have ft:=hd
      rw[af] at hd
      cases hd
      have aw:=(S.rows ft hb .here).ok
      have iI:e=e':=er
      obtain ⟨ie,z,dX,_,bw,_⟩:=lL aw
      rw[←iI] at dX bw
      refine .same S (run b 0 _ cap ie dX fw.1 fw.2) ?_
      have:=aq.ptr (P:=P) (w:=w) (I:=I) (i:=i.toNat) (c:=0) ft (by simp) hb
      simp only[an.sz] at this
      rw[je,bw,iI]
      simpa using this
   case row e' id ver path=>
    obtain ⟨e0,es,av,l,af,h1,h2,h3,h⟩:=pO h
    obtain ⟨e2,v',k1,k2,h⟩:=zr h
    obtain ⟨hc,h⟩:=aU h
    simp only[aT,bq] at hc
    obtain ⟨er,jM⟩:=hc
    obtain ⟨fw,h⟩:=aU h
    simp only[aT,dC] at fw
    obtain rfl:=bj h
    cases hv with
    | kR hd hp'=>rw[af] at hd;cases hd;exact absurd hp' (zt h1 h2 h3)
    | @row v _ e0 t1 _ ver b i1 c1 q es l1 av hd hb hq MM ht ib=>
     have afm:=ib
     obtain ⟨b',e3,bf,Ca,T,f,x,m1,m2,m3,m4,m5,m6⟩:=ib
     have fK:=hd
     rw[af] at fK
     cases fK
     obtain ⟨n1,n2⟩:=Hr m1 m3 m4 ht m5
     rw[n2] at k2
     cases k2
     simp only[V.toList] at fw
     have hR:=S.rows hd hb m1
     obtain ⟨C1,c2,c3,c4⟩:=hR.cells
     rw[m2] at c2
     cases c2
     have hj:c1<P.cellsOf e3:=by
      rw[←gu hR.ok];exact (bL.1 m4).1
     obtain ⟨v2,d1,d2⟩:=c4 _ _ _ _ m3 m4 hj
     rw[m6] at d1
     cases d1
     rw[m5] at d2
     cases d2 with
     | gM a _=>unfold gH at a;rw[ht] at a;cases a
     | emp _ _=>simp at fw;omega
     | @row _ _ b1 cap _ hl _ _ _=>
      have aw:=(S.rows hd hb (m1.snoc m2 m3 m4 ht m5 hl m6)).ok
      have iI:e=e':=er
      obtain ⟨ie,z,dX,_,bw,_⟩:=lL aw
      rw[←iI] at dX bw
      refine .same S (run b1 0 _ cap ie dX fw.1 fw.2) ?_
      have:=aq.cY (P:=P) (I:=I) (i:=i.toNat) (c:=0) hd hb hq MM ht hl afm
      rw[je,bw,iI]
      simpa using this
   case sub e' id off len=>
    obtain ⟨l,h⟩:=run_get h
    cases af:hp id with
    | none=>rw[af] at h;cases h
    | some blk=>
     rw[af] at h
     cases blk<;>simp only at h<;>first|(cases h;done)|skip
     rename_i ek es fz
     obtain ⟨hc,h⟩:=aU h
     simp only[aT,bq] at hc
     obtain ⟨er,jM⟩:=hc
     obtain ⟨fw,h⟩:=aU h
     simp only[aT,dC] at fw
     obtain rfl:=bj h
     cases hv with
     | ia hd=>rw[af] at hd;cases hd
     | gN hd hb=>simp at fw;omega
     | @sub _ _ _ _ bf oH b o cap hd hb lG cG ho=>
      have ft:=hd
      rw[af] at hd
      cases hd
      have hr:=S.h.rel id _ af
      cases hr with
      | ep aI=>rw[aI] at hb;cases hb
      | arr aw aI hh hs hf eM hx=>
       have iI:e=e':=er
       obtain ⟨ie,z,dX,_,bw,_⟩:=lL aw
       rw[←iI] at dX bw
       refine .same S (run b o _ cap ie dX fw.1 fw.2) ?_
       have:=aq.ptr (P:=P) (w:=w) (I:=I) (i:=off+i.toNat) (c:=0) ft (by simp) hb
       simp only[an.sz] at this
       rw[ho (by omega),bw,iI,←dU]
       simpa using this
  case array n e=>
   have run: ∀(b o:Nat) (ie:TypeInfo),P.info? e=some ie→0≤i→i<(n:Int)→(Instr.indexAt t (.pointer (some ⟨b,o,none⟩)) (.int k i)).run P w= .ok (.pointer (some ⟨b,o+i.toNat*ie.size,none⟩)) w:=by
    intro b o ie js h0 h1
    simp[Instr.indexAt,asIntOf,run_underlying hu,h0,h1,sizeOf,typeInfo,js,oQ,Instr.sureAddr]
   cases x<;>simp only at h<;>first|(cases h;done)|skip
   case ptr id j c=>
    obtain ⟨⟨blk,af,hd⟩,l,h⟩:=zw h
    obtain ⟨fw,h⟩:=aU h
    simp only[aT,dC] at fw
    obtain rfl:=bj h
    obtain ⟨b,hb,rfl⟩:=hv.iT af hd
    obtain ⟨d,wC⟩:=CI fw.1
    obtain ⟨ie,js⟩:=zx wC
    have bw:ie.size=P.cellsOf e:=by simp[Program.cellsOf,js]
    refine .same S (run b _ ie js fw.2.1 fw.2.2) ?_
    rw[bw,pB]
    exact .ptr af hd hb
   case pref ts cs=>
    obtain ⟨fw,h⟩:=aU h
    simp only[aT,dC] at fw
    obtain rfl:=bj h
    obtain ⟨b,o,rfl,h1,h2,h3⟩:=hv.Hz
    obtain ⟨d,wC⟩:=CI fw.1
    obtain ⟨ie,js⟩:=zx wC
    have bw:ie.size=P.cellsOf e:=by simp[Program.cellsOf,js]
    refine .same S (run b _ ie js fw.2.1 fw.2.2) ?_
    rw[bw]
    exact aq.UY h1 h2 h3
end
end Go.AM
namespace Go.AM
open Go.Maps
section
variable {P:Program} {w w':World} {I I':Nat→Prop} {β β':Nat→Option Nat} {hp hp':Nat→Option an} {C:ae} {B:Nat} {M:Nat→Prop} {w0:Start}
theorem afn (S:aQ P w I β hp B M w0) {nb:Nat} {t:TypeId} {v:Value} {x:V} {lo hi:Option V} {lov hiv:Option Value} {r:R} {rd:List Nat} (hv:aq P w I β hp v x)
  (gP: ∀x,hi=some x→∃v,hiv=some v∧aq P w I β hp v x) (oW:lo=none→lov=none)
  (h:(Hb P nb t x lo hi).run C hp=some (r,rd)):dt P ((Instr.sliceAt t v lov hiv none).run P w) w I β hp B M w0 r:=by
 unfold Hb at h
 split at h
 case h_2=>cases h
 rename_i e e' id k hh hu
 obtain ⟨l,h1⟩:=run_get h
 cases af:hp id with
 | none=>rw[af] at h1;cases h1
 | some blk=>
  rw[af] at h1
  cases blk<;>simp only at h1<;>first|(cases h1;done)|skip
  rename_i e2 es fz
  cases fz with
  | true=>cases h1
  | false=>
  obtain ⟨hc,h2⟩:=aU h1
  simp only[aT,bq,dC] at hc
  obtain ⟨rfl,rfl,aw,VF,VG⟩:=hc
  obtain ⟨hn,rfl⟩:=oT h2
  have iH:=oW rfl
  subst iH
  obtain ⟨M6,rfl,hhv⟩:=gP _ rfl
  obtain rfl:=hhv.eD
  obtain ⟨i,z,dX,_,bw,_⟩:=lL aw
  have bO:nb≠id:=fun e=>by rw[e,af] at hn;cases hn
  obtain ⟨k1,k2⟩:=Hv S af
  have lM:bd hp id (some an.dead) nb=none:=by rw[eN _ _ bO];exact hn
  have VH: ∀cap,es.length≤cap→(Instr.sliceBounds true es.length cap none (some (.int k hh)) none).run P w= .ok (0,hh.toNat,cap) w:=by
   intro cap cG
   have hb:(uq es.length none (some (.int k hh)) fun l u=> .aM (decide (l=0∧u=hh.toNat)) (.ret (⟨.undef,[]⟩:R))).run C hp=some (⟨.undef,[]⟩,[]):=by
    simp[uq,Rd.run,VF,VG]
   obtain ⟨l,u,b1,b2,b3,b4⟩:=sW (P:=P) (w:=w) (I:=I) (β:=β) (hp:=hp) (n:=es.length) (isS:=true) (cap:=cap) (lov:=none) (hiv:=some (.int k hh)) cG (by simp) (fun x hx=>by cases hx;exact ⟨_,rfl,.int⟩) (fun _=>rfl) (by simp) hb
   obtain ⟨b5,_⟩:=aU b4
   simp only[dC] at b5
   obtain ⟨rfl,rfl⟩:=b5
   exact b3
  cases hv with
  | eL hd=>rw[af] at hd;cases hd
  | eU hd=>rw[af] at hd;cases hd
  | @eo _ _ _ a0 hd hb=>
   rw[af] at hd
   cases hd
   have MF:hh=0:=by simpa using Int.le_antisymm VG VF
   subst MF
   have aI:=VH 0 (bC _)
   obtain ⟨a1,a2⟩:=Hu k2 e lM
   refine ⟨_,w,I,_,HW hu dX aI,k1.trans a1,a2,.eo (dq _ _ _) (dq _ _ _)⟩
  | @whole _ _ bf oH b cap hd hb CT cG hm=>
   have ft:=hd
   rw[af] at hd
   cases hd
   have hr:=S.h.rel id _ af
   cases hr with
   | ep aI=>rw[aI] at hb;cases hb
   | @arr _ _ _ b' Ca _ aI HX rh hf eM nY=>
    rw[hb] at aI
    cases aI
    have ku:(es.take hh.toNat).length=hh.toNat:=by rw[fb];omega
    have dr:(Instr.sliceAt t (.slice (some ⟨b,0,none⟩) es.length cap) none (some (.int k hh)) none).run P w= .ok (.slice (some ⟨b,0,none⟩) hh.toNat cap) w:=by
     have aI:=VH cap cG
     by_cases HY:cap=0
     ·subst HY
      simp[Instr.sliceAt,Instr.slice,run_underlying hu,aI,sizeOf,typeInfo,dX]
     ·simp[Instr.sliceAt,Instr.slice,run_underlying hu,aI,sizeOf,typeInfo,dX,HY,oQ]
    have sK: ∀aN blk',bd hp id (some an.dead) aN=some blk'→¬bN P w (β aN) blk' b:=by
     intro aN blk' h1 h2
     by_cases jT:aN=id
     ·subst jT;rw[dq] at h1;cases h1;exact h2.alive rfl
     ·rw[eN _ _ jT] at h1
      exact jT (S.h.inj aN id blk' _ b h1 af h2 (.root (by simp) hb))
    obtain ⟨a1,a2⟩:=CE k2 (blk:= .arr e (es.take hh.toNat) false) (w':=w) lM sK (eM rfl) (fun _ _ _=>rfl) (bC _) ⟨rfl,rfl⟩ (S.h.uy id _ b af (by simp) hb)
     (fun b' h=>(dh (h.flat (by simp))).symm) (fun hle=> .arr aw rfl HX (by rw[ku];exact jb (eC _ (by omega)) rh) (fun h=>by cases h) (fun _=>eM rfl) fun i j y t' hy ht hj=>by
      have mo:=(bL.1 hy).1
      rw[ku] at mo
      rw[fT mo] at hy
      obtain ⟨v,hv,hp⟩:=nY i j y t' hy ht hj
      exact ⟨v,hv,hp.mono hle.dN hle.cl⟩)
    refine ⟨_,w,I,_,dr,k1.trans a1,a2,?_⟩
    have:=aq.whole (P:=P) (w:=w) (I:=I) (β:=bd β nb (some b)) (hp:=bd (bd hp id (some .dead)) nb (some (.arr e (es.take hh.toNat) false))) (cap:=cap) (dq _ _ _) (dq _ _ _) CT (by rw[ku];omega) hm
    rw[ku] at this
    exact this
theorem sX {t:TypeId} {x:V} (h:qP P t x=true):
  (∃q n,P.underlying t=some (.int q)∧x= .int q n∧L4 q n=true)∨(∃b,P.underlying t=some .bool∧x= .bool b)∨(∃s,P.underlying t=some .string∧x= .str s∧s.length≤maxLen):=by
 unfold qP at h
 split at h
 ·rename_i q q' n hu
  simp only[aT,dC] at h
  obtain ⟨rfl,h⟩:=h
  exact .inl ⟨_,_,hu,rfl,h⟩
 ·rename_i b hu
  exact .inr (.inl ⟨_,hu,rfl⟩)
 ·rename_i s hu
  exact .inr (.inr ⟨_,hu,rfl,by simpa using h⟩)
 ·cases h
theorem size_data (s:ByteArray):s.data.toList.length=s.size:=by simp
theorem afo {q:IntKind} {n:Int} (h:L4 q n=true):(Lit.int q n).wf=true:=h
theorem VI {t:TypeId} {x:V} {v:Value} (h:qP P t x=true) (hv:kq v x): ∃l,mapKey P t v=some l∧∀d,P.keyLits (d+1) t [v]=some [l]:=by
 rcases sX h with ⟨q,n,hu,rfl,hn⟩|⟨b,hu,rfl⟩|⟨s,hu,rfl,hs⟩
 ·obtain rfl:v= .int q n:=hv
  have hw:=afo hn
  exact ⟨.int q n,by simp[mapKey,hu,hw],fun d=>by simp[Program.keyLits,hu,hw]⟩
 ·obtain rfl:v= .bool b:=hv
  exact ⟨.bool b,by simp[mapKey,hu],fun d=>by simp[Program.keyLits,hu]⟩
 ·obtain ⟨s',rfl,M7⟩:=hv
  have:s'.size≤maxLen:=by rw[←size_data,M7];exact hs
  exact ⟨.string s'.data.toList,by simp[mapKey,hu,this],fun d=>by simp[Program.keyLits,hu,this]⟩
theorem M8 {t:TypeId}: ∀{xs:List V} {j:Nat} {x:V},sy P t xs=true→xs[j]? =some x→qP P t x=true
 | [],j,x,_,h=>by simp at h
 | y::ys,0,x,h,hx=>by
  simp only[sy,aT] at h
  simp at hx;subst hx;exact h.1
 | y::ys,j+1,x,h,hx=>by
  simp only[sy,aT] at h
  exact M8 (j:=j) h.2 (by simpa using hx)
theorem mapM_some {α β:Type} {f:α→Option β}: ∀{l:List α},(∀a∈l,∃b,f a=some b)→∃bs,l.mapM f=some bs
 | [],_=>⟨[],rfl⟩
 | a::l,h=>by
  obtain ⟨b,hb⟩:=h a (ub ..)
  obtain ⟨bs,iS⟩:=mapM_some (l:=l) fun x hx=>h x (mZ _ hx)
  exact ⟨b::bs,by simp[List.mapM_cons,hb,iS]⟩
inductive M9 (P:Program) (t:TypeId) (x:V):Prop
 | one:qP P t x=true→x.cells=[x]→M9 P t x
 | arr {n:Nat} {e:TypeId} {xs:List V}:x= .agg xs→WideMaps.ArrKey P t e n→xs.length=n→0<P.types.size→sy P e xs=true→M9 P t x
theorem zP {t:TypeId} {x:V} (h:oF P t x=true):M9 P t x:=by
 unfold oF at h
 split at h
 ·rename_i n e xs hu
  simp only[aT,bq] at h
  rw[ll] at h
  exact .arr rfl ⟨hu,h.2.2.2.1,h.2.1,h.2.2.1⟩ h.1 h.2.2.2.2.1 h.2.2.2.2.2
 ·refine .one h ?_
  rcases sX h with ⟨q,n,hu,rfl,hn⟩|⟨b,hu,rfl⟩|⟨s,hu,rfl,hs⟩<;>rfl
theorem sF.one {x:V} {v:Value} (h:sF v x) (hx:x.cells=[x]):kq v x:=by
 cases x<;>first|exact h|skip
 simp only[V.cells] at hx
 rename_i cs
 have:=congrArg List.length hx
 cases cs with
 | nil=>simp at hx
 | cons c cs=>
  simp only[List.cons.injEq] at hx
  have:=congrArg SizeOf.sizeOf hx.1
  simp at this
  omega
theorem HZ {t:TypeId} {x:V} {v:Value} (h:oF P t x=true) (hv:sF v x): ∃l,Go.keyOf P t v=some l:=by
 cases zP h with
 | one h1 hx=>
  obtain ⟨l,hl,_⟩:=VI h1 (hv.one hx)
  refine ⟨l,?_⟩
  rcases sX h1 with ⟨q,n,hu,_⟩|⟨b,hu,_⟩|⟨s,hu,_⟩<;>simp only[Go.keyOf,hu,hl]
 | @arr n e xs hx A hl hp0 hf=>
  subst hx
  obtain ⟨cs,rfl,hs,hc⟩:=hv
  obtain ⟨m,hm⟩: ∃m,P.types.size=m+1:=⟨P.types.size-1,by omega⟩
  have hkt:=A.keyType ⟨m,hm⟩
  have hlen:cs.toList.length=P.cellsOf t:=by rw[A.size];simp[hs,hl]
  have hfm:(Value.agg cs).formed P t=true:=by simp[Value.formed,A.hu,A.size,hs,hl]
  have hex: ∀i∈List.range n,∃y,P.keyLits (m+1) e (((Value.agg cs).cells.toList.drop (i*P.cellsOf e)).take (P.cellsOf e))=some y:=by
   intro i hi
   have hi:=yV.1 hi
   rw[A.one]
   have gy:i<cs.size:=by omega
   have c8:i<xs.length:=by omega
   obtain ⟨l,_,h2⟩:=VI (M8 hf (cq c8)) (hc i cs[i] xs[i] (l8 gy) (cq c8))
   have e1:((Value.agg cs).cells.toList.drop (i*1)).take 1=[cs[i]]:=by
    show (cs.toList.drop (i*1)).take 1=_
    rw[oC,List.drop_eq_getElem_cons (by simpa using gy)]
    simp
   rw[e1]
   exact ⟨_,h2 m⟩
  obtain ⟨bs,iS⟩:=mapM_some hex
  refine ⟨.string (keyBytes bs.flatten),?_⟩
  have afp:(Value.agg cs).cells.toList.length=P.cellsOf t:=hlen
  unfold Go.keyOf
  rw[A.hu]
  simp only[hkt,hfm,Bool.and_self,cL]
  unfold Program.keyLits
  rw[A.hu,hm]
  simp only[afp,cL,iS,Option.map_some]
theorem Na {t:TypeId} {x:V} (h:oF P t x=true):Keyed P t:=by
 cases zP h with
 | one h1 hx=>
  rcases sX h1 with ⟨q,n,hu,_⟩|⟨b,hu,_⟩|⟨s,hu,_⟩
  ·exact int_keyed hu
  ·exact bool_keyed hu
  ·exact string_keyed hu
 | arr hx A hl _ hf=>exact Keyed.of_law A.law
theorem VJ {t:TypeId} {x y:V} {v u:Value} (h1:qP P t x=true) (h2:qP P t y=true) (hv:kq v x) (hu:kq u y):B7 x y=true↔v=u:=by
 rcases sX h1 with ⟨q,n,nZ,rfl,_⟩|⟨b,nZ,rfl⟩|⟨s,nZ,rfl,_⟩<;>
 rcases sX h2 with ⟨q',n',n0,rfl,_⟩|⟨b',n0,rfl⟩|⟨s',n0,rfl,_⟩<;>
  (rw[nZ] at n0;cases n0)
 ·obtain rfl:v= .int q n:=hv
  obtain rfl:u= .int q n':=hu
  simp[B7]
 ·obtain rfl:v= .bool b:=hv
  obtain rfl:u= .bool b':=hu
  simp[B7]
 ·obtain ⟨s1,rfl,e1⟩:=hv
  obtain ⟨s2,rfl,e2⟩:=hu
  simp only[B7,beq_iff_eq,Value.string.injEq,←e1,←e2]
  constructor
  ·intro h
   have:=Array.toList_inj.1 h
   cases s1;cases s2;simp_all
  ·rintro rfl;rfl
theorem VK {t:TypeId}: ∀{xs ys:List V} {vs us:List Value},sy P t xs=true→sy P t ys=true→xs.length=ys.length→vs.length=xs.length→us.length=ys.length→
  (∀(j:Nat) v x,vs[j]? =some v→xs[j]? =some x→kq v x)→(∀(j:Nat) v x,us[j]? =some v→ys[j]? =some x→kq v x)→(zf xs ys=true↔vs=us)
 | [],[],vs,us,_,_,_,h1,h2,_,_=>by
  have e1:=mY (l:=vs) (by simpa using h1)
  have e2:=mY (l:=us) (by simpa using h2)
  simp[zf,e1,e2]
 | [],_::_,_,_,_,_,h,_,_,_,_=>by simp at h
 | _::_,[],_,_,_,_,h,_,_,_,_=>by simp at h
 | x::xs,y::ys,[],us,_,_,_,h,_,_,_=>by simp at h
 | x::xs,y::ys,v::vs,[],_,_,_,_,h,_,_=>by simp at h
 | x::xs,y::ys,v::vs,u::us,f1,f2,h,h1,h2,r1,r2=>by
  simp only[sy,aT] at f1 f2
  have a:=VJ f1.1 f2.1 (r1 0 v x rfl rfl) (r2 0 u y rfl rfl)
  have b:=VK (vs:=vs) (us:=us) f1.2 f2.2 (by simpa using h) (by simpa using h1) (by simpa using h2) (fun j v x hj hx=>r1 (j+1) v x (by simpa using hj) (by simpa using hx)) (fun j v x hj hx=>r2 (j+1) v x (by simpa using hj) (by simpa using hx))
  simp only[zf,aT,a,b,List.cons.injEq]
theorem Nb {t:TypeId} {x y:V} {v u:Value} (h1:oF P t x=true) (h2:oF P t y=true) (hv:sF v x) (hu:sF u y):qO x y=true↔v=u:=by
 unfold qO
 cases zP h1 with
 | one f1 c1=>
  cases zP h2 with
  | one f2 c2=>
   rw[c1,c2]
   simp only[zf,Bool.and_true]
   exact VJ f1 f2 (hv.one c1) (hu.one c2)
  | arr hy A hl _ hf=>
   rcases sX f1 with ⟨q,n,nZ,_⟩|⟨b,nZ,_⟩|⟨s,nZ,_⟩<;>(rw[A.hu] at nZ;cases nZ)
 | arr hx A hl _ hf=>
  cases zP h2 with
  | one f2 c2=>
   rcases sX f2 with ⟨q,n,nZ,_⟩|⟨b,nZ,_⟩|⟨s,nZ,_⟩<;>(rw[A.hu] at nZ;cases nZ)
  | arr hy A2 qL _ Nc=>
   have iI:=A.hu.symm.trans A2.hu
   cases iI
   subst hx
   subst hy
   obtain ⟨cs,rfl,s1,r1⟩:=hv
   obtain ⟨ds,rfl,s2,r2⟩:=hu
   have:=VK (vs:=cs.toList) (us:=ds.toList) hf Nc (by omega) (by simpa using s1) (by simpa using s2) (fun j v x hj hx=>r1 j v x (by simpa using hj) hx) (fun j v x hj hx=>r2 j v x (by simpa using hj) hx)
   simp only[V.cells,this,Value.agg.injEq]
   exact Array.toList_inj
theorem VL {k:V}: ∀{es:List V},(∀x∈es,qO k (x.comp 0)=false)→sw k es=false∧(∀z,sx k es z=z)∧∀v,nN k v es=es++[.bJ [k,v]]
 | [],_=>⟨rfl,fun _=>rfl,fun _=>rfl⟩
 | e::es,h=>by
  have h0:=h e (ub ..)
  obtain ⟨a,b,c⟩:=VL (k:=k) (es:=es) fun x hx=>h x (mZ _ hx)
  exact ⟨by simp[sw,h0,a],fun z=>by simp[sx,h0,b],fun v=>by simp[nN,h0,c]⟩
theorem VM {k:V}: ∀{es:List V} {j:Nat} {k' y:V},es[j]? =some (.bJ [k',y])→qO k k'=true→(∀i x,i<j→es[i]? =some x→qO k (x.comp 0)=false)→
  sw k es=true∧(∀z,sx k es z=y)∧∀v,nN k v es=es.set j (.bJ [k',v])
 | [],j,k',y,h,_,_=>by simp at h
 | e::es,0,k',y,h,he,_=>by
  simp at h
  subst h
  exact ⟨by simp[sw,V.comp,V.nth,he],fun z=>by simp[sx,V.comp,V.nth,he],fun v=>by simp[nN,V.comp,V.nth,he]⟩
 | e::es,j+1,k',y,h,he,aR=>by
  have h0:=aR 0 e (by omega) rfl
  obtain ⟨a,b,c⟩:=VM (k:=k) (es:=es) (j:=j) (by simpa using h) he fun i x hi hx=>aR (i+1) x (by omega) (by simpa using hx)
  exact ⟨by simp[sw,h0,a],fun z=>by simp[sx,h0,b],fun v=>by simp[nN,h0,c]⟩
theorem VN {kt vt:TypeId} {E:Array MapEntry} {es:List V} {k:V} {kv:Value} (hs:E.size=es.length) (hx: ∀(j:Nat) (e:MapEntry) (x:V),E[j]? =some e→es[j]? =some x→Hl P kt vt e x)
  (hn:E.toList.Pairwise (fun a b=>a.key≠b.key)) (hk:oF P kt k=true) (H0:sF kv k) (w:World):
  ((Instr.findKey kt kv E.toList).run P w= .ok none w∧(∀e∈E.toList,e.key≠kv)∧sw k es=false∧(∀z,sx k es z=z)∧∀v,nN k v es=es++[.bJ [k,v]])∨
  ∃j e k' y,(Instr.findKey kt kv E.toList).run P w= .ok (some (j,e.val)) w∧E[j]? =some e∧e.key=kv∧es[j]? =some (.bJ [k',y])∧oF P kt k'=true∧sF kv k'∧fc P vt y=true∧kq e.val y∧
   sw k es=true∧(∀z,sx k es z=y)∧∀v,nN k v es=es.set j (.bJ [k',v]):=by
 have K:=Na hk
 obtain ⟨l,hl⟩:=HZ hk H0
 have VO: ∀(j:Nat) x,es[j]? =some x→∃e,E[j]? =some e∧Hl P kt vt e x:=by
  intro j x hj
  have aR:j<E.size:=by rw[hs];exact (bL.1 hj).1
  exact ⟨E[j],l8 aR,hx j _ x (l8 aR) hj⟩
 have keys: ∀e∈E.toList,∃l,Go.keyOf P kt e.key=some l:=by
  intro e he
  obtain ⟨j,hj⟩:=tX he
  have gO:E[j]? =some e:=by simpa using hj
  have aR:j<es.length:=by rw[←hs];exact (jd.1 gO).1
  obtain ⟨k',y,_,h1,h2,_⟩:=hx j e es[j] gO (cq aR)
  exact HZ h1 h2
 rcases K.find w hl E.toList keys with ⟨h1,h2⟩|⟨j,e,h1,h2,h3⟩
 ·left
  refine ⟨h1,h2,VL fun x hxm=> ?_⟩
  obtain ⟨j,hj⟩:=tX hxm
  obtain ⟨e,he,k',y,rfl,f1,f2,_⟩:=VO j x hj
  cases hq:qO k (V.comp (.bJ [k',y]) 0) with
  | false=>rfl
  | true=>
   have:=(Nb hk f1 H0 f2).1 hq
   exact absurd this.symm (h2 e (kN (by simpa using he)))
 ·right
  have hE:E[j]? =some e:=by simpa using h2
  have aR:j<es.length:=by rw[←hs];exact (jd.1 hE).1
  obtain ⟨k',y,hy,f1,f2,f3,f4⟩:=hx j e es[j] hE (cq aR)
  have hj:=cq aR
  rw[hy] at hj
  rw[h3] at f2
  refine ⟨j,e,k',y,h1,hE,h3,hj,f1,f2,f3,f4,VM hj ((Nb hk f1 H0 f2).2 rfl) fun i x hi iE=> ?_⟩
  obtain ⟨e',wz,k2,y2,rfl,g1,g2,_⟩:=VO i x iE
  cases hq:qO k (V.comp (.bJ [k2,y2]) 0) with
  | false=>rfl
  | true=>
   have:=(Nb hk g1 H0 g2).1 hq
   have i1:i<E.toList.length:=by have:=(bL.1 iE).1;simp;omega
   have i2:j<E.toList.length:=by simp;omega
   have:=uc.1 hn i j i1 i2 hi
   have a1:E.toList[i]=e':=by
    have:E.toList[i]? =some e':=by simpa using wz
    rw[cq i1] at this;exact dh this
   have a2:E.toList[j]=e:=by
    have:=h2
    rw[cq i2] at this;exact dh this
   rw[a1,a2,h3] at this
   exact absurd (by rw[← ‹kv=e'.key›]) this
theorem aq.VP {v:Value} {x:V} (h:aq P w I β hp v x) {t:TypeId} (hx:qP P t x=true):kq v x:=by
 rcases sX hx with ⟨q,n,_,rfl,_⟩|⟨b,_,rfl⟩|⟨s,_,rfl,_⟩
 ·exact h.eD
 ·exact h.lI
 ·exact h.nT
theorem aq.VQ {v:Value} {x:V} (h:aq P w I β hp v x) {t:TypeId} (hx:oF P t x=true):sF v x:=by
 cases zP hx with
 | one f c=>
  have:=h.VP f
  cases x<;>first|exact this|cases this
 | arr hx A hl _ hf=>
  subst hx
  obtain ⟨cs,rfl,h1,h2⟩:=h.mj
  exact ⟨cs,rfl,h1,fun j u y hu hy=>(h2 j u y hu hy).VP (M8 hf hy)⟩
theorem VR {vt:TypeId} {y:V} (h:mapVal P vt=true) (ht:fc P vt y=true):(∃q n,P.underlying vt=some (.int q)∧y= .int q n)∨∃b,P.underlying vt=some .bool∧y= .bool b:=by
 unfold mapVal at h
 unfold fc at ht
 split at h
 ·rename_i q hu
  rw[hu] at ht
  cases y<;>first|(simp at ht;done)|skip
  simp only[dC] at ht
  subst ht
  exact .inl ⟨_,_,hu,rfl⟩
 ·rename_i hu
  rw[hu] at ht
  cases y<;>first|(simp at ht;done)|skip
  exact .inr ⟨_,hu,rfl⟩
 ·cases h
theorem kq.Nd {vt:TypeId} {v:Value} {y:V} (h:mapVal P vt=true) (ht:fc P vt y=true) (hv:kq v y):aq P w I β hp v y:=by
 rcases VR h ht with ⟨q,n,_,rfl⟩|⟨b,_,rfl⟩
 ·obtain rfl:v= .int q n:=hv;exact .int
 ·obtain rfl:v= .bool b:=hv;exact .bool
theorem aq.afq {vt:TypeId} {v:Value} {y:V} (h:mapVal P vt=true) (ht:fc P vt y=true) (hv:aq P w I β hp v y):kq v y:=by
 rcases VR h ht with ⟨q,n,_,rfl⟩|⟨b,_,rfl⟩
 ·exact hv.eD
 ·exact hv.lI
theorem afr {vt:TypeId} {z:V} (h:G6 P vt=some z) (w:World): ∃v,(zeroValue vt).run P w= .ok v w∧kq v z:=by
 unfold G6 at h
 cases hi:P.info? vt with
 | none=>rw[hi] at h;cases h
 | some i=>
  rw[hi] at h
  simp only[Option.bind_some] at h
  cases hz:i.zero with
  | none=>rw[hz] at h;cases h
  | some v=>
   rw[hz] at h
   refine ⟨v,by simp[zeroValue,typeInfo,hi,hz],?_⟩
   cases v<;>simp only at h<;>first|(cases h;done)|skip
   ·cases h;rfl
   ·cases h;rfl
theorem Ng {t kt vt:TypeId} (h:nc P t=some (kt,vt)):P.underlying t=some (.map kt vt):=by
 unfold nc at h
 split at h
 ·rename_i k e hu;cases h;exact hu
 ·cases h
theorem Nh (S:aQ P w I β hp B M w0) {ok:Bool} {v:Value} {x:V} {b:Bool} {r:R} {rd:List Nat} {res:Result Value} (hv:aq P w I β hp v x)
  (hr:res= .ok (if ok then .tuple #[v,.bool b] else v) w) (h:(G7 ok x b).run C hp=some (r,rd)):dt P res w I β hp B M w0 r:=by
 unfold G7 at h
 obtain rfl:=bj h
 cases ok with
 | false=>exact .same S hr hv
 | true=>
  refine .same S hr (.bJ rfl fun j u y hu hy=> ?_)
  match j,hu,hy with
  | 0,hu,hy=>simp at hu hy;subst hu;subst hy;exact hv
  | 1,hu,hy=>simp at hu hy;subst hu;subst hy;exact .bool
  | j+2,hu,hy=>simp at hy
theorem afs (S:aQ P w I β hp B M w0) {t kt vt:TypeId} (ht:nc P t=some (kt,vt)) {m k:Value} {mx kx:V} {ok:Bool} {r:R} {rd:List Nat} (hm:aq P w I β hp m mx) (hk:aq P w I β hp k kx)
  (h:(L5 P t mx kx ok).run C hp=some (r,rd)):dt P ((Instr.lookup t m k ok).run P w) w I β hp B M w0 r:=by
 unfold L5 at h
 rw[ht] at h
 simp only at h
 cases hz:G6 P vt with
 | none=>rw[hz] at h;cases h
 | some z=>
  rw[hz] at h
  obtain ⟨hc,h'⟩:=aU h
  clear h
  have h:=h'
  clear h'
  simp only[aT] at hc
  obtain ⟨ri,CV,H2⟩:=hc
  have hu:=Ng ht
  have rj:=hk.VQ ri
  have K:=Na ri
  obtain ⟨l,hl⟩:=HZ ri rj
  obtain ⟨zv,VT,VU⟩:=afr hz w
  cases mx<;>simp only at h<;>first|(cases h;done)|skip
  ·rename_i t' id
   obtain ⟨lK,h'⟩:=aU h
   clear h
   have h:=h'
   clear h'
   rw[bq] at lK
   subst lK
   obtain ⟨l2,h'⟩:=run_get h
   clear h
   have h:=h'
   clear h'
   cases af:hp id with
   | none=>rw[af] at h;cases h
   | some blk=>
    rw[af] at h
    cases blk<;>simp only at h<;>first|(cases h;done)|skip
    rename_i t2 es
    obtain ⟨lK,h'⟩:=aU h
    clear h
    have h:=h'
    clear h'
    rw[bq] at lK
    subst lK
    cases hm with
    | jm hd=>rw[af] at hd;cases hd
    | @cZ _ _ b bf hd hb=>
     rw[af] at hd
     cases hd
     have hr:=S.h.rel id _ af
     cases hr with
     | @map _ VV VW _ b' clock E fu aI hh hs hI hx hn=>
      rw[hb] at aI;cases aI
      rw[hu] at fu;cases fu
      rcases VN hs hx hn ri rj w with ⟨h1,_,h3,h4,_⟩|⟨j,e,k',y,h1,_,_,_,_,_,h6,h7,h3,h4,_⟩
      ·rw[h3,h4,CH H2] at h
       refine Nh S (kq.Nd CV H2 VU) ?_ h
       unfold Instr.lookup
       simp only[Sem.run_bind,run_underlying hu,Result.andThen_ok,Go.MapKept.run_getObj_map hh,Sem.run_pure,K.check w E.isEmpty hl,h1,VT]
      ·rw[h3,h4,CH h6] at h
       refine Nh S (kq.Nd CV h6 h7) ?_ h
       unfold Instr.lookup
       simp only[Sem.run_bind,run_underlying hu,Result.andThen_ok,Go.MapKept.run_getObj_map hh,Sem.run_pure,K.check w E.isEmpty hl,h1]
  ·rename_i t'
   obtain ⟨lK,h⟩:=aU h
   cases hm
   rw[CH H2] at h
   refine Nh S (kq.Nd CV H2 VU) ?_ h
   have hf:(Instr.findKey kt k []).run P w= .ok none w:=by
    rcases K.find w hl [] (by simp) with ⟨h1,_⟩|⟨j,e,_,h2,_⟩
    ·exact h1
    ·simp at h2
   unfold Instr.lookup
   simp[run_underlying hu,K.check w true hl,hf,VT]
theorem aft (S:aQ P w I β hp B M w0) {t:TypeId} {nb:Nat} {r:R} {rd:List Nat} (h:(Rd.aM (nc P t).isSome (km nb (.map t []) (.cZ t nb) [])).run C hp=some (r,rd)):
  dt P ((Instr.makeMap t none).run P w) w I β hp B M w0 r:=by
 obtain ⟨ht,h⟩:=aU h
 obtain ⟨hn,rfl⟩:=oT h
 obtain ⟨⟨kt,vt⟩,ht⟩:=BR.1 ht
 have hu:=Ng ht
 have dj: ¬I w.heap.size:=fun h=>Nat.lt_irrefl _ (S.h.kT _ h)
 have fL:(w.alloc (.map #[] 0)).heap[w.heap.size]? =some (.map #[] 0):=heap_alloc_new w _
 obtain ⟨a1,a2⟩:=CE S (w':=w.alloc (.map #[] 0)) (blk:= .map t []) (b:=w.heap.size) hn (fun aN blk' h ho=>Nat.lt_irrefl _ (S.h.lt h ho)) dj
  (fun b' _ aR=>heap_alloc_old w _ b' aR) (by simp) ⟨rfl,rfl⟩ (.inr S.size) (fun b' h=>(dh (h.flat (by simp))).symm)
  (fun _=> .map hu rfl fL rfl dj (fun j e x he _=>by simp at he) (by simp))
 exact ⟨_,_,_,_,Go.RowKit.run_makeMap t w,a1,a2,.cZ (dq _ _ _) (dq _ _ _)⟩
theorem VX (S:aQ P w I β hp B M w0) {t kt vt:TypeId} (ht:nc P t=some (kt,vt)) {m k v:Value} {mx kx vx:V} {r:R} {rd:List Nat} (hm:aq P w I β hp m mx) (hk:aq P w I β hp k kx) (hv:aq P w I β hp v vx)
  (h:(G8 P t mx kx vx).run C hp=some (r,rd)):qY P ((Instr.mapUpdate t m k v).run P w) w I β hp B M w0 r:=by
 unfold G8 at h
 rw[ht] at h
 obtain ⟨hc,h'⟩:=aU h
 clear h
 have h:=h'
 clear h'
 simp only[aT] at hc
 obtain ⟨ri,CV,wD⟩:=hc
 have hu:=Ng ht
 have rj:=hk.VQ ri
 have zA:=aq.afq CV wD hv
 have K:=Na ri
 obtain ⟨l,hl⟩:=HZ ri rj
 cases mx<;>simp only at h<;>first|(cases h;done)|skip
 rename_i t' id
 obtain ⟨lK,h'⟩:=aU h
 clear h
 have h:=h'
 clear h'
 rw[bq] at lK
 subst lK
 obtain ⟨l2,h'⟩:=run_get h
 clear h
 have h:=h'
 clear h'
 cases af:hp id with
 | none=>rw[af] at h;cases h
 | some blk=>
  rw[af] at h
  cases blk<;>simp only at h<;>first|(cases h;done)|skip
  rename_i t2 es
  obtain ⟨lK,h'⟩:=aU h
  clear h
  have h:=h'
  clear h'
  rw[bq] at lK
  subst lK
  obtain rfl:=bj h
  cases hm with
  | jm hd=>rw[af] at hd;cases hd
  | @cZ _ _ b bf hd hb=>
   rw[af] at hd
   cases hd
   have hr:=S.h.rel id _ af
   cases hr with
   | @map _ VV VW _ b' clock E fu aI hh hs hI hx hn=>
    rw[hb] at aI;cases aI
    rw[hu] at fu;cases fu
    have aR:b<w.heap.size:=(jd.1 hh).1
    have fin: ∀(E':Array MapEntry) (CW:Nat),(Instr.mapUpdate t (.map (some b)) k v).run P w= .ok () {w with heap:=w.heap.setIfInBounds b (.map E' CW)}→E'.size=(nN kx vx es).length→
      (∀(j:Nat) (e:MapEntry) (x:V),E'[j]? =some e→(nN kx vx es)[j]? =some x→Hl P kt vt e x)→E'.toList.Pairwise (fun a b=>a.key≠b.key)→
      qY P ((Instr.mapUpdate t (.map (some b)) k v).run P w) w I β hp B M w0 ⟨.undef,[(id,.map t (nN kx vx es))]⟩:=by
     intro E' CW dr M7 cT CX
     have fL:({w with heap:=w.heap.setIfInBounds b (.map E' CW)}:World).heap[b]? =some (.map E' CW):=by simp[aR]
     obtain ⟨a1,a2⟩:=Hw S (w':={w with heap:=w.heap.setIfInBounds b (.map E' CW)}) (blk':= .map t (nN kx vx es)) af (by simp) rfl hb hI (by simp)
      (fun b' aI=>by simp[Array.getElem?_setIfInBounds,Ne.symm aI]) (by simp only[bsize,fL,hh]) (by simp) ⟨rfl,rfl⟩ (fun _=> .map hu rfl fL M7 hI cT CX)
     exact ⟨_,I,β,dr,a1,a2,rfl⟩
    rcases VN hs hx hn ri rj w with ⟨h1,h2,_,_,h5⟩|⟨j,e,k',y,h1,hE,VY,VZ,afu,afv,_,_,_,_,h5⟩
    ·have e5:=h5 vx
     refine fin (E.push {key:=k,val:=v,born:=clock}) (clock+1) ?_ (by rw[e5];simp[hs]) (fun j e x he sM=> ?_) ?_
     ·unfold Instr.mapUpdate
      simp only[Sem.run_bind,run_underlying hu,Result.andThen_ok,Go.MapKept.run_getObj_map hh,K.check w false hl,h1,Go.MapKept.run_setObj_map _ hh]
     ·rw[e5] at sM
      rw[Array.getElem?_push] at he
      split at he
      ·rename_i hj
       rw[jG (by omega),hj,hs,Nat.sub_self] at sM
       simp at he sM
       subst he;subst sM
       exact ⟨kx,vx,rfl,ri,rj,wD,zA⟩
      ·have hj:j<E.size:=(jd.1 he).1
       rw[ln (by omega)] at sM
       exact hx j e x he sM
     ·rw[Array.toList_push,GM]
      refine ⟨hn,by simp,fun a ha b' aI=> ?_⟩
      simp only[df] at aI
      subst aI
      exact h2 a ha
    ·have e5:=h5 vx
     have hj:j<E.size:=(jd.1 hE).1
     refine fin (E.modify j fun e=>{e with key:=k,val:=v}) clock ?_ (by rw[e5];simp[hs]) (fun i e' x he iE=> ?_) ?_
     ·have bz:=K.stays w hl
      unfold Instr.mapUpdate
      simp only[Sem.run_bind,run_underlying hu,Result.andThen_ok,Go.MapKept.run_getObj_map hh,K.check w false hl,h1]
      simp only[hE,Option.map_some,Option.getD_some,VY,bz,Result.andThen_ok,Go.MapKept.run_setObj_map _ hh]
     ·rw[e5] at iE
      rw[BT] at he
      rw[tY] at iE
      split at he
      ·rename_i sY
       subst sY
       rw[ai rfl,aF] at iE
       rw[hE] at he
       simp at he iE
       subst he;subst iE
       exact ⟨k',vx,rfl,afu,afv,wD,zA⟩
      ·rename_i sY
       rw[aj sY] at iE
       exact hx i e' x he iE
     ·have V0: ∀i (h1:i<(E.modify j fun e=>{e with key:=k,val:=v}).toList.length) (h2:i<E.toList.length),((E.modify j fun e=>{e with key:=k,val:=v}).toList[i]).key=(E.toList[i]).key:=by
       intro i h1 h2
       simp only[Array.getElem_toList,Array.getElem_modify]
       split
       ·rename_i sY
        subst sY
        have:=(jd.1 hE).2
        rw[this,VY]
       ·rfl
      rw[uc] at hn⊢
      intro i i' h1 h2 jT
      have g1:i<E.toList.length:=by simpa using h1
      have g2:i'<E.toList.length:=by simpa using h2
      rw[V0 i h1 g1,V0 i' h2 g2]
      exact hn i i' g1 g2 jT
theorem afw (S:aQ P w I β hp B M w0) {t ty kt vt:TypeId} {v:Value} {x:V} {r:R} {rd:List Nat} (hu:P.underlying t=some (.map kt vt)) (hv:aq P w I β hp v x)
  (h:(G9 x).run C hp=some (r,rd)):dt P ((Builtin.len_ #[t] ty #[v]).run P w) w I β hp B M w0 r:=by
 unfold G9 at h
 cases x<;>simp only at h<;>first|(cases h;done)|skip
 ·rename_i t' id
  obtain ⟨l2,h'⟩:=run_get h
  clear h
  have h:=h'
  clear h'
  cases af:hp id with
  | none=>rw[af] at h;cases h
  | some blk=>
   rw[af] at h
   cases blk<;>simp only at h<;>first|(cases h;done)|skip
   rename_i t2 es
   obtain rfl:=bj h
   cases hv with
   | jm hd=>rw[af] at hd;cases hd
   | @cZ _ _ b bf hd hb=>
    rw[af] at hd
    cases hd
    have hr:=S.h.rel id _ af
    cases hr with
    | @map _ VV VW _ b' clock E fu aI hh hs hI hx hn=>
     rw[hb] at aI;cases aI
     refine .same S (v:= .int .i64 E.size) (by simp[Builtin.len_,run_underlying hu,Go.MapKept.run_getObj_map hh,goInt]) ?_
     rw[hs]
     exact .int
 ·obtain rfl:=bj h
  cases hv
  exact .same S (v:= .int .i64 0) (by simp[Builtin.len_,run_underlying hu,goInt]) .int
theorem aq.Ni {v:Value} {t:TypeId} (h:aq P w I β hp v (.ec t)):v= .map none:=by cases h;rfl
theorem aq.afx {v:Value} {t t':TypeId} {id:Nat} {es:List V} (h:aq P w I β hp v (.cZ t id)) (af:hp id=some (.map t' es)): ∃b,v= .map (some b):=by
 cases h with
 | jm h=>rw[af] at h;cases h
 | cZ h hb=>exact ⟨_,rfl⟩
theorem V1 (S:aQ P w I β hp B M w0) {op:BinOp} {t:TypeId} {a:Option Nat} {r:R} {rd:List Nat} (x y:Operand)
  (h:(G3 P op t a.isNone).run C hp=some (r,rd)):dt P ((do eqGuard op t x y (.map a) (.map none);binOp op t (.map a) (.map none)).run P w) w I β hp B M w0 r:=by
 unfold G3 at h
 split at h
 case h_2=>cases h
 rename_i kt vt hu
 have he:(Op.equal t (.map a) (.map none)).run P w= .ok a.isNone w:=by
  show (Op.equalIn (9999+1) t (.map a) (.map none)).run P w=_
  rw[Op.equalIn]
  cases a<;>simp[Sem.run_bind,run_underlying hu,Result.andThen_ok,Sem.run_pure]
 cases op<;>simp only at h<;>first|(cases h;done)|skip
 ·obtain rfl:=bj h
  exact .same S (by simp[eqGuard,binOp,he]) .bool
 ·obtain rfl:=bj h
  exact .same S (by simp[eqGuard,binOp,he]) .bool
end
end Go.AM
namespace Go.AM
section
variable {P:Program} {w w':World} {I I':Nat→Prop} {β β':Nat→Option Nat} {hp hp':Nat→Option an} {C:ae} {B:Nat} {M:Nat→Prop} {w0:Start}
theorem afy {e:TypeId} (he:P.underlying e=some (.int .u8)) (hc:P.cellsOf e=1) (s:ByteArray): ∀(i j:Nat) (x:V) (t':TypeId),(s.data.toList.map Cm)[i]? =some x→(bx P e)[j]? =some t'→j<P.cellsOf e→
  ∃u,(Lib.strCells s)[i*P.cellsOf e+j]? =some u∧Pure P w I t' u (ch P e x j):=by
 intro i j x t' hx ht hj
 have oX:b7 P e=false:=by simp[b7,he]
 obtain rfl:j=0:=by omega
 simp only[bx,oX,cond_false,List.getElem?_cons_zero,eb] at ht
 subst ht
 rw[fI] at hx
 cases hb:s.data.toList[i]? with
 | none=>rw[hb] at hx;cases hx
 | some b=>
  rw[hb] at hx
  cases hx
  refine ⟨.int .u8 b.toNat,?_,?_⟩
  ·rw[hc,oC,Nat.add_zero]
   simp only[Lib.strCells,fI,hb,Option.map_some]
  ·simp only[ch,oX,cond_false]
   exact .int he
theorem afz (w:World) (t u ty e:TypeId) (i:TypeInfo) (z:Value) (ht:P.underlying t=some (.slice e)) (hu:P.underlying u=some .string) (hi:P.info? e=some i) (hz:i.zero=some z)
  (s:ByteArray) (h0:0<s.size) (HT:(s.size:Int)≤9223372036854775807) (HU:s.size*i.bytes≤281474976710656) (a0:Option Addr):
  (Builtin.append_ #[t,u] ty #[.slice a0 0 0,.string s]).run P w=
   .ok (.slice (some ⟨w.heap.size,0,none⟩) s.size (grownCap w s.size 0 e))
    (w.drew.alloc (.cells (s.data.map (fun b=>Value.int .u8 b.toNat)++Builtin.zeroCells z.cells (grownCap w s.size 0 e-s.size)) e)):=by
 cases a0 with
 | none=>exact run_append_nil_string w t u ty e i z ht hu hi hz s h0 HT HU
 | some b=>
  rw[←run_append_nil_string w t u ty e i z ht hu hi hz s h0 HT HU]
  have hn:s.size≠0:=by omega
  have afA: ¬(9223372036854775807<(s.size:Int)):=by omega
  have afB: ¬(281474976710656<Builtin.nextslicecap s.size 0*i.bytes):=by rw[nextslicecap_zero h0];omega
  simp[Builtin.append_,run_underlying ht,run_underlying hu,sizeOf,typeInfo,zeroValue,hi,hz,Builtin.lenOf,Builtin.firstCells,hn,afA,afB,Question.forced,newRow,grownCap,loadCells,loadCellsFrom]
theorem V2 (S:aQ P w I β hp B M w0) {t u ty e:TypeId} {nb:Nat} {x:ByteArray} {xs:List V} {i:TypeInfo} {z:Value} (hu:P.underlying t=some (.slice e)) (pU:P.underlying u=some .string) (aw:dm P e=true) (hn:hp nb=none)
 (hi:P.info? e=some i) (hz:i.zero=some z) (h3:i.size=P.cellsOf e) (h4:z.cells.size=P.cellsOf e) (zQ:i.size=1) (mn:P.bytesOf e=i.bytes) (fe:xs.length*P.bytesOf e≤db) (lN:xs.length=x.size) (nV:(Lib.strCells x).length=x.size)
 (cH: ∀(i j:Nat) (y:V) (t':TypeId),xs[i]? =some y→(bx P e)[j]? =some t'→j<P.cellsOf e→∃u,(Lib.strCells x)[i*P.cellsOf e+j]? =some u∧Pure P w I t' u (ch P e y j)):
 ∀a0,∃v w' β',(Builtin.append_ #[t,u] ty #[.slice a0 0 0,.string x]).run P w= .ok v w'∧Le P w I β hp w' I β' (bd hp nb (some (.arr e xs false)))∧aQ P w' I β' (bd hp nb (some (.arr e xs false))) B M w0∧
  aq P w' I β' (bd hp nb (some (.arr e xs false))) v (.whole e nb):=by
 intro a0
 have wA:=zq aw
 have hlen:xs.length≤2^45:=by
  have:xs.length*1≤xs.length*P.bytesOf e:=vL _ wA
  simp only[db] at fe
  omega
 by_cases h0:x.size=0
 ·have iG:xs=[]:=mY (by omega)
  subst iG
  obtain ⟨a1,a2⟩:=Hu S e hn
  have hf:=Lib.run_firstCells_string (P:=P) w 1 x
  rw[h0] at hf
  have sQ:Lib.strCells x=[]:=mY (by omega)
  exact ⟨.slice a0 0 0,_,_,by cases a0<;>simp[storeCells,sQ,Builtin.append_,run_underlying hu,run_underlying pU,sizeOf,typeInfo,hi,zQ,Builtin.lenOf,h0,hf],a1,a2,.eo (dq _ _ _) (dq _ _ _)⟩
 ·have dr:=afz (P:=P) w t u ty e i z hu pU hi hz x (by omega) (by omega) (by rw[←mn,←lN];simp only[db] at fe;omega) a0
  have e1:(x.data.map fun b=>Value.int .u8 b.toNat)=(Lib.strCells x).toArray:=by
   apply Array.ext'
   simp[Lib.strCells]
  rw[e1,←lN] at dr
  have rb:=grownCap_ge w xs.length 0 e
  have wB:grownCap w xs.length 0 e≤maxLen:=grownCap_le_maxLen w xs.length 0 e (by simp only[maxLen];omega)
  obtain ⟨n1,n2,n3⟩:=zM S.drew (nb:=nb) (cap:=grownCap w xs.length 0 e) (es:=xs) (C0:=(Lib.strCells x).toArray++Builtin.zeroCells z.cells (grownCap w xs.length 0 e-xs.length)) aw hn
   (by
    have:(Lib.strCells x).length=xs.length*P.cellsOf e:=by rw[nV,lN,←h3,zQ,oC]
    simp only[GJ,si,size_zeroCells,h4,this,←dU];congr 1;omega) rb wB
   (fun i' j y t' hy ht hj=>by
    obtain ⟨u,fu,hp⟩:=cH i' j y t' hy ht hj
    have aR:=(bL.1 fu).1
    refine ⟨u,?_,Pure.drew hp⟩
    rw[Array.getElem?_append_left (by simpa using aR)]
    simpa using fu)
  exact ⟨_,_,_,dr,(Le.drew w I β hp).trans n1,n2,n3⟩
theorem afC (S:aQ P w I β hp B M w0) {t u ty e:TypeId} {nb:Nat} {s:Value} {sv:V} {x:ByteArray} {r:R} {rd:List Nat} (hu:P.underlying t=some (.slice e)) (pU:P.underlying u=some .string) (he:P.underlying e=some (.int .u8)) (hs:aq P w I β hp s sv)
  (h:(zg P nb e sv (.list e (x.data.toList.map Cm))).run C hp=some (r,rd)):dt P ((Builtin.append_ #[t,u] ty #[s,.string x]).run P w) w I β hp B M w0 r:=by
 unfold zg at h
 obtain ⟨aw,h⟩:=aU h
 simp only[uo] at h
 obtain ⟨_,h⟩:=aU h
 have oX:b7 P e=false:=by simp[b7,he]
 have er:P.cellsOf e=1:=by rw[←(lH aw).1,Cz oX];rfl
 obtain ⟨i,z,hi,hz,h3,h4,_⟩:=lL aw
 have zQ:i.size=1:=by rw[h3,er]
 have wA:=zq aw
 have mn:P.bytesOf e=i.bytes:=by simp[Program.bytesOf,hi]
 have H3:=afy (P:=P) (w:=w) (I:=I) he er x
 have lN:(x.data.toList.map Cm).length=x.size:=by simp
 have nV:(Lib.strCells x).length=x.size:=Lib.strCells_length x
 have h1:=Lib.strCells_oneCell x
 generalize iG:x.data.toList.map Cm=xs at*
 cases sv with
 | nilS e'=>
  obtain ⟨hc,h⟩:=aU h
  simp only[aT,bq,fa] at hc
  obtain ⟨hn,rfl⟩:=oT h
  obtain ⟨a0,rfl⟩: ∃a0,s= .slice a0 0 0:=by cases hs;exact ⟨_,rfl⟩
  obtain ⟨v,w',β',a1,a2,a3,a4⟩:=V2 S hu pU aw hn hi hz h3 h4 zQ mn hc.2 lN nV H3 _
  exact ⟨v,w',I,β',a1,a2,a3,a4⟩
 | whole e' id=>
  obtain ⟨l,h⟩:=run_get h
  cases af:hp id with
  | none=>rw[af] at h;cases h
  | some blk=>
   rw[af] at h
   cases blk with
   | dead=>cases h
   | var _=>cases h
   | nest _ _ _=>cases h
   | map _ _=>cases h
   | arr ek es fz=>
    cases fz with
    | true=>cases h
    | false=>
     obtain ⟨hc,h⟩:=aU h
     obtain ⟨hn,rfl⟩:=oT h
     simp only[aT,bq,fa] at hc
     obtain ⟨MY,MZ,fe⟩:=hc
     subst MY
     subst MZ
     have bO:nb≠id:=fun e=>by rw[e,af] at hn;cases hn
     obtain ⟨k1,k2⟩:=Hv S af
     have lM:bd hp id (some an.dead) nb=none:=by rw[eN _ _ bO];exact hn
     cases hs with
     | eL hd=>rw[af] at hd;cases hd
     | eU hd=>rw[af] at hd;cases hd
     | eo hd hb=>
      rw[af] at hd
      cases hd
      simp only[List.length_nil,je] at fe
      obtain ⟨v,w',β',a1,a2,a3,a4⟩:=V2 k2 hu pU aw lM hi hz h3 h4 zQ mn fe lN nV H3 _
      exact ⟨v,w',I,β',a1,k1.trans a2,a3,a4⟩
     | @whole _ _ bf oH b cap hd hb bw cG hm=>
      rw[af] at hd
      cases hd
      have hr:=S.h.rel id _ af
      cases hr with
      | ep aI=>rw[aI] at hb;cases hb
      | @arr _ _ _ b' Ca _ aI hh rh hf eM nY=>
       rw[hb] at aI
       cases aI
       have hlen:es.length+xs.length≤2^45:=by
        have:(es.length+xs.length)*1≤(es.length+xs.length)*P.bytesOf e:=vL _ wA
        simp only[db] at fe
        omega
       rw[oK hh] at bw
       have sK: ∀aN blk',bd hp id (some an.dead) aN=some blk'→¬bN P w (β aN) blk' b:=by
        intro aN blk' h1 h2
        by_cases jT:aN=id
        ·subst jT;rw[dq] at h1;cases h1;exact h2.alive rfl
        ·rw[eN _ _ jT] at h1
         exact jT (S.h.inj aN id blk' _ b h1 af h2 (.root (by simp) hb))
       have M0:=S.h.uy id _ b af (by simp) hb
       have nj:es.length*P.cellsOf e≤Ca.toList.length:=by simpa using rh
       have V3:(Lib.strCells x).length=xs.length*P.cellsOf e:=by rw[nV,lN,er,oC]
       by_cases uJ:es.length+xs.length≤cap
       ·have CS:es.length*P.cellsOf e+(Lib.strCells x).length≤Ca.size:=by rw[V3,←dU,←bw];exact eC _ uJ
        have dr:=Lib.run_append_room_string (P:=P) w t u ty e i hu pU hi zQ b es.length cap Ca hh x (by rw[←lN];exact uJ) (by rw[←nV];rw[er,oC] at CS;exact CS)
        have cH:=HR (P:=P) (w:=w) (I:=I) (n:=es.length) (c:=Ca.toList) rfl (fun i j y t' a b c=>by
         obtain ⟨v,hv,hp⟩:=nY i j y t' a b c
         exact ⟨v,by simpa using hv,hp⟩) H3 nj (Ca.toList.drop (es.length*P.cellsOf e+(Lib.strCells x).length))
        generalize zJ:(Ca.toList.take es.length++Lib.strCells x++Ca.toList.drop (es.length+x.size)).toArray=C' at dr
        have pS:C'.size=Ca.size:=by
         rw[er,oC] at CS
         rw[←zJ];simp;omega
        have V4:(w.setRow b C').heap[b]? =some (.cells C' e (0,0)):=setRow_heap w b Ca C' e _ hh
        obtain ⟨a1,a2⟩:=CE k2 (blk:= .arr e (es++xs) false) (w':=w.setRow b C') lM sK (eM rfl) (fun b' h _=>setRow_other w b b' _ h) (by simp) ⟨rfl,rfl⟩ M0
         (fun b' h=>(dh (h.flat (by simp))).symm) (fun hle=> .arr aw rfl V4 (by rw[pS,←bw];exact eC _ (by simpa using uJ)) (fun h=>by cases h) (fun _=>eM rfl) fun i j y t' a b c=>by
          obtain ⟨v,hv,hp⟩:=cH i j y t' a b c
          refine ⟨v,?_,hp.mono hle.dN hle.cl⟩
          rw[←zJ,oB]
          rw[er] at hv⊢
          simpa[nV] using hv)
        refine ⟨_,_,_,_,dr,k1.trans a1,a2,?_⟩
        have a3:=aq.whole (P:=P) (w:=w.setRow b C') (I:=I) (β:=bd β nb (some b)) (hp:=bd (bd hp id (some .dead)) nb (some (.arr e (es++xs) false))) (cap:=cap) (b:=b) (es:=es++xs) (fz:=false) (id:=nb) (e:=e) (dq _ _ _) (dq _ _ _) (by rw[oK V4,pS,bw]) (by simpa using uJ) hm
        rw[cg,lN] at a3
        exact a3
       ·have hold: ∀(j:Nat) v,(Ca.toList.take (es.length*P.cellsOf e))[j]? =some v→w.cell? ((⟨b,0,none⟩:Addr).add j)=some v:=by
         intro j v hj
         have cy:=(bL.1 hj).1
         have jq:j<es.length*P.cellsOf e:=by rw[fb] at cy;omega
         rw[fT jq] at hj
         rw[oQ,cell?_cells hh,je]
         simpa using hj
        have dr:=Lib.run_append_grow_string (P:=P) w t u ty e i z hu pU hi hz ⟨b,0,none⟩ es.length cap (Ca.toList.take (es.length*P.cellsOf e)) (by rw[h3];simp;omega) hold x (by omega) (by omega)
         (growslice_fits (by omega) (by rw[←mn,←lN];simp only[db] at fe;omega))
        rw[←lN] at dr
        have rb:=grownCap_ge w (es.length+xs.length) cap e
        have wB:grownCap w (es.length+xs.length) cap e≤maxLen:=grownCap_le_maxLen w _ cap e (by simp only[maxLen];omega)
        have cH:=HR (P:=P) (w:=w) (I:=I) (n:=es.length) (c:=Ca.toList) rfl (fun i j y t' a b c=>by
         obtain ⟨v,hv,hp⟩:=nY i j y t' a b c
         exact ⟨v,by simpa using hv,hp⟩) H3 nj (Builtin.zeroCells z.cells (grownCap w (es.length+xs.length) cap e-(es.length+xs.length))).toList
        obtain ⟨n1,n2,n3⟩:=zM k2.drew (nb:=nb) (cap:=grownCap w (es.length+xs.length) cap e) (es:=es++xs)
         (C0:=(Ca.toList.take (es.length*P.cellsOf e)).toArray++(Lib.strCells x).toArray++Builtin.zeroCells z.cells (grownCap w (es.length+xs.length) cap e-(es.length+xs.length))) aw lM
         (by
          have e1:(Ca.toList.take (es.length*P.cellsOf e)).length=es.length*P.cellsOf e:=by simp;omega
          simp only[GJ,si,size_zeroCells,h4,V3,e1,←dU];congr 1;omega) (by simpa using rb) wB
         (fun i j y t' a b c=>by
          obtain ⟨v,hv,hp⟩:=cH i j y t' a b c
          refine ⟨v,?_,Pure.drew hp⟩
          rw[←ua]
          simpa using hv)
        rw[cg] at n3
        exact ⟨_,_,_,_,dr,(k1.trans (Le.drew w I β _)).trans n1,n2,n3⟩
 | _=>cases h
end
section
variable {P:Program} {w w':World} {I I':Nat→Prop} {β β':Nat→Option Nat} {hp hp':Nat→Option an} {C:ae} {B:Nat} {M:Nat→Prop} {w0:Start}
theorem V5: ∀(ns:List Int) (s:ByteArray),(ns.foldl (fun r n=>r.push (UInt8.ofNat n.toNat)) s).data.toList=s.data.toList++ns.map fun n=>UInt8.ofNat n.toNat
 | [],s=>by simp
 | n::ns,s=>by
  simp only[List.foldl_cons,V5 ns,dw]
  simp[ByteArray.push]
theorem Nj {e:TypeId} {u:Value} {x:V} (he:P.underlying e=some (.int .u8)) (hp:Pure P w I e u x):u= .int .u8 x.toInt:=by
 cases hp with
 | int hp'=>rw[he] at hp';cases hp';rfl
 | bool hp'=>rw[he] at hp';cases hp'
 | str hp'=>rw[he] at hp';cases hp'
 | nil hp'=>rw[he] at hp';cases hp'
 | emp hp'=>rw[he] at hp';cases hp'
 | list _ hp'=>rw[he] at hp';cases hp'
theorem afD (S:aQ P w I β hp B M w0) {src dst e:TypeId} {v:Value} {x:V} {r:R} {rd:List Nat} (hs:P.underlying src=some (.slice e)) (he:P.underlying e=some (.int .u8)) (hd:P.underlying dst=some .string)
  (hv:aq P w I β hp v x) (h:(Rd.aM (dm P e) (uo e x fun es=> .ret ⟨.str (oG es),[]⟩)).run C hp=some (r,rd)):dt P ((convert src dst v).run P w) w I β hp B M w0 r:=by
 obtain ⟨aw,h⟩:=aU h
 obtain ⟨xs,hx,l,h⟩:=HQ S.h.rel aw hv h
 obtain rfl:=bj h
 have oX:b7 P e=false:=by simp[b7,he]
 have h1:P.cellsOf e=1:=by rw[←(lH aw).1,Cz oX];rfl
 rcases hx with ⟨⟨a,rfl⟩,rfl⟩|⟨a,c,news,hr⟩
 ·refine .same S (v:= .string .empty) ?_ (.str (by simp[oG]))
  rw[run_convert_bytes_string w src dst e a 0 0 hs he hd]
  cases a<;>simp[Conv.bytesToString,loadCells,loadCellsFrom]
 ·have HS:news=(xs.map V.toInt).map (Value.int .u8):=by
   apply qF
   intro j
   by_cases hj:j<xs.length
   ·obtain ⟨u,hu,hp⟩:=hr.el j 0 xs[j] e (cq hj) (by simp[bx,oX]) (by omega)
    rw[h1] at hu
    simp only[ch,oX,cond_false] at hp
    have fu:news[j]? =some u:=by simpa using hu
    rw[fu]
    have:=Nj he hp
    simp[hj,←this]
   ·have hl:news.length=xs.length:=by rw[hr.len,h1];simp
    rw[oA (by omega),oA (by simp;omega)]
  have Nk:=run_loadCells_list (P:=P) w a news hr.cell
  have hl:news.length=xs.length:=by rw[hr.len,h1];simp
  rw[hl] at Nk
  rw[HS] at Nk
  refine .same S (v:= .string ((xs.map V.toInt).foldl (fun r n=>r.push (UInt8.ofNat n.toNat)) ByteArray.empty)) ?_ (.str ?_)
  ·rw[hr.val,run_convert_bytes_string w src dst e _ _ _ hs he hd]
   exact run_bytesToString w a xs.length c (xs.map V.toInt) Nk
  ·rw[V5]
   simp[oG]
theorem aq.H4 {v:Value} (h:aq P w I β hp v .dW):v= .pointer none:=by cases h;rfl
section
variable (w:World)
theorem afE (t e:TypeId) (a:Addr) (h:P.underlying t=some (.pointer e)):(binOp .eql t (.pointer (some a)) (.pointer none)).run P w= .ok (.bool false) w:=by
 have h0: ∀d:Nat,(Op.equalIn (d+1) t (.pointer (some a)) (.pointer none)).run P w= .ok false w:=fun d=>by simp[Op.equalIn,run_underlying h]
 simp only[binOp]
 simp[Op.equal,Op.maxDepth,h0 9999]
theorem afF (t e:TypeId) (a:Addr) (h:P.underlying t=some (.pointer e)):(binOp .neq t (.pointer (some a)) (.pointer none)).run P w= .ok (.bool (!false)) w:=by
 have h0: ∀d:Nat,(Op.equalIn (d+1) t (.pointer (some a)) (.pointer none)).run P w= .ok false w:=fun d=>by simp[Op.equalIn,run_underlying h]
 simp only[binOp]
 simp[Op.equal,Op.maxDepth,h0 9999]
theorem afG (t e:TypeId) (a:Addr) (h:P.underlying t=some (.pointer e)):(binOp .eql t (.pointer none) (.pointer (some a))).run P w= .ok (.bool false) w:=by
 have h0: ∀d:Nat,(Op.equalIn (d+1) t (.pointer none) (.pointer (some a))).run P w= .ok false w:=fun d=>by simp[Op.equalIn,run_underlying h]
 simp only[binOp]
 simp[Op.equal,Op.maxDepth,h0 9999]
theorem afH (t e:TypeId) (a:Addr) (h:P.underlying t=some (.pointer e)):(binOp .neq t (.pointer none) (.pointer (some a))).run P w= .ok (.bool (!false)) w:=by
 have h0: ∀d:Nat,(Op.equalIn (d+1) t (.pointer none) (.pointer (some a))).run P w= .ok false w:=fun d=>by simp[Op.equalIn,run_underlying h]
 simp only[binOp]
 simp[Op.equal,Op.maxDepth,h0 9999]
theorem afI (t e:TypeId) (h:P.underlying t=some (.pointer e)):(binOp .eql t (.pointer none) (.pointer none)).run P w= .ok (.bool true) w:=by
 have h0: ∀d:Nat,(Op.equalIn (d+1) t (.pointer none) (.pointer none)).run P w= .ok true w:=fun d=>by simp[Op.equalIn,run_underlying h]
 simp only[binOp]
 simp[Op.equal,Op.maxDepth,h0 9999]
theorem afJ (t e:TypeId) (h:P.underlying t=some (.pointer e)):(binOp .neq t (.pointer none) (.pointer none)).run P w= .ok (.bool (!true)) w:=by
 have h0: ∀d:Nat,(Op.equalIn (d+1) t (.pointer none) (.pointer none)).run P w= .ok true w:=fun d=>by simp[Op.equalIn,run_underlying h]
 simp only[binOp]
 simp[Op.equal,Op.maxDepth,h0 9999]
end
theorem H5 (S:aQ P w I β hp B M w0) {op:BinOp} {t:TypeId} {b:Bool} {x y:Operand} {v1 v2:Value} {r:R} {rd:List Nat} (h:(ptrEq P op t b).run C hp=some (r,rd)) (hg:(eqGuard op t x y v1 v2).run P w= .ok () w)
  (he: ∀e j,P.underlying t=some (.pointer e)→P.info? e=some j→(binOp .eql t v1 v2).run P w= .ok (.bool b) w∧(binOp .neq t v1 v2).run P w= .ok (.bool (!b)) w):
  dt P ((do eqGuard op t x y v1 v2;binOp op t v1 v2:Sem Value).run P w) w I β hp B M w0 r:=by
 unfold ptrEq at h
 cases hu:P.underlying t with
 | none=>rw[hu] at h;cases h
 | some d=>
  rw[hu] at h
  cases d<;>simp only at h<;>first|(cases h;done)|skip
  rename_i e
  obtain ⟨h1,h2⟩:=aU h
  obtain ⟨j,hj⟩:=BR.1 h1
  obtain ⟨k1,k2⟩:=he e j hu hj
  cases op<;>simp only at h2<;>first|(cases h2;done)|skip
  ·obtain rfl:=bj h2
   exact .same S (by simp only[Sem.run_bind,hg,Result.andThen_ok,k1]) .bool
  ·obtain rfl:=bj h2
   exact .same S (by simp only[Sem.run_bind,hg,Result.andThen_ok,k2]) .bool
theorem afK {b n:Nat}:(∀b',b'≠b→(w.freeze ⟨b,0,none⟩ n).heap[b']? =w.heap[b']?)∧bsize (w.freeze ⟨b,0,none⟩ n) b=bsize w b∧w.heap.size≤(w.freeze ⟨b,0,none⟩ n).heap.size∧(w.freeze ⟨b,0,none⟩ n).os=w.os∧(w.freeze ⟨b,0,none⟩ n).output=w.output:=by
 unfold World.freeze
 split
 ·exact ⟨fun _ _=>rfl,rfl,bC _,rfl,rfl⟩
 ·refine ⟨fun b' hb=> ?_,?_,by simp,rfl,rfl⟩
  ·simp only[BT]
   rw[aj (fun e=>hb e.symm)]
  ·simp only[bsize,BT,cL]
   cases w.heap[b]? with
   | none=>rfl
   | some o=>cases o<;>rfl
theorem afL {e:TypeId} (hb:isByte P e=true):P.underlying e=some (.int .u8):=by
 unfold isByte at hb
 split at hb
 ·assumption
 ·cases hb
theorem afM (S:aQ P w I β hp B M w0) {ts:Array TypeId} {ty e:TypeId} {v:Value} {id:Nat} {es:List V} {fz:Bool} (hv:aq P w I β hp v (.whole e id)) (af:hp id=some (.arr e es fz)) (h0:0<es.length):
  dt P ((Builtin.unsafeSliceData_ ts ty #[v]).run P w) w I β hp B M w0 ⟨.ptr id 0 0,[]⟩:=by
 cases hv with
 | eL h=>rw[af] at h;cases h
 | eo h _=>rw[af] at h;cases h;simp at h0
 | eU h _ _ _ _=>rw[af] at h;cases h
 | @whole _ _ bf oH b cap h hb cG hle hm=>
  rw[af] at h;cases h
  refine .same S (Lib.run_unsafeSliceData_row w ts ty ⟨b,0,none⟩ es.length cap (by omega)) ?_
  have:=aq.ptr (P:=P) (w:=w) (I:=I) (β:=β) (i:=0) (c:=0) af (by simp) hb
  simpa using this
theorem afN (S:aQ P w I β hp B M w0) {t u ty e:TypeId} {vx:Value} {id:Nat} {n:Int} {es:List V} (hu:P.underlying t=some (.pointer e)) (hb:isByte P e=true) (hv:aq P w I β hp vx (.ptr id 0 0))
  (af:hp id=some (.arr e es false)) (h0:0<n) (hn:n≤es.length) (hm:n.toNat≤B6) (fM:(es.take n.toNat).all Mf=true):dt P ((Builtin.unsafeString_ #[t,u] ty #[vx,.int .i64 n]).run P w) w I β hp B M w0 ⟨.str (oG (es.take n.toNat)),[(id,.dead)]⟩:=by
 obtain ⟨b,Nl,rfl⟩:=hv.iT af (by simp)
 have he:P.underlying e=some (.int .u8):=by
  unfold isByte at hb
  split at hb
  ·assumption
  ·cases hb
 have oX:b7 P e=false:=by simp[b7,he]
 have hr:=S.h.rel id _ af
 rw[Nl] at hr
 cases hr with
 | ep aI=>cases aI
 | @arr _ _ _ b1 Ca aw nj hh hs hI dj cH=>
  cases nj
  have h1:P.cellsOf e=1:=by rw[←(lH aw).1,Cz oX];rfl
  have aR:=S.aep af (by simp) Nl
  have hl:(oG (es.take n.toNat)).length=n.toNat:=by simp[oG];omega
  have CX:n=((oG (es.take n.toNat)).length:Nat):=by rw[hl];omega
  have dr:=Lib.run_unsafeString_row (P:=P) w t u ty e hu h1 b Ca.size (by simp[World.shape?,hh]) (oG (es.take n.toNat)) (fun h=>by rw[h] at hl;simp at hl;omega) (by rw[hl];rw[h1] at hs;omega) (by rw[hl];unfold B6 at hm;omega) (fun j x hx=>by
   have hj:j<n.toNat:=by
    have:=(bL.1 hx).1
    rw[hl] at this;exact this
   have jo:j<es.length:=by omega
   simp only[oG,fI,fT hj,cq jo,Option.map_some,eb] at hx
   obtain ⟨v,zO,bM⟩:=cH j 0 es[j] e (cq jo) (by simp[bx,oX]) (by omega)
   rw[h1] at zO
   simp only[ch,oX,cond_false] at bM
   have:=Nj he bM
   have hr:=gn.1 fM es[j] (kN (by rw[fT hj];exact cq jo))
   simp only[Mf,aT,dC] at hr
   have oS:(x.toNat:Int)=es[j].toInt:=by
    rw[←hx]
    have:es[j].toInt.toNat<256:=by omega
    simp only[UInt8.toNat_ofNat']
    omega
   rw[oQ,cell?_cells hh,oS]
   rw[show 0+j=j*1+0 by omega,zO,this])
  obtain ⟨f1,f2,f3,f4,f5⟩:=afK (w:=w) (b:=b) (n:=n.toNat)
  obtain ⟨k1,k2⟩:=Hw (w':=w.freeze ⟨b,0,none⟩ n.toNat) S af (by simp) (blk':= .dead) (by trivial) Nl (dj rfl) (by simp) f1 f2 f3 ⟨f4,f5⟩ (fun _=> .dead)
  rw[←CX,hl] at dr
  refine ⟨.string ⟨(oG (es.take n.toNat)).toArray⟩,_,I,β,?_,k1,k2,.str ?_⟩
  ·simpa using dr
  ·rfl
def Nn:Op→Bool
 | .call {callee:= .value (.func _),..}=>true
 | .call {callee:= .value (.tmp _),..}=>true
 | .defer _=>true
 | _=>false
theorem qW.val {o:Oper} {a:Act} {s:Sem Value} {r:R} (he:execOp a.eval o=(do Pure.pure (Next.value (←s)))) (h:dt P (s.run P w) w I β hp B M w0 r):qW P ((execOp a.eval o).run P w) w I β hp B M w0 r:=by
 rw[he];exact h.op
theorem afO {A:cP} (S:aQ P w I β hp B M w0) (hg:iD P A.aO w I) {a:Act} {sl:Nat→V} (hs:mh P w I β hp a sl) {ix nb:Nat} {o:Oper} (No:Nn o.op=false) {r:R} {rd:List Nat}
  (h:(gq P A sl ix nb o).run C hp=some (r,rd)):qW P ((execOp a.eval o).run P w) w I β hp B M w0 r:=by
 obtain ⟨dst,op,ty,pos,after,guard⟩:=o
 cases op<;>simp only[gq] at h<;>first|(cases h;done)|skip
 case move x=>
  obtain rfl:=bj h
  exact ⟨_,w,I,β,.inl (by simp[execOp]),Le.refl w I β hp,S,hs.ev hg ty x⟩
 case assign x=>
  obtain rfl:=bj h
  exact ⟨_,w,I,β,.inl (by simp[execOp]),Le.refl w I β hp,S,hs.ev hg ty x⟩
 case pick c x y=>
  have hc:=hs.ev hg ty c
  cases wx:bm P A.aO ty sl c<;>rw[wx] at h hc<;>simp only at h<;>first|(cases h;done)|skip
  rename_i t
  have afP:=hc.lI
  have hx:=hs.ev hg ty x
  have hy:=hs.ev hg ty y
  have fin: ∀z:V,aq P w I β hp (if t then a.eval x else a.eval y) z→qW P ((execOp a.eval ⟨dst,.pick c x y,ty,pos,after,guard⟩).run P w) w I β hp B M w0 ⟨z,[]⟩:=by
   intro z hz
   exact ⟨_,w,I,β,.inl (by simp[execOp,afP,asBool]),Le.refl w I β hp,S,hz⟩
  cases H6:gone (bm P A.aO ty sl x) with
  | true=>
   rw[H6] at h
   obtain ⟨h1,h⟩:=aU h
   obtain rfl:=bj h
   have:t=false:=by simpa using h1
   subst this
   refine fin _ ?_
   simpa using hy
  | false=>
   rw[H6] at h
   simp only[cond_false] at h
   cases V6:gone (bm P A.aO ty sl y) with
   | true=>
    rw[V6] at h
    obtain ⟨h1,h⟩:=aU h
    obtain rfl:=bj h
    subst h1
    refine fin _ ?_
    simpa using hx
   | false=>
    rw[V6] at h
    obtain rfl:=bj h
    exact fin _ (UW hx hy)
 case makeFunc fn x y=>
  cases fn<;>simp only[gq] at h<;>first|(cases h;done)|skip
  rename_i f
  obtain rfl:=bj h
  refine ⟨.func (.func f) (x.map a.eval) (y.map a.eval),w,I,β,.inl (by simp[execOp,Instr.makeFunc]),Le.refl w I β hp,S,.fn (by simp) (fun j v z hj hz=> ?_) (by simp) (fun j v z hj hz=> ?_)⟩
  ·rw[Array.getElem?_map] at hj
   rw[fI,ua] at hz
   cases hx:x[j]? with
   | none=>rw[hx] at hj;cases hj
   | some o1=>
    rw[hx] at hj hz
    cases hj
    cases hz
    exact hs.ev hg ty o1
  ·rw[Array.getElem?_map] at hj
   rw[fI,ua] at hz
   cases hx:y[j]? with
   | none=>rw[hx] at hj;cases hj
   | some o1=>
    rw[hx] at hj hz
    cases hj
    cases hz
    exact hs.ev hg ty o1
 case defer c=>cases No
 case makeMap t res=>
  cases res with
  | some x=>cases h
  | none=>exact .val rfl (aft S h)
 case lookup t m k ok=>
  cases ht:nc P t with
  | none=>rw[ht] at h;cases h
  | some q=>
   obtain ⟨kt,vt⟩:=q
   rw[ht] at h
   exact .val (s:=Instr.lookup t (a.eval m) (a.eval k) ok) rfl (afs S ht (hs.ev hg t m) (hs.ev hg kt k) h)
 case mapUpdate t m k x=>
  cases ht:nc P t with
  | none=>rw[ht] at h;cases h
  | some q=>
   obtain ⟨kt,vt⟩:=q
   rw[ht] at h
   have:=VX S ht (hs.ev hg t m) (hs.ev hg kt k) (hs.ev hg vt x) h
   exact this.op
 case insert t m k x=>
  cases ht:nc P t with
  | none=>rw[ht] at h;cases h
  | some q=>
   obtain ⟨kt,vt⟩:=q
   rw[ht] at h
   have:=VX S ht (hs.ev hg t m) (hs.ev hg kt k) (hs.ev hg vt x) h
   exact this.op
 case alloc e=>
  exact .val rfl (aeU S h)
 case box e x=>
  exact .val rfl (aeV S (hs.ev hg e x) h)
 case build t ps=>exact .val rfl (aeX S hs hg h)
 case buildSlice t len ps=>
  cases hu:P.underlying t with
  | none=>rw[hu] at h;cases h
  | some d=>
   rw[hu] at h
   cases d<;>simp only at h<;>first|(cases h;done)|skip
   exact .val rfl (ae3 S hs hg hu h)
 case load t x=>exact .val rfl (aeD S (hs.ev hg ty x) h)
 case store t x y=>
  have:=aeT S (hs.ev hg ty x) (hs.ev hg t y) h
  exact this.op
 case nilCheck x=>
  have hx:=hs.ev hg ty x
  cases gh:bm P A.aO ty sl x<;>rw[gh] at h hx<;>simp only at h<;>first|(cases h;done)|skip
  ·obtain ⟨⟨blk,af,hd⟩,l,h⟩:=zw h
   obtain rfl:=bj h
   have cT:=hx
   obtain ⟨b,hb,he⟩:=hx.iT af hd
   rw[he] at cT
   exact ⟨_,w,I,β,.inl (by simp only[execOp,he];rfl),Le.refl w I β hp,S,cT⟩
  ·obtain rfl:=bj h
   have cT:=hx
   obtain ⟨b,o,he,_⟩:=hx.Hz
   rw[he] at cT
   exact ⟨_,w,I,β,.inl (by simp only[execOp,he];rfl),Le.refl w I β hp,S,cT⟩
  ·obtain ⟨e0,es,av,l,af,h1,h2,h3,h⟩:=pO h
   obtain rfl:=bj h
   have cT:=hx
   obtain ⟨b,o,he,_⟩:=hx.UT af h1 h2 h3
   rw[he] at cT
   exact ⟨_,w,I,β,.inl (by simp only[execOp,he];rfl),Le.refl w I β hp,S,cT⟩
 case binOp op t x y yt=>
  have hx:=hs.ev hg t x
  have hy:=hs.ev hg t y
  refine .val (s:=do eqGuard op t x y (a.eval x) (a.eval y);binOp op t (a.eval x) (a.eval y)) rfl ?_
  cases gh:bm P A.aO t sl x<;>cases uK:bm P A.aO t sl y<;>rw[gh,uK] at h<;>rw[gh] at hx<;>rw[uK] at hy<;>first|(simp only[lz] at h;cases h;done)|skip
  ·rw[hx.eD,hy.eD]
   have:=aeu S h
   simpa[aer] using this
  ·rw[hx.lI,hy.lI]
   have:=aew S h
   simpa[aes] using this
  ·obtain ⟨s1,e1,l1⟩:=hx.nT
   obtain ⟨s2,e2,l2⟩:=hy.nT
   rw[e1,e2]
   rw[←l1,←l2] at h
   have:=aex (t:=t) S h
   simpa[aet] using this
  ·obtain ⟨cs,e1,h1,h2⟩:=hx.mj
   obtain ⟨ds,e2,h3,h4⟩:=hy.mj
   rw[e1,e2]
   exact aey S h1 h3 h2 h4 h
  ·
   simp only[lz] at h
   obtain ⟨h1,h2⟩:=aU h
   clear h
   simp only[aT,bq] at h1
   obtain ⟨rfl,rfl,rfl⟩:=h1
   obtain ⟨⟨blk,af,hd⟩,l,h⟩:=zw h2
   obtain ⟨b,hb,e1⟩:=hx.iT af hd
   obtain ⟨b',aI,e2⟩:=hy.iT af hd
   rw[hb] at aI;cases aI
   rw[e1,e2]
   exact H5 S h (by cases op<;>simp[eqGuard]) fun e j he hj=>⟨run_eql_ptr_same w _ he hj,Lib.run_neq_ptr_same w _ he hj⟩
  ·simp only[lz] at h
   obtain ⟨⟨blk,af,hd⟩,l,h⟩:=zw h
   obtain ⟨b,_,e1⟩:=hx.iT af hd
   rw[e1,hy.H4]
   exact H5 S h (by cases op<;>simp[eqGuard]) fun e j he hj=>⟨afE w t e _ he,afF w t e _ he⟩
  ·simp only[lz] at h
   obtain ⟨⟨blk,af,hd⟩,l,h⟩:=zw h
   obtain ⟨b,_,e1⟩:=hy.iT af hd
   rw[e1,hx.H4]
   exact H5 S h (by cases op<;>simp[eqGuard]) fun e j he hj=>⟨afG w t e _ he,afH w t e _ he⟩
  ·simp only[lz] at h
   rw[hx.H4,hy.H4]
   exact H5 S h (by cases op<;>simp[eqGuard]) fun e j he hj=>⟨afI w t e he,afJ w t e he⟩
  ·
   simp only[lz] at h
   obtain ⟨l,h⟩:=run_get h
   split at h
   ·rename_i t2 es af
    obtain ⟨b,hb⟩:=hx.afx af
    rw[hy.Ni,hb]
    exact V1 (a:=some b) S x y h
   ·cases h
  ·simp only[lz] at h
   rw[hx.Ni,hy.Ni]
   exact V1 (a:=none) S x y h
 case unOp op t x=>exact .val rfl (aez S (hs.ev hg ty x) h)
 case convert src dst x=>
  have hx:=hs.ev hg ty x
  refine .val (s:=convert src dst (a.eval x)) rfl ?_
  cases jO:P.underlying src with
  | none=>rw[jO] at h;cases h
  | some d1=>
   cases np:P.underlying dst with
   | none=>rw[jO,np] at h;cases d1<;>cases h
   | some d2=>
    rw[jO,np] at h
    have iC: ∀{b:Nat} {T:TypeId} {cs:List V} {id:Nat},hp id=some (.var T cs)→β id=some b→w.shape? b=some (T,cs.length):=by
     intro b T cs id af hb
     have hr:=S.h.rel id _ af
     rw[hb] at hr
     cases hr with
     | var aI hh bw _ _ _=>cases aI;simp[World.shape?,hh,bw]
    cases d1<;>(try (cases d2<;>cases h;done))
    ·cases d2<;>(try (cases h;done))
     rename_i k1 k2
     cases gh:bm P A.aO ty sl x<;>rw[gh] at h hx<;>simp only at h<;>first|(cases h;done)|skip
     obtain rfl:=bj h
     rw[hx.eD]
     exact .same S (by simp[convert,run_underlying jO,run_underlying np,Conv.intToInt]) .int
    ·cases d2<;>(try (cases h;done))
     rename_i u
     cases gh:bm P A.aO ty sl x<;>rw[gh] at h hx<;>simp only at h<;>first|(cases h;done)|skip
     rename_i id i c
     obtain ⟨l,h1⟩:=run_get h
     cases af:hp id with
     | none=>rw[af] at h1;cases h1
     | some blk=>
      rw[af] at h1
      cases blk<;>simp only at h1<;>first|(cases h1;done)|skip
      rename_i T cs
      obtain ⟨h2,h3⟩:=aU h1
      simp only[aT,bq] at h2
      obtain ⟨rfl,h4,h5⟩:=h2
      obtain ⟨b,hb,e1⟩:=hx.iT af (by simp)
      obtain rfl:=bj h3
      obtain ⟨j,hj⟩:=BR.1 h4
      have cT:=hx
      rw[e1] at cT⊢
      exact .same S (Lib.run_from_unsafe w _ jO np hj (iC af hb) (by simpa using h5)) cT
    ·cases d2<;>(try (cases h;done))
     rename_i t
     cases gh:bm P A.aO ty sl x<;>rw[gh] at h hx<;>simp only at h<;>first|(cases h;done)|skip
     rename_i id i c
     obtain ⟨l,h1⟩:=run_get h
     cases af:hp id with
     | none=>rw[af] at h1;cases h1
     | some blk=>
      rw[af] at h1
      cases blk<;>simp only at h1<;>first|(cases h1;done)|skip
      rename_i T cs
      obtain ⟨h2,h3⟩:=aU h1
      simp only[aT,bq,ll] at h2
      obtain ⟨rfl,h4,h5⟩:=h2
      obtain ⟨b,hb,e1⟩:=hx.iT af (by simp)
      obtain rfl:=bj h3
      cases hj:P.info? t with
      | none=>rw[hj] at h5;cases h5
      | some j=>
       rw[hj] at h5
       simp only[l7] at h5
       have h6:j.size≠0:=fun e=>by rw[e] at h5;cases h5
       have cT:=hx
       rw[e1] at cT⊢
       exact .same S (Lib.run_to_unsafe w _ jO np hj h6 (iC af hb) (by simpa using h4)) cT
    ·rename_i e
     cases d2<;>(try (cases h;done))
     simp only at h
     cases he:P.underlying e with
     | none=>rw[he] at h;cases h
     | some d3=>
      rw[he] at h
      cases d3<;>(try (cases h;done))
      rename_i k
      cases k<;>(try (cases h;done))
      exact afD S jO he np hx h
 case fieldAddr s x f=>exact .val rfl (aeA S (hs.ev hg ty x) h)
 case field s x f=>exact .val rfl (aff S (hs.ev hg ty x) h)
 case indexAddr t x y=>exact .val rfl (afl S (hs.ev hg ty x) (hs.ev hg 0 y) h)
 case index t x y=>
  have hx:=hs.ev hg ty x
  have hy:=hs.ev hg 0 y
  refine .val (s:=Instr.index t (a.eval x) (a.eval y)) rfl ?_
  cases hu:P.underlying t with
  | none=>rw[hu] at h;cases h
  | some d=>
   rw[hu] at h
   cases d<;>(try (cases h;done))
   cases gh:bm P A.aO ty sl x<;>rw[gh] at h hx<;>(try (cases h;done))
   cases uK:bm P A.aO 0 sl y<;>rw[uK] at h hy<;>(try (cases h;done))
   obtain ⟨s,e1,l1⟩:=hx.nT
   rw[e1,hy.eD]
   exact afh S hu l1 h
 case slice t x lo hi mx=>
  cases mx with
  | some m=>
   simp only at h
   refine .val (s:=Instr.sliceAt t (a.eval x) (lo.map a.eval) (hi.map a.eval) (some (a.eval m))) (by simp[execOp]) (afk S (hs.ev hg ty x) (fun hy=> ?_) (fun y hy=> ?_) (fun y hy=> ?_) h)
   ·cases lo with
    | none=>rfl
    | some l=>cases hy
   ·cases hi with
    | none=>cases hy
    | some l=>cases hy;exact ⟨_,rfl,hs.ev hg 0 l⟩
   ·cases hy;exact ⟨_,rfl,hs.ev hg 0 m⟩
  | none=>
   simp only at h
   have plain:(Ha P t (bm P A.aO ty sl x) (lo.map (bm P A.aO 0 sl)) (hi.map (bm P A.aO 0 sl))).run C hp=some (r,rd)→qW P ((execOp a.eval ⟨dst,.slice t x lo hi none,ty,pos,after,guard⟩).run P w) w I β hp B M w0 r:=by
    intro h
    refine .val (s:=Instr.sliceAt t (a.eval x) (lo.map a.eval) (hi.map a.eval) none) (by simp[execOp]) (afj S (hs.ev hg ty x) (fun y hy=> ?_) (fun y hy=> ?_) (fun hy=> ?_) (fun hy=> ?_) h)
    ·cases lo with
     | none=>cases hy
     | some l=>cases hy;exact ⟨_,rfl,hs.ev hg 0 l⟩
    ·cases hi with
     | none=>cases hy
     | some l=>cases hy;exact ⟨_,rfl,hs.ev hg 0 l⟩
    ·cases lo with
     | none=>rfl
     | some l=>cases hy
    ·cases hi with
     | none=>rfl
     | some l=>cases hy
   have tr:(Hb P nb t (bm P A.aO ty sl x) (lo.map (bm P A.aO 0 sl)) (hi.map (bm P A.aO 0 sl))).run C hp=some (r,rd)→qW P ((execOp a.eval ⟨dst,.slice t x lo hi none,ty,pos,after,guard⟩).run P w) w I β hp B M w0 r:=by
    intro h
    refine .val (s:=Instr.sliceAt t (a.eval x) (lo.map a.eval) (hi.map a.eval) none) (by simp[execOp]) (afn S (hs.ev hg ty x) (fun y hy=> ?_) (fun hy=> ?_) h)
    ·cases hi with
     | none=>cases hy
     | some l=>cases hy;exact ⟨_,rfl,hs.ev hg 0 l⟩
    ·cases lo with
     | none=>rfl
     | some l=>cases hy
   cases dst with
   | none=>exact plain h
   | some d=>
    simp only at h
    cases V7:lu A.zc d with
    | true=>rw[V7] at h;exact tr h
    | false=>rw[V7] at h;exact plain h
 case extract x i=>
  have hx:=hs.ev hg ty x
  cases gh:bm P A.aO ty sl x<;>rw[gh] at h hx<;>simp only at h<;>first|(cases h;done)|skip
  exact .val (s:=Instr.extract (a.eval x) i) rfl (afg S hx h)
 case makeSlice t l c=>
  have hl:=hs.ev hg 0 l
  have hc:=hs.ev hg 0 c
  refine .val (s:=Instr.makeSlice t (a.eval l) (a.eval c)) rfl ?_
  cases hu:P.underlying t with
  | none=>rw[hu] at h;cases h
  | some d=>
   rw[hu] at h
   cases d<;>(try (cases h;done))
   cases Np:bm P A.aO 0 sl l<;>rw[Np] at h hl<;>(try (cases h;done))
   cases wx:bm P A.aO 0 sl c<;>rw[wx] at h hc<;>(try (cases h;done))
   rw[hl.eD,hc.eD]
   cases dst with
   | none=>exact Vy S hu h
   | some d=>
    simp only at h
    cases hg:lu A.zc d with
    | true=>rw[hg] at h;exact ae5 S hu h
    | false=>rw[hg] at h;exact Vy S hu h
 case call c=>
  obtain ⟨callee,args,argTypes⟩:=c
  cases callee with
  | invoke r m=>cases h
  | value f=>
   cases f with
   | func f=>cases No
   | tmp f=>cases No
   | _=>cases h
  | builtin b=>
   have one: ∀{x:Operand},args.toList=[x]→args= #[x]:=fun h=>by rw[←Array.toArray_toList (xs:=args),h]
   have sZ: ∀(s:Array TypeId→TypeId→Array Value→Sem Value),builtin b argTypes ty (args.map fun| .const _=>true|_=>false) (args.map a.eval)=(do Pure.pure (Next.value (←s argTypes ty (args.map a.eval))))→
     execOp a.eval ⟨dst,.call ⟨.builtin b,args,argTypes⟩,ty,pos,after,guard⟩=(do Pure.pure (Next.value (←s argTypes ty (args.map a.eval)))):=by
    intro s hb
    simp only[execOp,resolve,pure_bind,invoke]
    exact hb
   cases b<;>(try (cases h;done))
   case append=>
    simp only at h
    cases ha:args.toList with
    | nil=>rw[ha] at h;cases h
    | cons x l=>
     cases l with
     | nil=>rw[ha] at h;cases h
     | cons y l2=>
      cases l2 with
      | cons _ _=>rw[ha] at h;cases h
      | nil=>
       cases dO:argTypes.toList with
       | nil=>rw[ha,dO] at h;cases h
       | cons t l3=>
        cases l3 with
        | nil=>rw[ha,dO] at h;cases h
        | cons u l4=>
         cases l4 with
         | cons _ _=>rw[ha,dO] at h;cases h
         | nil=>
          rw[ha,dO] at h
          simp only at h
          have e1:args= #[x,y]:=by rw[←Array.toArray_toList (xs:=args),ha]
          have e2:argTypes= #[t,u]:=by rw[←Array.toArray_toList (xs:=argTypes),dO]
          cases hu:P.underlying t with
          | none=>rw[hu] at h;cases h
          | some d=>
           rw[hu] at h
           cases d<;>(try (cases h;done))
           cases hc:Nat.beq t u with
           | true=>
            rw[hc] at h
            rw[bq] at hc
            subst hc
            have:=ae7 (ty:=ty) S hu (hs.ev hg t x) (hs.ev hg t y) h
            refine .val (sZ Builtin.append_ rfl) ?_
            rw[e1,e2]
            simpa using this
           | false=>
            rw[hc] at h
            simp only[cond_false] at h
            have hy:=hs.ev hg u y
            cases pU:P.underlying u with
            | none=>rw[pU] at h;cases h
            | some du=>
             rw[pU] at h
             cases du<;>(try (cases h;done))
             cases uK:bm P A.aO u sl y<;>rw[uK] at h hy<;>(try (cases h;done))
             simp only at h
             obtain ⟨hb,h⟩:=aU h
             obtain ⟨s1,q1,q2⟩:=hy.nT
             subst q2
             have:=afC (ty:=ty) S hu pU (afL hb) (hs.ev hg t x) h
             refine .val (sZ Builtin.append_ rfl) ?_
             rw[e1,e2]
             simpa[q1] using this
   case len=>
    simp only at h
    cases ha:args.toList with
    | nil=>rw[ha] at h;cases h
    | cons x l=>
     cases l with
     | cons _ _=>rw[ha] at h;cases h
     | nil=>
      cases dO:argTypes.toList with
      | nil=>rw[ha,dO] at h;cases h
      | cons t l3=>
       cases l3 with
       | cons _ _=>rw[ha,dO] at h;cases h
       | nil=>
        rw[ha,dO] at h
        simp only at h
        have e1:args= #[x]:=by rw[←Array.toArray_toList (xs:=args),ha]
        have e2:argTypes= #[t]:=by rw[←Array.toArray_toList (xs:=argTypes),dO]
        have hx:=hs.ev hg ty x
        refine .val (sZ Builtin.len_ rfl) ?_
        rw[e1,e2]
        cases hu:P.underlying t with
        | none=>rw[hu] at h;cases h
        | some d=>
         rw[hu] at h
         cases d<;>(try (cases h;done))
         ·cases gh:bm P A.aO ty sl x<;>rw[gh] at h hx<;>(try (cases h;done))
          have:=UX (t:=t) (ty:=ty) S hx (fun l hl=>hu) (fun hn=>absurd rfl (hn _)) h
          simpa using this
         ·have h2:(∀l,bm P A.aO ty sl x≠ .str l)∧(G5 P (bm P A.aO ty sl x)).run C hp=some (r,rd):=by
           cases gh:bm P A.aO ty sl x<;>rw[gh] at h<;>first|(cases h;done)|exact ⟨fun l=>by simp,h⟩
          have:=UX (t:=t) (ty:=ty) S hx (fun l hl=>absurd hl (h2.1 l)) (fun _=>⟨_,hu⟩) h2.2
          simpa using this
         ·have h2:(G9 (bm P A.aO ty sl x)).run C hp=some (r,rd):=by
           cases gh:bm P A.aO ty sl x<;>rw[gh] at h<;>exact h
          have:=afw (t:=t) (ty:=ty) S hu hx h2
          simpa using this
   case unsafeSliceData=>
    simp only at h
    cases ha:args.toList with
    | nil=>rw[ha] at h;cases h
    | cons x l=>
     cases l with
     | cons _ _=>rw[ha] at h;cases h
     | nil=>
      rw[ha] at h
      simp only at h
      have e1:args= #[x]:=by rw[←Array.toArray_toList (xs:=args),ha]
      have hx:=hs.ev hg ty x
      refine .val (sZ Builtin.unsafeSliceData_ rfl) ?_
      rw[e1]
      cases gh:bm P A.aO ty sl x<;>rw[gh] at h hx<;>simp only at h<;>first|(cases h;done)|skip
      rename_i e id
      obtain ⟨l2,h1⟩:=run_get h
      cases af:hp id with
      | none=>rw[af] at h1;cases h1
      | some blk=>
       rw[af] at h1
       cases blk<;>simp only at h1<;>first|(cases h1;done)|skip
       rename_i e' es fz
       obtain ⟨h2,h3⟩:=aU h1
       simp only[aT,bq,ll] at h2
       obtain ⟨rfl,h4⟩:=h2
       obtain rfl:=bj h3
       have:=afM (ts:=argTypes) (ty:=ty) S hx af h4
       simpa using this
   case unsafeString=>
    simp only at h
    cases ha:args.toList with
    | nil=>rw[ha] at h;cases h
    | cons x l=>
     cases l with
     | nil=>rw[ha] at h;cases h
     | cons y l2=>
      cases l2 with
      | cons _ _=>rw[ha] at h;cases h
      | nil=>
       cases dO:argTypes.toList with
       | nil=>rw[ha,dO] at h;cases h
       | cons t l3=>
        cases l3 with
        | nil=>rw[ha,dO] at h;cases h
        | cons u l4=>
         cases l4 with
         | cons _ _=>rw[ha,dO] at h;cases h
         | nil=>
          rw[ha,dO] at h
          simp only at h
          have e1:args= #[x,y]:=by rw[←Array.toArray_toList (xs:=args),ha]
          have e2:argTypes= #[t,u]:=by rw[←Array.toArray_toList (xs:=argTypes),dO]
          have hx:=hs.ev hg ty x
          have hy:=hs.ev hg ty y
          cases hu:P.underlying t with
          | none=>rw[hu] at h;cases h
          | some d=>
           rw[hu] at h
           cases d<;>(try (cases h;done))
           rename_i e
           cases gh:bm P A.aO ty sl x<;>rw[gh] at h hx<;>(try (cases h;done))
           cases uK:bm P A.aO ty sl y<;>rw[uK] at h hy<;>(try (cases h;done))
           rename_i id i c k n
           cases k<;>(try (cases h;done))
           simp only at h
           obtain ⟨l2,h1⟩:=run_get h
           cases af:hp id with
           | none=>rw[af] at h1;cases h1
           | some blk=>
            rw[af] at h1
            cases blk<;>simp only at h1<;>first|(cases h1;done)|skip
            rename_i e' es fz
            cases fz<;>simp only at h1<;>first|(cases h1;done)|skip
            obtain ⟨h2,h3⟩:=aU h1
            simp only[aT,bq,fa,dC] at h2
            obtain ⟨rfl,h4,rfl,rfl,h5,h6,h7,h8⟩:=h2
            obtain rfl:=bj h3
            have:=afN (u:=u) (ty:=ty) S hu h4 hx af h5 h6 h7 h8
            refine .val (sZ Builtin.unsafeString_ rfl) ?_
            rw[e1,e2]
            simpa[hy.eD] using this
   case copy=>
    simp only at h
    cases ha:args.toList with
    | nil=>rw[ha] at h;cases h
    | cons x l=>
     cases l with
     | nil=>rw[ha] at h;cases h
     | cons y l2=>
      cases l2 with
      | cons _ _=>rw[ha] at h;cases h
      | nil=>
       cases dO:argTypes.toList with
       | nil=>rw[ha,dO] at h;cases h
       | cons t l3=>
        cases l3 with
        | nil=>rw[ha,dO] at h;cases h
        | cons u l4=>
         cases l4 with
         | cons _ _=>rw[ha,dO] at h;cases h
         | nil=>
          rw[ha,dO] at h
          simp only at h
          have e1:args= #[x,y]:=by rw[←Array.toArray_toList (xs:=args),ha]
          have e2:argTypes= #[t,u]:=by rw[←Array.toArray_toList (xs:=argTypes),dO]
          cases hu:P.underlying t with
          | none=>rw[hu] at h;cases h
          | some d=>
           rw[hu] at h
           cases d<;>(try (cases h;done))
           have:=afc (u:=u) (ty:=ty) S hu (hs.ev hg t x) (hs.ev hg u y) h
           refine .val (sZ Builtin.copy_ rfl) ?_
           rw[e1,e2]
           simpa using this
   case clear=>
    simp only at h
    cases ha:args.toList with
    | nil=>rw[ha] at h;cases h
    | cons x l=>
     cases l with
     | cons _ _=>rw[ha] at h;cases h
     | nil=>
      cases dO:argTypes.toList with
      | nil=>rw[ha,dO] at h;cases h
      | cons t l3=>
       cases l3 with
       | cons _ _=>rw[ha,dO] at h;cases h
       | nil=>
        rw[ha,dO] at h
        simp only at h
        have e1:args= #[x]:=by rw[←Array.toArray_toList (xs:=args),ha]
        have e2:argTypes= #[t]:=by rw[←Array.toArray_toList (xs:=argTypes),dO]
        cases hu:P.underlying t with
        | none=>rw[hu] at h;cases h
        | some d=>
         rw[hu] at h
         cases d<;>(try (cases h;done))
         have:=afd (ty:=ty) S hu (hs.ev hg t x) h
         refine .val (sZ Builtin.clear_ rfl) ?_
         rw[e1,e2]
         simpa using this
   case max=>
    simp only at h
    cases ha:args.toList with
    | nil=>rw[ha] at h;cases h
    | cons x l=>
     rw[ha] at h
     simp only at h
     have:=M3 S true (vs:=l.map a.eval) (xs:=l.map (bm P A.aO ty sl)) (hs.ev hg ty x) (by simp) (fun j u y hu hy=>by
      simp only[fI] at hu hy
      cases hl:l[j]? with
      | none=>rw[hl] at hu;cases hu
      | some z=>rw[hl] at hu hy;cases hu;cases hy;exact hs.ev hg ty z) h
     refine .val (sZ Builtin.max_ rfl) ?_
     simpa[Builtin.max_,ha] using this
   case min=>
    simp only at h
    cases ha:args.toList with
    | nil=>rw[ha] at h;cases h
    | cons x l=>
     rw[ha] at h
     simp only at h
     have:=M3 S false (vs:=l.map a.eval) (xs:=l.map (bm P A.aO ty sl)) (hs.ev hg ty x) (by simp) (fun j u y hu hy=>by
      simp only[fI] at hu hy
      cases hl:l[j]? with
      | none=>rw[hl] at hu;cases hu
      | some z=>rw[hl] at hu hy;cases hu;cases hy;exact hs.ev hg ty z) h
     refine .val (sZ Builtin.min_ rfl) ?_
     simpa[Builtin.min_,ha] using this
end
section
variable {P:Program} {A:cP} {w w':World} {I I' I2:Nat→Prop} {μ β β':Nat→Option Nat} {hp hp':Nat→Option an} {C:ae} {B:Nat} {M:Nat→Prop} {w0:Start}
theorem zR: ∀{l m:List Nat},eS.pI l m=true→l=m
 | [],[],_=>rfl
 | [],_::_,h=>by cases h
 | _::_,[],h=>by cases h
 | a::l,b::m,h=>by
  simp only[eS.pI,aT,bq] at h
  rw[h.1,zR h.2]
@[simp] theorem V8 (n:Nat):mc (ed n)=n:=by simp[mc,ed,V.toInt]
theorem H7: ∀(path:List (Nat × Nat)) (rest:List V),Cg (path.map (·.2)) ((path.map fun p=>ed p.1)++rest)=path
 | [],_=>rfl
 | p::l,rest=>by
  simp only[dw,List.cons_append,Cg,V.nth,V8,dx,dk,H7 l rest]
theorem H8 {l:LS} {x:V} {ds:List V} (h:eS l x=some ds):ds.length=l.size∧(l= .ug∨∀rest,jI l (ds++rest)=x):=by
 cases l with
 | ug=>simp only[eS,eb] at h;subst h;exact ⟨rfl,.inl rfl⟩
 | int k=>
  cases x<;>simp only[eS] at h<;>first|(cases h;done)|skip
  rename_i k' n
  by_cases hk:k=k'
  ·subst hk
   simp only[pA,cond_true,eb] at h
   subst h
   exact ⟨rfl,.inr fun _=>rfl⟩
  ·simp[hk] at h
 | bool=>
  cases x<;>simp only[eS] at h<;>first|(cases h;done)|skip
  cases h
  exact ⟨rfl,.inr fun _=>rfl⟩
 | str=>
  cases x<;>simp only[eS] at h<;>first|(cases h;done)|skip
  cases h
  exact ⟨rfl,.inr fun _=>rfl⟩
 | list e=>
  cases x<;>simp only[eS] at h<;>first|(cases h;done)|skip
  rename_i e' es
  cases hb:Nat.beq e e' with
  | false=>rw[hb] at h;cases h
  | true=>
   rw[hb] at h
   rw[bq] at hb
   subst hb
   cases h
   exact ⟨rfl,.inr fun _=>rfl⟩
 | whole e j=>
  cases x<;>simp only[eS] at h<;>first|(cases h;done)|skip
  rename_i e' id
  cases hb:(Nat.beq e e'&&Nat.beq j id) with
  | false=>rw[hb] at h;cases h
  | true=>
   rw[hb] at h
   simp only[aT,bq] at hb
   obtain ⟨rfl,rfl⟩:=hb
   cases h
   exact ⟨rfl,.inr fun _=>rfl⟩
 | sub e j=>
  cases x<;>simp only[eS] at h<;>first|(cases h;done)|skip
  rename_i e' id o n
  cases hb:(Nat.beq e e'&&Nat.beq j id) with
  | false=>rw[hb] at h;cases h
  | true=>
   rw[hb] at h
   simp only[aT,bq] at hb
   obtain ⟨rfl,rfl⟩:=hb
   cases h
   exact ⟨rfl,.inr fun _=>by simp[jI,V.nth]⟩
 | ptr j=>
  cases x<;>simp only[eS] at h<;>first|(cases h;done)|skip
  rename_i id i c
  cases hb:(Nat.beq j id) with
  | false=>rw[hb] at h;cases h
  | true=>
   rw[hb] at h
   rw[bq] at hb
   subst hb
   cases h
   exact ⟨rfl,.inr fun _=>by simp[jI,V.nth]⟩
 | bh j i c=>
  cases x<;>simp only[eS] at h<;>first|(cases h;done)|skip
  rename_i id i' c'
  cases hb:(Nat.beq j id&&(Nat.beq i i'&&Nat.beq c c')) with
  | false=>rw[hb] at h;cases h
  | true=>
   rw[hb] at h
   simp only[aT,bq] at hb
   obtain ⟨rfl,rfl,rfl⟩:=hb
   cases h
   exact ⟨rfl,.inr fun _=>rfl⟩
 | nilS e=>
  cases x<;>simp only[eS] at h<;>first|(cases h;done)|skip
  rename_i e'
  cases hb:Nat.beq e e' with
  | false=>rw[hb] at h;cases h
  | true=>
   rw[hb] at h
   rw[bq] at hb
   subst hb
   cases h
   exact ⟨rfl,.inr fun _=>rfl⟩
 | dW=>
  cases x<;>simp only[eS] at h<;>first|(cases h;done)|skip
  cases h
  exact ⟨rfl,.inr fun _=>rfl⟩
 | cZ e j=>
  cases x<;>simp only[eS] at h<;>first|(cases h;done)|skip
  rename_i e' id
  cases hb:(Nat.beq e e'&&Nat.beq j id) with
  | false=>rw[hb] at h;cases h
  | true=>
   rw[hb] at h
   simp only[aT,bq] at hb
   obtain ⟨rfl,rfl⟩:=hb
   cases h
   exact ⟨rfl,.inr fun _=>rfl⟩
 | ec e=>
  cases x<;>simp only[eS] at h<;>first|(cases h;done)|skip
  rename_i e'
  cases hb:Nat.beq e e' with
  | false=>rw[hb] at h;cases h
  | true=>
   rw[hb] at h
   rw[bq] at hb
   subst hb
   cases h
   exact ⟨rfl,.inr fun _=>rfl⟩
 | GY k n=>
  cases x<;>simp only[eS] at h<;>first|(cases h;done)|skip
  rename_i k' m
  cases hb:(decide (k=k')&&decide (m=n)) with
  | false=>rw[hb] at h;cases h
  | true=>
   rw[hb] at h
   simp only[aT,dC] at hb
   obtain ⟨rfl,rfl⟩:=hb
   cases h
   exact ⟨rfl,.inr fun _=>rfl⟩
 | GZ b=>
  cases x<;>simp only[eS] at h<;>first|(cases h;done)|skip
  rename_i c
  cases hb:decide (b=c) with
  | false=>rw[hb] at h;cases h
  | true=>
   rw[hb] at h
   obtain rfl:=fk hb
   cases h
   exact ⟨rfl,.inr fun _=>rfl⟩
 | row e j cs=>
  cases x<;>simp only[eS] at h<;>first|(cases h;done)|skip
  rename_i e' id ver path
  cases hb:(Nat.beq e e'&&(Nat.beq j id&&(Nat.beq ver 0&&eS.pI cs (path.map (·.2))))) with
  | false=>rw[hb] at h;cases h
  | true=>
   rw[hb] at h
   simp only[aT,bq] at hb
   obtain ⟨rfl,rfl,rfl,ng⟩:=hb
   have:=zR ng
   subst this
   cases h
   exact ⟨by simp[LS.size],.inr fun rest=>by simp only[jI,H7]⟩
 | cY j cs c=>
  cases x<;>simp only[eS] at h<;>first|(cases h;done)|skip
  rename_i id ver path i c'
  cases hb:(Nat.beq j id&&(Nat.beq ver 0&&(Nat.beq c c'&&eS.pI cs (path.map (·.2))))) with
  | false=>rw[hb] at h;cases h
  | true=>
   rw[hb] at h
   simp only[aT,bq] at hb
   obtain ⟨rfl,rfl,rfl,ng⟩:=hb
   have:=zR ng
   subst this
   cases h
   exact ⟨by simp[LS.size],.inr fun rest=>by simp only[jI,List.cons_append,V.nth,V8,dx,dk,H7]⟩
def LS.below (n:Nat) (x:V):Prop:= ∀id∈eT x,id<n
def V9:V→Prop
 | .agg _=>False
 | .bJ _=>False
 | .fn .. =>False
 | .pref .. =>False
 | _=>True
theorem wE {c:Bool} {a d:List V} (h:(bif c then some a else none)=some d):c=true:=by
 cases c with
 | true=>rfl
 | false=>cases h
theorem afQ {l:LS} {x:V} {ds:List V} {n:Nat} (h:eS l x=some ds) (hl:l≠ .ug) (aw:l.ok n=true):V9 x∧LS.below n x:=by
 cases l<;>cases x<;>simp only[eS] at h<;>first|(cases h;done)|(exact absurd rfl hl)|skip
 all_goals refine ⟨trivial,fun id af=> ?_⟩
 all_goals simp only[eT,df,List.not_mem_nil] at af
 all_goals subst af
 all_goals simp only[LS.ok,ll] at aw
 all_goals
  have hb:=wE h
  simp only[aT,bq] at hb
  omega
theorem aq.afR {v:Value} {x:V} (h:aq P w I β hp v x) (hx:V9 x) (hs: ∀id∈eT x,hp' id=hp id∧β' id=β id):aq P w I β' hp' v x:=by
 have one: ∀{id},id∈eT x→hp' id=hp id∧β' id=β id:=fun h=>hs _ h
 cases h with
 | undef=>exact .undef
 | int=>exact .int
 | bool=>exact .bool
 | str h=>exact .str h
 | list h=>exact .list h
 | nilS=>exact .nilS
 | agg=>exact hx.elim
 | bJ=>exact hx.elim
 | dW=>exact .dW
 | fn=>exact hx.elim
 | pref=>exact hx.elim
 | eL h=>exact .eL ((one (by simp[eT])).1.trans h)
 | ia h=>exact .ia ((one (by simp[eT])).1.trans h)
 | lE h=>exact .lE ((one (by simp[eT])).1.trans h)
 | eo h hb=>exact .eo ((one (by simp[eT])).1.trans h) ((one (by simp[eT])).2.trans hb)
 | whole h hb a b c=>exact .whole ((one (by simp[eT])).1.trans h) ((one (by simp[eT])).2.trans hb) a b c
 | eU h hb a b c=>exact .eU ((one (by simp[eT])).1.trans h) ((one (by simp[eT])).2.trans hb) a b c
 | gN h hb=>exact .gN ((one (by simp[eT])).1.trans h) ((one (by simp[eT])).2.trans hb)
 | sub h hb a b c=>exact .sub ((one (by simp[eT])).1.trans h) ((one (by simp[eT])).2.trans hb) a b c
 | ptr h hd hb=>exact .ptr ((one (by simp[eT])).1.trans h) hd ((one (by simp[eT])).2.trans hb)
 | kR h sU=>exact .kR ((one (by simp[eT])).1.trans h) sU
 | kS h sU=>exact .kS ((one (by simp[eT])).1.trans h) sU
 | row h hb a b c d=>exact .row ((one (by simp[eT])).1.trans h) ((one (by simp[eT])).2.trans hb) a b c d
 | cY h hb a b c d e=>exact .cY ((one (by simp[eT])).1.trans h) ((one (by simp[eT])).2.trans hb) a b c d e
 | ec=>exact .ec
 | jm h=>exact .jm ((one (by simp[eT])).1.trans h)
 | cZ h hb=>exact .cZ ((one (by simp[eT])).1.trans h) ((one (by simp[eT])).2.trans hb)
theorem oY {a b:List V} {n:Nat} (h:a.length=n):(a++b).drop n=b:=by subst h;simp
def CY (n:Nat) (β:Nat→Option Nat) (hp:Nat→Option an) (β':Nat→Option Nat) (hp':Nat→Option an):Prop:= ∀id,id<n→hp' id=hp id∧β' id=β id
theorem Wa {l:LS} {x:V} {ds:List V} {n:Nat} {v:Value} (h:eS l x=some ds) (aw:l.ok n=true) (jU:CY n β hp β' hp') (hv:aq P w I β hp v x) (rest:List V):
  aq P w I β' hp' v (jI l (ds++rest)):=by
 rcases (H8 h).2 with e|e
 ·subst e;exact .undef
 ·rw[e rest]
  by_cases hu:l= .ug
  ·subst hu
   have:x= .undef:=(e rest).symm
   subst this
   exact .undef
  ·obtain ⟨h1,h2⟩:=afQ h hu aw
   exact hv.afR h1 fun id af=>jU id (h2 id af)
theorem CZ {n:Nat} (jU:CY n β hp β' hp'): ∀{ls:List LS} {xs:List V} {ds:List V},qQ ls xs=some ds→ls.all (LS.ok n)=true→
  ds.length=lA ls∧(∀rest,(jf ls (ds++rest)).length=xs.length)∧
  ∀(rest:List V) (j:Nat) (v:Value) (y:V),(∀x,xs[j]? =some x→aq P w I β hp v x)→(jf ls (ds++rest))[j]? =some y→aq P w I β' hp' v y
 | [],[],ds,h,_=>by cases h;exact ⟨rfl,fun _=>rfl,fun rest j v y _ hy=>by simp[jf] at hy⟩
 | [],_::_,ds,h,_=>by cases h
 | _::_,[],ds,h,_=>by cases h
 | l::ls,x::xs,ds,h,aw=>by
  simp only[qQ] at h
  obtain ⟨a,h1,h⟩:=bind_some h
  obtain ⟨b,h2,h⟩:=bind_some h
  cases h
  simp only[List.all_cons,aT] at aw
  obtain ⟨i1,i2,i3⟩:=CZ jU h2 aw.2
  have cK:=(H8 h1).1
  have hd: ∀rest,(a++b++rest).drop l.size=b++rest:=fun rest=>by rw[da];exact oY cK
  refine ⟨by simp only[cg,lA];omega,fun rest=>by simp only[jf,List.length_cons,hd,i2],fun rest j v y hv hy=> ?_⟩
  simp only[jf,hd] at hy
  cases j with
  | zero=>
   simp at hy
   subst hy
   exact Wa h1 aw.1 jU (hv x rfl) _
  | succ j=>exact i3 rest j v y (fun x hx=>hv x (by simpa using hx)) (by simpa using hy)
theorem Nq: ∀{ls:List LS} {xs:List V} {ds:List V},qQ ls xs=some ds→ls.all LS.plain=true→ds.length=lA ls∧∀rest,jf ls (ds++rest)=xs
 | [],[],ds,h,_=>by cases h;exact ⟨rfl,fun _=>rfl⟩
 | [],_::_,ds,h,_=>by cases h
 | _::_,[],ds,h,_=>by cases h
 | l::ls,x::xs,ds,h,aw=>by
  simp only[qQ] at h
  obtain ⟨a,h1,h⟩:=bind_some h
  obtain ⟨b,h2,h⟩:=bind_some h
  cases h
  simp only[List.all_cons,aT] at aw
  obtain ⟨i1,i2⟩:=Nq h2 aw.2
  obtain ⟨cK,hm⟩:=H8 h1
  refine ⟨by simp only[cg,lA];omega,fun rest=> ?_⟩
  simp only[jf]
  rw[show (a++b++rest).drop l.size=b++rest by rw[da];exact oY cK,i2,da]
  rcases hm with e|e
  ·subst e;cases aw.1
  ·rw[e]
theorem Nr {n:Nat} (jU:CY n β hp β' hp') {s:VS} {x:V} {ds:List V} (h:qR s x=some ds) (aw:s.ok n=true):
  ds.length=s.size∧∀(rest:List V) (v:Value),aq P w I β hp v x→aq P w I β' hp' v (mf s (ds++rest)):=by
 cases s with
 | one l=>exact ⟨(H8 h).1,fun rest v hv=>Wa h aw jU hv rest⟩
 | agg ls=>
  cases x<;>simp only[qR] at h<;>first|(cases h;done)|skip
  rename_i xs
  obtain ⟨i1,i2,i3⟩:=CZ (P:=P) (w:=w) (I:=I) jU h aw
  refine ⟨i1,fun rest v hv=> ?_⟩
  obtain ⟨cs,rfl,e1,e2⟩:=hv.mj
  exact .agg (by rw[i2];exact e1) fun j v y hj hy=>i3 rest j v y (fun x hx=>e2 j v x hj hx) hy
 | bJ ls=>
  cases x<;>simp only[qR] at h<;>first|(cases h;done)|skip
  rename_i xs
  obtain ⟨i1,i2,i3⟩:=CZ (P:=P) (w:=w) (I:=I) jU h aw
  refine ⟨i1,fun rest v hv=> ?_⟩
  obtain ⟨cs,rfl,e1,e2⟩:=hv.wg
  exact .bJ (by rw[i2];exact e1) fun j v y hj hy=>i3 rest j v y (fun x hx=>e2 j v x hj hx) hy
 | fn f a b=>
  cases x<;>simp only[qR] at h<;>first|(cases h;done)|skip
  rename_i f' xs ys
  cases hb:Nat.beq f f' with
  | false=>rw[hb] at h;cases h
  | true=>
   rw[hb] at h
   rw[bq] at hb
   subst hb
   simp only[cond_true] at h
   obtain ⟨p,h1,h⟩:=bind_some h
   obtain ⟨q,h2,h⟩:=bind_some h
   cases h
   simp only[VS.ok,aT] at aw
   obtain ⟨i1,i2,i3⟩:=CZ (P:=P) (w:=w) (I:=I) jU h1 aw.1
   obtain ⟨j1,j2,j3⟩:=CZ (P:=P) (w:=w) (I:=I) jU h2 aw.2
   refine ⟨by simp only[cg,VS.size];omega,fun rest v hv=> ?_⟩
   cases hv with
   | fn a1 a2 b1 b2=>
    simp only[mf]
    rw[show (p++q++rest).drop (lA a)=q++rest by rw[da];exact oY i1,da]
    exact .fn (by rw[i2];exact a1) (fun j v y hj hy=>i3 _ j v y (fun x hx=>a2 j v x hj hx) hy) (by rw[j2];exact b1) (fun j v y hj hy=>j3 _ j v y (fun x hx=>b2 j v x hj hx) hy)
 | pref ts ls=>
  cases x<;>simp only[qR] at h<;>first|(cases h;done)|skip
  rename_i zj xs
  cases hb:eS.pI ts zj with
  | false=>rw[hb] at h;cases h
  | true=>
   rw[hb] at h
   have:=zR hb
   subst this
   simp only[cond_true] at h
   refine ⟨?_,fun rest v hv=> ?_⟩
   ·exact (Nq h aw).1
   ·simp only[mf]
    rw[(Nq h aw).2]
    cases hv with
    | pref hl hI hc=>exact .pref hl hI hc
theorem C2 {n:Nat} (jU:CY n β hp β' hp'): ∀{ls:List VS} {xs:List V} {ds:List V},sh ls xs=some ds→ls.all (VS.ok n)=true→
  ds.length=ur ls∧(∀rest,(gp ls (ds++rest)).length=xs.length)∧
  ∀(rest:List V) (j:Nat) (v:Value) (y:V),(∀x,xs[j]? =some x→aq P w I β hp v x)→(gp ls (ds++rest))[j]? =some y→aq P w I β' hp' v y
 | [],[],ds,h,_=>by cases h;exact ⟨rfl,fun _=>rfl,fun rest j v y _ hy=>by simp[gp] at hy⟩
 | [],_::_,ds,h,_=>by cases h
 | _::_,[],ds,h,_=>by cases h
 | l::ls,x::xs,ds,h,aw=>by
  simp only[sh] at h
  obtain ⟨a,h1,h⟩:=bind_some h
  obtain ⟨b,h2,h⟩:=bind_some h
  cases h
  simp only[List.all_cons,aT] at aw
  obtain ⟨i1,i2,i3⟩:=C2 jU h2 aw.2
  obtain ⟨cK,zO⟩:=Nr (P:=P) (w:=w) (I:=I) jU h1 aw.1
  have hd: ∀rest,(a++b++rest).drop l.size=b++rest:=fun rest=>by rw[da];exact oY cK
  refine ⟨by simp only[cg,ur];omega,fun rest=>by simp only[gp,List.length_cons,hd,i2],fun rest j v y hv hy=> ?_⟩
  simp only[gp,hd] at hy
  cases j with
  | zero=>
   simp at hy
   subst hy
   exact zO _ v (hv x rfl)
  | succ j=>exact i3 rest j v y (fun x hx=>hv x (by simpa using hx)) (by simpa using hy)
end
section
variable {P:Program} {A:cP} {w w':World} {I I' I2:Nat→Prop} {μ β β':Nat→Option Nat} {hp hp' hp0:Nat→Option an} {C:ae} {B:Nat} {M:Nat→Prop} {w0:Start}
theorem iU: ∀{l:List an} {j:Nat},kQ l j=l[j]?
 | [],j=>by simp[kQ]
 | b::l,0=>rfl
 | b::l,j+1=>by simp only[kQ,iU,List.getElem?_cons_succ]
theorem Ns {sl:Nat→V} {k:Nat} {y:V}: ∀{l:List (Nat × VS)} {ds:List V},Ce sl l=some ds→(∀p∈l,∀d,qR p.2 (sl p.1)=some d→d.length=p.2.size)→
  ds.length=pJ l∧∀rest,en (gd l (ds++rest)) k=some y→∃s d ig,(k,s)∈l∧qR s (sl k)=some d∧y=mf s (d++ig)
 | [],ds,h,_=>by cases h;exact ⟨rfl,fun rest h=>by cases h⟩
 | (q,s)::l,ds,h,hz=>by
  simp only[Ce] at h
  obtain ⟨a,h1,h⟩:=bind_some h
  obtain ⟨b,h2,h⟩:=bind_some h
  cases h
  obtain ⟨i1,i2⟩:=Ns (k:=k) (y:=y) h2 fun p hp=>hz p (mZ _ hp)
  have cK:=hz (q,s) (ub ..) a h1
  refine ⟨by simp only[cg,pJ];simp only at cK;omega,fun rest hl=> ?_⟩
  simp only[gd,en] at hl
  rw[show (a++b++rest).drop s.size=b++rest by rw[da];exact oY cK] at hl
  cases hb:Nat.beq k q with
  | true=>
   rw[hb] at hl
   rw[bq] at hb
   subst hb
   cases hl
   exact ⟨s,a,b++rest,ub ..,h1,by rw[da]⟩
  | false=>
   rw[hb] at hl
   obtain ⟨s',d,ig,m1,m2,m3⟩:=i2 rest hl
   exact ⟨s',d,ig,mZ _ m1,m2,m3⟩
theorem Nt {α:Type} {c:Bool} {x:Option α} {a:α} (h:(bif c then x else none)=some a):c=true∧x=some a:=by
 cases c with
 | true=>exact ⟨rfl,h⟩
 | false=>cases h
theorem afS {n:Nat} {b:BS} {o:Option an} {ds:List V} (h:me b o=some ds) (aw:b.ok n=true):ds.length=b.size:=by
 cases b with
 | dead=>cases o<;>(cases h;rfl)
 | var T0 ls=>
  cases o with
  | none=>cases h
  | some blk=>
   cases blk<;>simp only[me] at h<;>first|(cases h;done)|skip
   exact (C2 (P:=default) (w:=default) (I:=fun _=>False) (β:=fun _=>none) (hp:=fun _=>none) (fun _ _=>⟨rfl,rfl⟩) (Nt h).2 aw).1
 | arr e fz=>
  cases o with
  | none=>cases h
  | some blk=>
   cases blk<;>simp only[me] at h<;>first|(cases h;done)|skip
   rw[wE h] at h
   cases h
   rfl
 | nest e=>
  cases o with
  | none=>cases h
  | some blk=>
   cases blk<;>simp only[me] at h<;>first|(cases h;done)|skip
   rw[wE h] at h
   cases h
   rfl
 | map t=>
  cases o with
  | none=>cases h
  | some blk=>
   cases blk<;>simp only[me] at h<;>first|(cases h;done)|skip
   rw[wE h] at h
   cases h
   rfl
theorem Wb {n:Nat}: ∀{l:List BS} {j:Nat} {ds:List V},Cf hp j l=some ds→l.all (BS.ok n)=true→
  (∀rest,(fq l (ds++rest)).length=l.length)∧∀(rest:List V) (i:Nat) (blk:an),(fq l (ds++rest))[i]? =some blk→∃b d ig,l[i]? =some b∧b.ok n=true∧me b (hp (j+i))=some d∧blk=gI b (d++ig)
 | [],j,ds,h,_=>by cases h;exact ⟨fun _=>rfl,fun rest i blk hb=>by simp[fq] at hb⟩
 | b::l,j,ds,h,aw=>by
  simp only[Cf] at h
  obtain ⟨a,h1,h⟩:=bind_some h
  obtain ⟨c,h2,h⟩:=bind_some h
  cases h
  simp only[List.all_cons,aT] at aw
  obtain ⟨i1,i2⟩:=Wb h2 aw.2
  have cK:=afS h1 aw.1
  have hd: ∀rest,(a++c++rest).drop b.size=c++rest:=fun rest=>by rw[da];exact oY cK
  refine ⟨fun rest=>by simp only[fq,List.length_cons,hd,i1],fun rest i blk hb=> ?_⟩
  simp only[fq,hd] at hb
  cases i with
  | zero=>
   simp at hb
   exact ⟨b,a,c++rest,rfl,aw.1,h1,by rw[←hb]⟩
  | succ i=>
   obtain ⟨b',d,ig,m1,m2,m3,m4⟩:=i2 rest i blk (by simpa using hb)
   exact ⟨b',d,ig,by simpa using m1,m2,by rw[show j+(i+1)=j+1+i by omega];exact m3,m4⟩
theorem afT {n:Nat} {b:BS} {blk:an} {ds rest:List V} (h:me b (some blk)=some ds) (aw:b.ok n=true):
  blk.le (gI b (ds++rest))∧(gI b (ds++rest)= .dead∨gI b (ds++rest)=blk∨∃T ls cs,b= .var T ls∧blk= .var T cs∧sh ls cs=some ds∧gI b (ds++rest)= .var T (gp ls (ds++rest))):=by
 cases b with
 | dead=>exact ⟨by cases blk<;>trivial,.inl rfl⟩
 | var T0 ls=>
  cases blk<;>simp only[me] at h<;>first|(cases h;done)|skip
  obtain ⟨hT,h0⟩:=Nt h
  clear h
  rw[bq] at hT
  subst hT
  exact ⟨rfl,.inr (.inr ⟨_,_,_,rfl,rfl,h0,rfl⟩)⟩
 | arr e fz=>
  cases blk<;>simp only[me] at h<;>first|(cases h;done)|skip
  rename_i e' es oH
  have hb:=wE h
  simp only[aT,bq,beq_iff_eq] at hb
  obtain ⟨rfl,rfl⟩:=hb
  simp only[kM,BU,Bool.and_self,cond_true,eb] at h
  subst h
  exact ⟨⟨rfl,rfl⟩,.inr (.inl rfl)⟩
 | nest e=>
  cases blk<;>simp only[me] at h<;>first|(cases h;done)|skip
  rename_i e' es av
  have hb:=wE h
  simp only[aT,bq] at hb
  obtain ⟨rfl,hv⟩:=hb
  have:=zR hv
  subst this
  simp only[kM,ki] at h
  cases h
  exact ⟨⟨rfl,rfl,rfl,fun _=>bC _⟩,.inr (.inl rfl)⟩
 | map t=>
  cases blk<;>simp only[me] at h<;>first|(cases h;done)|skip
  rename_i t' es
  have hb:=wE h
  rw[bq] at hb
  subst hb
  simp only[kM,cond_true,eb] at h
  subst h
  exact ⟨rfl,.inr (.inl rfl)⟩
theorem Wc {m:Nat} {S:Shape} {st:St} {ds:List V} (h:jJ m S st=some ds):
  S.ok=true∧m≤S.cA.length∧∃a b,Ce st.sl S.bR=some a∧Cf st.hp 0 S.cA=some b∧ds=a++b:=by
 unfold jJ at h
 cases hc:(S.ok&&Nat.ble m S.cA.length) with
 | false=>rw[hc] at h;cases h
 | true=>
  rw[hc] at h
  simp only[cond_true] at h
  simp only[aT,fa] at hc
  obtain ⟨a,h1,h⟩:=bind_some h
  obtain ⟨b,h2,h⟩:=bind_some h
  cases h
  exact ⟨hc.1,hc.2,a,b,h1,h2,rfl⟩
theorem reshape {m:Nat} {S:Shape} {st:St} {ds:List V} (h:jJ m S st=some ds) (hS:aQ P w I β st.hp B M w0):
  aQ P w I β (bH S ds).hp B M w0∧(∀(k:Nat) (v:Value),aq P w I β st.hp v (st.sl k)→aq P w I β (bH S ds).hp v ((bH S ds).sl k))∧
  (∀(μ:Nat→Option Nat) (hp0:Nat→Option an),(∀id blk,hp0 id=some blk→id<m)→Le P w0.w w0.I μ hp0 w I β st.hp→Le P w0.w w0.I μ hp0 w I β (bH S ds).hp)∧
  ∀j blk',(bH S ds).hp j=some blk'→blk'≠ .dead→∃blk,st.hp j=some blk∧blk.le blk'∧∀o b,bN P w o blk' b→bN P w o blk b:=by
 obtain ⟨aw,hm,a,b,h1,h2,rfl⟩:=Wc h
 unfold Shape.ok at aw
 rw[aT] at aw
 obtain ⟨Wd,M5⟩:=aw
 have bw: ∀p∈S.bR,∀d,qR p.2 (st.sl p.1)=some d→d.length=p.2.size:=fun p hp d hd=>
  (Nr (P:=P) (w:=w) (I:=I) (β:=β) (hp:=st.hp) (fun _ _=>⟨rfl,rfl⟩) hd (gn.1 Wd p hp)).1
 have cK:a.length=pJ S.bR:=(Ns (k:=0) (y:= .undef) h1 bw).1
 have HX:(bH S (a++b)).hp=kQ (fq S.cA (b++[])):=by
  simp only[bH,mk,di]
  rw[oY cK]
 obtain ⟨bl,bg⟩:=Wb h2 M5
 have get: ∀j blk',(bH S (a++b)).hp j=some blk'→j<S.cA.length∧∃bs d ig,bs.ok S.cA.length=true∧me bs (st.hp j)=some d∧blk'=gI bs (d++ig):=by
  intro j blk' hj
  rw[HX,iU] at hj
  obtain ⟨bs,d,ig,m1,m2,m3,m4⟩:=bg [] j blk' hj
  rw[je] at m3
  exact ⟨(bL.1 m1).1,bs,d,ig,m2,m3,m4⟩
 have have': ∀j,j<S.cA.length→∃blk',(bH S (a++b)).hp j=some blk':=by
  intro j hj
  rw[HX,iU]
  exact ⟨_,cq (by rw[bl];exact hj)⟩
 generalize iR:(bH S (a++b)).hp=wF at*
 let bM:Nat→Option an:=fun id=>if id<S.cA.length then wF id else st.hp id
 have back: ∀j blk',wF j=some blk'→blk'≠ .dead→∃blk,st.hp j=some blk∧blk.le blk'∧(blk'=blk∨∃T ls cs d ig,ls.all (VS.ok S.cA.length)=true∧blk= .var T cs∧sh ls cs=some d∧blk'= .var T (gp ls (d++ig))):=by
  intro j blk' hj hd
  obtain ⟨cy,bs,d,ig,m1,m2,m3⟩:=get j blk' hj
  cases bz:st.hp j with
  | none=>
   rw[bz] at m2
   cases bs<;>simp only[me] at m2<;>first|(cases m2;done)|skip
   exact absurd m3 hd
  | some blk=>
   rw[bz] at m2
   obtain ⟨n1,n2⟩:=afT (rest:=ig) m2 m1
   rw[←m3] at n1 n2
   refine ⟨blk,rfl,n1,?_⟩
   rcases n2 with e|e|⟨T,ls,cs,e1,e2,e3,e4⟩
   ·exact absurd e hd
   ·exact .inl e
   ·subst e1
    exact .inr ⟨T,ls,cs,d,ig,m1,e2,e3,e4⟩
 have le1: ∀j blk,st.hp j=some blk→j<S.cA.length→∃blk',wF j=some blk'∧blk.le blk':=by
  intro j blk hj cy
  obtain ⟨blk',aI⟩:=have' j cy
  refine ⟨blk',aI,?_⟩
  by_cases hd:blk'= .dead
  ·subst hd;cases blk<;>trivial
  ·obtain ⟨cB,e1,e2,_⟩:=back j blk' aI hd
   rw[hj] at e1;cases e1
   exact e2
 have afU: ∀j e es av e' bf vers',st.hp j=some (.nest e es av)→wF j=some (.nest e' bf vers')→e'=e∧bf=es∧vers'=av:=by
  intro j e es av e' bf vers' hj gO
  obtain ⟨blk,e1,_,e3⟩:=back j _ gO (by simp)
  rw[hj] at e1;cases e1
  rcases e3 with e3|⟨_,_,_,_,_,_,e3,_⟩
  ·cases e3;exact ⟨rfl,rfl,rfl⟩
  ·cases e3
 have hle:Le P w I β st.hp w I β bM:=by
  refine ⟨fun _ h=>h,fun _ _=>rfl,fun id blk af=> ?_,fun _ _ _ _ _ _ _ _=>rfl,Le.uz (fun _ _ _ _ _ _=>rfl) fun id e es av e' bf vers' af bV=> ?_⟩
  ·by_cases hl:id<S.cA.length
   ·obtain ⟨blk',e1,e2⟩:=le1 id blk af hl
    exact ⟨blk',by simp only[bM,ai hl];exact e1,e2,fun _=>rfl⟩
   ·exact ⟨blk,by simp only[bM,aj hl];exact af,an.le_refl _,fun _=>rfl⟩
  ·by_cases hl:id<S.cA.length
   ·simp only[bM,ai hl] at bV
    exact afU _ _ _ _ _ _ _ af bV
   ·simp only[bM,aj hl] at bV
    rw[af] at bV;cases bV
    exact ⟨rfl,rfl,rfl⟩
 have jU:CY S.cA.length β bM β wF:=fun id af=>⟨by simp only[bM,ai af],rfl⟩
 have zH: ∀j blk' blk o b,wF j=some blk'→st.hp j=some blk→bN P w o blk' b→bN P w o blk b:=by
  intro j blk' blk o b gO hj ho
  obtain ⟨cB,e1,_,e3⟩:=back j blk' gO ho.alive
  rw[hj] at e1;cases e1
  rcases e3 with e3|⟨T,ls,cs,d,ig,_,e3,_,e5⟩
  ·subst e3;exact ho
  ·subst e3;subst e5
   exact .root (by simp) (ho.flat (by simp))
 refine ⟨⟨⟨fun j blk' hj=> ?_,fun j1 j2 b1 b2 b' e1 e2 o1 o2=> ?_,fun j blk b' hj ho=> ?_,hS.h.kT⟩,hS.cl,hS.size,hS.new,hS.io⟩,fun k v hv=> ?_,fun μ hp0 aR hE=> ?_,fun j blk' hj hd=> ?_⟩
 ·by_cases hd:blk'= .dead
  ·subst hd;exact .dead
  ·obtain ⟨blk,e1,_,e3⟩:=back j blk' hj hd
   have hr:=hS.h.rel j blk e1
   generalize β j=o at hr
   rcases e3 with e3|⟨T0,ls,cs,d,ig,q1,e3,e4,e5⟩
   ·subst e3
    cases hr with
    | @var xs b' Ca T hb hh hs dj hx ic=>
     obtain ⟨cy,bs,d,ig,m1,m2,m3⟩:=get j _ hj
     rw[e1] at m2
     cases bs<;>simp only[me] at m2<;>first|(cases m2;done)|skip
     ·rename_i T0 ls
      simp only[gI] at m3
      obtain ⟨hT,m2⟩:=Nt m2
      obtain ⟨i1,i2,i3⟩:=C2 (P:=P) (w:=w) (I:=I) jU m2 m1
      injection m3 with m4 m3
      rw[m3]
      exact .var hb hh (by rw[i2];exact hs) dj (fun i v y hi hy=>i3 ig i v y (fun x cT=>(hx i v x hi cT).mono hle) hy) ic
     ·simp only[gI] at m3
      cases m3
    | ep hb=>exact .ep hb
    | arr a1 a2 a3 a4 a5 a6 a7=>exact .arr a1 a2 a3 a4 a5 a6 a7
    | dead=>exact absurd rfl hd
    | nest a1 a2 a3=>exact .nest a1 a2 a3
    | map a1 a2 a3 a4 a5 a6 a7=>exact .map a1 a2 a3 a4 a5 a6 a7
   ·subst e3
    subst e5
    cases hr with
    | @var xs b' Ca T hb hh hs dj hx ic=>
     obtain ⟨i1,i2,i3⟩:=C2 (P:=P) (w:=w) (I:=I) jU e4 q1
     exact .var hb hh (by rw[i2];exact hs) dj (fun i v y hi hy=>i3 ig i v y (fun x cT=>(hx i v x hi cT).mono hle) hy) ic
 ·obtain ⟨c1,x1,_,_⟩:=back j1 b1 e1 o1.alive
  obtain ⟨c2,x2,_,_⟩:=back j2 b2 e2 o2.alive
  exact hS.h.inj j1 j2 c1 c2 b' x1 x2 (zH _ _ _ _ _ e1 x1 o1) (zH _ _ _ _ _ e2 x2 o2)
 ·obtain ⟨c1,x1,_,_⟩:=back j blk hj ho.alive
  exact hS.h.own j c1 b' x1 (zH _ _ _ _ _ hj x1 ho)
 ·change aq P w I β wF v (ko (gd S.bR (a++b)) k)
  unfold ko
  cases Nu:en (gd S.bR (a++b)) k with
  | none=>exact .undef
  | some y=>
   obtain ⟨s,d,ig,n1,n2,n3⟩:=(Ns h1 bw).2 b Nu
   simp only[Option.getD_some,n3]
   exact (Nr (P:=P) (w:=w) (I:=I) jU n2 (gn.1 Wd _ n1)).2 ig v (hv.mono hle)
 ·have h3:=hE.trans hle
  refine ⟨h3.dN,h3.cl,fun id blk af=> ?_,fun id blk blk' b' af bV hd hb=> ?_,fun id e es av e' bf vers' b2 q i c t v e1 l af bV=> ?_⟩
  ·have hl:=aR id blk af
   obtain ⟨blk',k1,k2,k3⟩:=h3.blk id blk af
   simp only[bM,ai (show id<S.cA.length by omega)] at k1
   exact ⟨blk',k1,k2,k3⟩
  ·have hl:=aR id blk af
   exact h3.size id blk blk' b' af (by simp only[bM,ai (show id<S.cA.length by omega)];exact bV) hd hb
  ·have hl:=aR id _ af
   exact h3.row id e es av e' bf vers' b2 q i c t v e1 l af (by simp only[bM,ai (show id<S.cA.length by omega)];exact bV)
 ·obtain ⟨blk,e1,e2,_⟩:=back j blk' hj hd
  exact ⟨blk,e1,e2,fun o b' ho=>zH _ _ _ _ _ hj e1 ho⟩
end
section
variable {P:Program} {A:cP} {w w':World} {I I' I2:Nat→Prop} {μ β β':Nat→Option Nat} {hp hp' hp0:Nat→Option an} {C:ae} {B:Nat} {M:Nat→Prop} {w0:Start}
inductive eF (P:Program) (w:World) (β:Nat→Option Nat) (hp:Nat→Option an):Place→Option Nat→an→Prop
 | var {id:Nat} {T:TypeId} {cs Nv:List V}:hp id=some (.var T cs)→eF P w β hp (.blk id) (β id) (.var T Nv)
 | arr {id:Nat} {e:TypeId} {es:List V}:hp id=some (.arr e es false)→eF P w β hp (.blk id) (β id) (.arr e es false)
 | nest {id:Nat} {e:TypeId} {es:List V} {av:List Nat}:hp id=some (.nest e es av)→eF P w β hp (.blk id) (β id) (.nest e es [0,0,0])
 | row {id ver b b':Nat} {path:Path} {e0 e':TypeId} {es l:List V} {av:List Nat}:hp id=some (.nest e0 es av)→β id=some b→At P w b e0 es path b' e' l→Cc P e'=true→
   0<path.length→path.length≤av.length→bU av (path.length-1)=ver→0<l.length→eF P w β hp (.row id ver path) (some b') (.arr e' l false)
 | map {id:Nat} {t:TypeId} {es:List V}:hp id=some (.map t es)→eF P w β hp (.blk id) (β id) (.map t es)
def C3 (P:Program) (w:World) (β:Nat→Option Nat) (hp:Nat→Option an) (ρ:List Place) (μ:Nat→Option Nat) (hp0:Nat→Option an):Prop:=
 ∀j p,eK ρ j=some p→∃blk,hp0 j=some blk∧eF P w β hp p (μ j) blk
theorem pV: ∀{l m:List Place} {j:Nat} {p:Place},eK l j=some p→eK (l++m) j=some p
 | [],m,j,p,h=>by cases h
 | a::l,m,0,p,h=>h
 | a::l,m,j+1,p,h=>pV (l:=l) h
theorem nq: ∀{l:List Place} {j:Nat},eK l j=l[j]?
 | [],j=>by simp[eK]
 | a::l,0=>rfl
 | a::l,j+1=>by simp only[eK,nq,List.getElem?_cons_succ]
structure Ext (P:Program) (w:World) (I:Nat→Prop) (β:Nat→Option Nat) (hp:Nat→Option an) (h h':Hand) (d:List V) (u:List (Nat × an)):Prop where
 ds:h'.ds=h.ds++d
 upd:h'.upd=h.upd++u
 H9: ∀q∈u,Cx hp q
 pl: ∃m,h'.pl=h.pl++m
 nodup:(h.pl.map Place.id).Nodup→(h'.pl.map Place.id).Nodup
theorem Ext.refl (h:Hand):Ext P w I β hp h h [] []:=⟨by simp,by simp,by simp,⟨[],by simp⟩,id⟩
theorem Ext.trans {h1 h2 h3:Hand} {d1 d2:List V} {u1 u2:List (Nat × an)} (a:Ext P w I β hp h1 h2 d1 u1) (b:Ext P w I β hp h2 h3 d2 u2):Ext P w I β hp h1 h3 (d1++d2) (u1++u2):=by
 obtain ⟨m1,e1⟩:=a.pl
 obtain ⟨m2,e2⟩:=b.pl
 exact ⟨by rw[b.ds,a.ds,da],by rw[b.upd,a.upd,da],fun q hq=>(dp.1 hq).elim (a.H9 q) (b.H9 q),⟨m1++m2,by rw[e2,e1,da]⟩,fun h=>b.nodup (a.nodup h)⟩
theorem Ext.look {h h':Hand} {d:List V} {u:List (Nat × an)} (a:Ext P w I β hp h h' d u) {j:Nat} {p:Place} (hj:eK h.pl j=some p):eK h'.pl j=some p:=by
 obtain ⟨m,e⟩:=a.pl
 rw[e]
 exact pV hj
theorem Ext.leaf (h:Hand) (x:V):Ext P w I β hp h {h with ds:=h.ds++[x]} [x] []:=⟨rfl,by simp,by simp,⟨[],by simp⟩,id⟩
theorem afV {α:Type} {ρ:List Place} {j:Nat} {p:Place} {k:List Place→Rd α} {r:α} {rd:List Nat} (h:(unify ρ j p k).run C hp=some (r,rd)) (hb: ∃id,p= .blk id∨∃ver path,p= .row id ver path):
  ∃kW,(k kW).run C hp=some (r,rd)∧(∃m,kW=ρ++m)∧eK kW j=some p∧((ρ.map Place.id).Nodup→(kW.map Place.id).Nodup):=by
 unfold unify at h
 cases hc:Nat.blt j ρ.length with
 | true=>
  rw[hc] at h
  obtain ⟨h1,h2⟩:=aU h
  refine ⟨ρ,h2,⟨[],by simp⟩,?_,id⟩
  unfold UJ at h1
  split at h1
  ·rename_i a b he
   rw[bq] at h1
   subst h1
   exact he
  ·cases h1
 | false=>
  rw[hc] at h
  obtain ⟨h1,h2⟩:=aU h
  simp only[aT,bq,l7] at h1
  obtain ⟨rfl,h3⟩:=h1
  refine ⟨ρ++[p],h2,⟨[p],rfl⟩,?_,fun hn=> ?_⟩
  ·rw[nq];simp
  ·rw[kO,vM]
   refine ⟨hn,by simp,fun a ha b hb=> ?_⟩
   simp only[dw,kP,df] at hb
   subst hb
   intro e
   subst e
   rw[zB ha] at h3
   cases h3
theorem wG {α:Type} {h:Hand} {j:Nat} {p:Place} {k:List Place→Rd α} {r:α} {rd:List Nat} (hr:(unify h.pl j p k).run C hp=some (r,rd)) (ds:List V):
  ∃kW,(k kW).run C hp=some (r,rd)∧eK kW j=some p∧Ext P w I β hp h {h with pl:=kW,ds:=h.ds++ds} ds []:=by
 obtain ⟨kW,a,b,c,d⟩:=afV hr (by cases p with|blk id=>exact ⟨id,.inl rfl⟩|row id ver path=>exact ⟨id,.inr ⟨ver,path,rfl⟩⟩)
 exact ⟨kW,a,c,⟨rfl,by simp,by simp,b,d⟩⟩
theorem afW {o:Option Nat} {blk:an} {e:TypeId} {id j:Nat} {v:Value} (hv:aq P w I β hp v (.whole e id)) (hl:eF P w β hp (.blk id) o blk) (hj:hp0 j=some blk) (kX:μ j=o):aq P w I' μ hp0 v (.whole e j):=by
 cases hl with
 | var h=>
  cases hv with
  | eL h2=>rw[h] at h2;cases h2
  | eo h2=>rw[h] at h2;cases h2
  | whole h2=>rw[h] at h2;cases h2
  | eU h2=>rw[h] at h2;cases h2
 | arr h=>
  cases hv with
  | eL h2=>rw[h] at h2;cases h2
  | eo h2 hb=>rw[h] at h2;cases h2;exact .eo hj (kX.trans hb)
  | whole h2 hb a b c=>rw[h] at h2;cases h2;exact .whole hj (kX.trans hb) a b c
  | eU h2=>rw[h] at h2;cases h2
 | nest h=>
  cases hv with
  | eL h2=>rw[h] at h2;cases h2
  | eo h2=>rw[h] at h2;cases h2
  | whole h2=>rw[h] at h2;cases h2
  | eU h2 hb a b c=>rw[h] at h2;cases h2;exact .eU hj (kX.trans hb) a b c
 | map h=>
  cases hv with
  | eL h2=>rw[h] at h2;cases h2
  | eo h2=>rw[h] at h2;cases h2
  | whole h2=>rw[h] at h2;cases h2
  | eU h2=>rw[h] at h2;cases h2
theorem afX {o:Option Nat} {blk:an} {t:TypeId} {id j:Nat} {v:Value} (hv:aq P w I β hp v (.cZ t id)) (hl:eF P w β hp (.blk id) o blk) (hj:hp0 j=some blk) (kX:μ j=o):aq P w I' μ hp0 v (.cZ t j):=by
 cases hv with
 | jm h2=>cases hl<;>(rename_i h;rw[h] at h2;cases h2)
 | cZ h2 hb=>
  cases hl<;>(rename_i h;rw[h] at h2;cases h2)
  exact .cZ hj (kX.trans hb)
theorem afY {o:Option Nat} {blk:an} {e:TypeId} {id off n j:Nat} {v:Value} (hv:aq P w I β hp v (.sub e id off n)) (hl:eF P w β hp (.blk id) o blk) (hj:hp0 j=some blk) (kX:μ j=o):aq P w I' μ hp0 v (.sub e j off n):=by
 cases hl with
 | var h=>
  cases hv with
  | ia h2=>rw[h] at h2;cases h2
  | gN h2=>rw[h] at h2;cases h2
  | sub h2=>rw[h] at h2;cases h2
 | arr h=>
  cases hv with
  | ia h2=>rw[h] at h2;cases h2
  | gN h2 hb=>rw[h] at h2;cases h2;exact .gN hj (kX.trans hb)
  | sub h2 hb a b c=>rw[h] at h2;cases h2;exact .sub hj (kX.trans hb) a b c
 | nest h=>
  cases hv with
  | ia h2=>rw[h] at h2;cases h2
  | gN h2=>rw[h] at h2;cases h2
  | sub h2=>rw[h] at h2;cases h2
 | map h=>
  cases hv with
  | ia h2=>rw[h] at h2;cases h2
  | gN h2=>rw[h] at h2;cases h2
  | sub h2=>rw[h] at h2;cases h2
theorem We {o:Option Nat} {blk:an} {id i c j:Nat} {v:Value} (hv:aq P w I β hp v (.ptr id i c)) (hl:eF P w β hp (.blk id) o blk) (hj:hp0 j=some blk) (kX:μ j=o):aq P w I' μ hp0 v (.ptr j i c):=by
 cases hl with
 | @var _ T0 cs Nv h=>
  obtain ⟨b,hb,rfl⟩:=hv.iT h (by simp)
  exact aq.ptr (blk:= .var T0 Nv) hj (by simp) (kX.trans hb)
 | @arr _ e es h=>
  obtain ⟨b,hb,rfl⟩:=hv.iT h (by simp)
  exact aq.ptr (blk:= .arr e es false) hj (by simp) (kX.trans hb)
 | @nest _ e es av h=>
  obtain ⟨b,hb,rfl⟩:=hv.iT h (by simp)
  exact aq.ptr (blk:= .nest e es [0,0,0]) hj (by simp) (kX.trans hb)
 | @map _ t es h=>
  obtain ⟨b,hb,rfl⟩:=hv.iT h (by simp)
  exact aq.ptr (blk:= .map t es) hj (by simp) (kX.trans hb)
theorem afZ (c7: ∀id blk,hp id=some blk→eE P w I β hp (β id) blk) {id b i c:Nat} {e0 t:TypeId} {es l:List V} {av:List Nat} {q:Path} {e:TypeId} {v:Value} (af:hp id=some (.nest e0 es av)) (hb:β id=some b)
  (ht:P.underlying t=some (.slice e)) (hc:nP P w b e0 es q i c t v (.list e l)) (hl:0<l.length): ∃b1 cap,v= .slice (some ⟨b1,0,none⟩) l.length cap∧cap*P.cellsOf e=bsize w b1∧l.length≤cap∧cap≤maxLen∧At P w b e0 es (q++[(i,c)]) b1 e l:=by
 obtain ⟨b2,e1,m,Ca,T,f,x,n1,n2,n3,n4,n5,n6⟩:=hc
 have hr:=c7 _ _ af
 cases hr with
 | nest aI hr hn=>
  rw[hb] at aI;cases aI
  have hR:=hr _ _ _ _ n1
  obtain ⟨CB,c1,c2,c3⟩:=hR.cells
  rw[n2] at c1
  cases c1
  have we:c<P.cellsOf e1:=by rw[←gu hR.ok];exact (bL.1 n4).1
  obtain ⟨v',d1,d2⟩:=c3 i c x t n3 n4 we
  rw[n6] at d1
  cases d1
  rw[n5] at d2
  generalize hy:V.list e l=y at d2
  cases d2 with
  | gM a p=>unfold gH at a;rw[ht] at a;cases a
  | emp hu ha=>cases hy;simp at hl
  | row hu nR bw cG oN=>
   cases hy
   exact ⟨_,_,rfl,bw,cG,oN,n1.snoc n2 n3 n4 ht n5 nR n6⟩
theorem af0 (S:aQ P w I β hp B M w0) {o:Option Nat} {blk:an} {e:TypeId} {id ver j:Nat} {path:Path} {v:Value} (hv:aq P w I β hp v (.row e id ver path)) (hl:eF P w β hp (.row id ver path) o blk) (hj:hp0 j=some blk) (kX:μ j=o):aq P w I' μ hp0 v (.whole e j):=by
 cases hl with
 | row h hb ha hf h1 h2 h3 h4=>
  obtain ⟨b2,q,i,c,t,l2,rfl,jQ,ht,hc⟩:=hv.UR h h1 h2 h3
  rw[hb] at jQ;cases jQ
  obtain ⟨p1,p2⟩:=Mt ha
  have jM:=hc
  obtain ⟨b3,e3,m3,Ca,T,f,x,n1,n2,n3,n4,n5,n6⟩:=jM
  obtain ⟨q1,q2⟩:=Hr n1 n3 n4 ht n5
  rw[p1] at q1
  rw[p2] at q2
  cases q1
  cases q2
  obtain ⟨b1,cap,rfl,m1,m2,m4,m5⟩:=afZ S.h.rel h hb ht hc h4
  have:=af1 ha m5
  subst this
  exact .whole hj kX m1 m2 m4
where
 af1 {b b1 b2:Nat} {e e1 e2:TypeId} {es l l2:List V} {q:Path} (h:At P w b e es q b1 e1 l) (h2:At P w b e es q b2 e2 l2):b2=b1:=(h.fun h2).1
theorem Wf (S:aQ P w I β hp B M w0) {α:Type} {l:LS} {x:V} {h:Hand} {k:Hand→Rd α} {r:α} {rd:List Nat} {v:Value} (hr:(Hd P l x h k).run C hp=some (r,rd)) (hv:aq P w I β hp v x):
  ∃h' fN d u,(k h').run C hp=some (r,fN)∧Ext P w I β hp h h' d u∧d.length=l.size∧
   ∀(I':Nat→Prop) (μ:Nat→Option Nat) (hp0:Nat→Option an),(∀b,I b→I' b)→(∀q∈u,∀b,uA P w β hp q.1 b→I' b)→∀ρ m,ρ=h'.pl++m→C3 P w β hp ρ μ hp0→∀rest,aq P w I' μ hp0 v (jI l (d++rest)):=by
 have plain: ∀{x':V} {ky:List Nat},(k {h with ds:=h.ds++[x']}).run C hp=some (r,ky)→l.size=1→(∀I' μ hp0 rest,aq P w I' μ hp0 v (jI l ([x']++rest)))→∃h' fN d u,(k h').run C hp=some (r,fN)∧Ext P w I β hp h h' d u∧d.length=l.size∧
   ∀(I':Nat→Prop) (μ:Nat→Option Nat) (hp0:Nat→Option an),(∀b,I b→I' b)→(∀q∈u,∀b,uA P w β hp q.1 b→I' b)→∀ρ m,ρ=h'.pl++m→C3 P w β hp ρ μ hp0→∀rest,aq P w I' μ hp0 v (jI l (d++rest)):=
  fun hk hs hx=>⟨_,_,_,_,hk,Ext.leaf h _,hs.symm,fun I' μ hp0 _ _ _ _ _ _ rest=>hx I' μ hp0 rest⟩
 have oU: ∀{ky:List Nat},(k h).run C hp=some (r,ky)→l.size=0→(∀I' μ hp0 rest,aq P w I' μ hp0 v (jI l rest))→∃h' fN d u,(k h').run C hp=some (r,fN)∧Ext P w I β hp h h' d u∧d.length=l.size∧
   ∀(I':Nat→Prop) (μ:Nat→Option Nat) (hp0:Nat→Option an),(∀b,I b→I' b)→(∀q∈u,∀b,uA P w β hp q.1 b→I' b)→∀ρ m,ρ=h'.pl++m→C3 P w β hp ρ μ hp0→∀rest,aq P w I' μ hp0 v (jI l (d++rest)):=
  fun hk hs hx=>⟨_,_,_,_,hk,Ext.refl h,by simp[hs],fun I' μ hp0 _ _ _ _ _ _ rest=>hx I' μ hp0 rest⟩
 unfold Hd at hr
 cases l with
 | ug=>exact oU hr rfl fun _ _ _ _=> .undef
 | int kd=>
  cases x<;>simp only at hr<;>first|(cases hr;done)|skip
  obtain ⟨h1,h2⟩:=aU hr
  simp only[dC] at h1
  subst h1
  obtain rfl:=hv.eD
  exact plain h2 rfl fun _ _ _ _=> .int
 | bool=>
  cases x<;>simp only at hr<;>first|(cases hr;done)|skip
  obtain rfl:=hv.lI
  exact plain hr rfl fun _ _ _ _=> .bool
 | str=>
  cases x<;>simp only at hr<;>first|(cases hr;done)|skip
  obtain ⟨s,rfl,hl⟩:=hv.nT
  exact plain hr rfl fun _ _ _ _=> .str hl
 | nilS e=>
  cases x<;>simp only at hr<;>first|(cases hr;done)|skip
  obtain ⟨h1,h2⟩:=aU hr
  cases hv with
  | nilS=>exact oU h2 rfl fun _ _ _ _=> .nilS
 | dW=>
  cases x<;>simp only at hr<;>first|(cases hr;done)|skip
  cases hv with
  | dW=>exact oU hr rfl fun _ _ _ _=> .dW
 | row e j cs=>
  cases x<;>simp only at hr<;>first|(cases hr;done)|skip
  rename_i e' id ver path
  obtain ⟨e0,es,av,l0,af,p1,p2,p3,hr⟩:=pO hr
  obtain ⟨h1,h2⟩:=aU hr
  simp only[aT,bq,fa] at h1
  obtain ⟨rfl,ng,hp3⟩:=h1
  have:=zR ng
  subst this
  obtain ⟨kW,a,b,c⟩:=wG (P:=P) (w:=w) (I:=I) (β:=β) h2 (path.map fun p=>ed p.1)
  refine ⟨_,_,path.map fun p=>ed p.1,[],a,c,by simp[LS.size],fun I' μ hp0 i1 i2 ρ m dY dy rest=> ?_⟩
  obtain ⟨blk,k1,k2⟩:=dy j _ (by rw[dY];exact pV b)
  obtain ⟨bb,q,i,cc,t,l,rfl,hb,ht,hc⟩:=hv.UR af p1 p2 p3
  have sL:blk= .nest e0 es [0,0,0]∧μ j=β id:=by
   generalize μ j=o at k2
   cases k2 with
   | var h=>rw[af] at h;cases h
   | arr h=>rw[af] at h;cases h
   | map h=>rw[af] at h;cases h
   | nest h=>rw[af] at h;cases h;exact ⟨rfl,rfl⟩
  obtain ⟨rfl,kX⟩:=sL
  simp only[jI,H7]
  have hq:q.length<3:=by rw[cg,List.length_singleton] at hp3;omega
  refine .row k1 (kX.trans hb) (by simpa using hq) ?_ ht hc
  match q.length,hq with
  | 0,_=>rfl
  | 1,_=>rfl
  | 2,_=>rfl
 | cY j cs c=>cases hr
 | GY k n=>cases hr
 | GZ b=>cases hr
 | ec t=>
  cases x<;>simp only at hr<;>first|(cases hr;done)|skip
  obtain ⟨h1,h2⟩:=aU hr
  cases hv with
  | ec=>exact oU h2 rfl fun _ _ _ _=> .ec
 | cZ t j=>
  cases x<;>simp only at hr<;>first|(cases hr;done)|skip
  rename_i t' id
  obtain ⟨h1,h2⟩:=aU hr
  rw[bq] at h1
  subst h1
  obtain ⟨kW,a,b,c⟩:=wG (P:=P) (w:=w) (I:=I) (β:=β) h2 []
  refine ⟨_,_,[],[],a,by simpa using c,rfl,fun I' μ hp0 i1 i2 ρ m dY dy rest=> ?_⟩
  obtain ⟨blk,k1,k2⟩:=dy j _ (by rw[dY];exact pV b)
  exact afX hv k2 k1 rfl
 | list e=>
  obtain ⟨⟨y,u⟩,l1,l2,h1,h2⟩:=mi hr
  cases y<;>simp only at h2<;>first|(cases h2;done)|skip
  rename_i e' es
  obtain ⟨h3,h4⟩:=aU h2
  rw[bq] at h3
  subst h3
  obtain ⟨p1,p2⟩:=Hs S.h.rel h1 hv
  exact ⟨_,_,[.list e es],u,h4,⟨rfl,rfl,p1,⟨[],by simp⟩,id⟩,rfl,fun I' μ hp0 i1 i2 _ _ _ _ rest=> .list (p2 I' i1 i2)⟩
 | whole e j=>
  cases x<;>simp only at hr<;>first|(cases hr;done)|skip
  ·rename_i e' id
   obtain ⟨h1,h2⟩:=aU hr
   rw[bq] at h1
   subst h1
   obtain ⟨kW,a,b,c⟩:=wG (P:=P) (w:=w) (I:=I) (β:=β) h2 []
   refine ⟨_,_,[],[],a,by simpa using c,rfl,fun I' μ hp0 i1 i2 ρ m dY dy rest=> ?_⟩
   obtain ⟨blk,k1,k2⟩:=dy j _ (by rw[dY];exact pV b)
   exact afW hv k2 k1 rfl
  ·rename_i e' id ver path
   obtain ⟨h1,h2⟩:=aU hr
   rw[bq] at h1
   subst h1
   obtain ⟨kW,a,b,c⟩:=wG (P:=P) (w:=w) (I:=I) (β:=β) h2 []
   refine ⟨_,_,[],[],a,by simpa using c,rfl,fun I' μ hp0 i1 i2 ρ m dY dy rest=> ?_⟩
   obtain ⟨blk,k1,k2⟩:=dy j _ (by rw[dY];exact pV b)
   exact af0 S hv k2 k1 rfl
 | sub e j=>
  cases x<;>simp only at hr<;>first|(cases hr;done)|skip
  rename_i e' id o n
  obtain ⟨h1,h2⟩:=aU hr
  rw[bq] at h1
  subst h1
  obtain ⟨kW,a,b,c⟩:=wG (P:=P) (w:=w) (I:=I) (β:=β) h2 [ed o,ed n]
  refine ⟨_,_,[ed o,ed n],[],a,c,rfl,fun I' μ hp0 i1 i2 ρ m dY dy rest=> ?_⟩
  obtain ⟨blk,k1,k2⟩:=dy j _ (by rw[dY];exact pV b)
  simpa[jI,V.nth] using afY (I':=I') hv k2 k1 rfl
 | ptr j=>
  cases x<;>simp only at hr<;>first|(cases hr;done)|skip
  rename_i id i c
  obtain ⟨kW,a,b,c'⟩:=wG (P:=P) (w:=w) (I:=I) (β:=β) hr [ed i,ed c]
  refine ⟨_,_,[ed i,ed c],[],a,c',rfl,fun I' μ hp0 i1 i2 ρ m dY dy rest=> ?_⟩
  obtain ⟨blk,k1,k2⟩:=dy j _ (by rw[dY];exact pV b)
  simpa[jI,V.nth] using We (I':=I') hv k2 k1 rfl
 | bh j i c=>
  cases x<;>simp only at hr<;>first|(cases hr;done)|skip
  rename_i id i' c'
  obtain ⟨h1,h2⟩:=aU hr
  simp only[aT,bq] at h1
  obtain ⟨rfl,rfl⟩:=h1
  obtain ⟨kW,a,b,c'⟩:=wG (P:=P) (w:=w) (I:=I) (β:=β) h2 []
  refine ⟨_,_,[],[],a,by simpa using c',rfl,fun I' μ hp0 i1 i2 ρ m dY dy rest=> ?_⟩
  obtain ⟨blk,k1,k2⟩:=dy j _ (by rw[dY];exact pV b)
  exact We hv k2 k1 rfl
end
section
variable {P:Program} {A:cP} {w w':World} {I I' I2:Nat→Prop} {μ β β':Nat→Option Nat} {hp hp' hp0:Nat→Option an} {C:ae} {B:Nat} {M:Nat→Prop} {w0:Start}
def oa (P:Program) (w:World) (I:Nat→Prop) (β:Nat→Option Nat) (hp:Nat→Option an) (h':Hand) (u:List (Nat × an)) (K:(Nat→Prop)→(Nat→Option Nat)→(Nat→Option an)→Prop):Prop:=
 ∀(I':Nat→Prop) (μ:Nat→Option Nat) (hp0:Nat→Option an),(∀b,I b→I' b)→(∀q∈u,∀b,uA P w β hp q.1 b→I' b)→∀ρ m,ρ=h'.pl++m→C3 P w β hp ρ μ hp0→K I' μ hp0
theorem oa.later {h h':Hand} {d:List V} {u u':List (Nat × an)} {K:(Nat→Prop)→(Nat→Option Nat)→(Nat→Option an)→Prop} (t:oa P w I β hp h u K) (e:Ext P w I β hp h h' d u'):oa P w I β hp h' (u++u') K:=by
 obtain ⟨m1,e1⟩:=e.pl
 exact fun I' μ hp0 i1 i2 ρ m dY dy=>t I' μ hp0 i1 (fun q hq=>i2 q (dp.2 (.inl hq))) ρ (m1++m) (by rw[dY,e1,da]) dy
theorem oa.more {h:Hand} {u u':List (Nat × an)} {K:(Nat→Prop)→(Nat→Option Nat)→(Nat→Option an)→Prop} (t:oa P w I β hp h u K):oa P w I β hp h (u'++u) K:=
 fun I' μ hp0 i1 i2 ρ m dY dy=>t I' μ hp0 i1 (fun q hq=>i2 q (dp.2 (.inr hq))) ρ m dY dy
theorem Ia (S:aQ P w I β hp B M w0) {α:Type}: ∀{ls:List LS} {xs:List V} {h:Hand} {k:Hand→Rd α} {r:α} {rd:List Nat} {vs:List Value},(zk P ls xs h k).run C hp=some (r,rd)→vs.length=xs.length→
  (∀(j:Nat) v x,vs[j]? =some v→xs[j]? =some x→aq P w I β hp v x)→
  ∃h' fN d u,(k h').run C hp=some (r,fN)∧Ext P w I β hp h h' d u∧d.length=lA ls∧ls.length=xs.length∧
   oa P w I β hp h' u fun I' μ hp0=> ∀rest,(jf ls (d++rest)).length=xs.length∧∀(j:Nat) v y,vs[j]? =some v→(jf ls (d++rest))[j]? =some y→aq P w I' μ hp0 v y
 | [],[],h,k,r,rd,vs,hr,hl,hv=>⟨h,rd,[],[],hr,Ext.refl h,rfl,rfl,fun I' μ hp0 _ _ _ _ _ _ rest=>⟨rfl,fun j v y _ hy=>by simp[jf] at hy⟩⟩
 | [],_::_,h,k,r,rd,vs,hr,hl,hv=>by cases hr
 | _::_,[],h,k,r,rd,vs,hr,hl,hv=>by cases hr
 | l::ls,x::xs,h,k,r,rd,vs,hr,hl,hv=>by
  cases vs with
  | nil=>simp at hl
  | cons v vs=>
   simp only[zk] at hr
   obtain ⟨h1,ky,d1,u1,a1,a2,a3,a4⟩:=Wf S hr (hv 0 v x rfl rfl)
   obtain ⟨h2,uL,d2,u2,b1,b2,b3,b5,b4⟩:=Ia S a1 (by simpa using hl) (vs:=vs) (fun j v x hj hx=>hv (j+1) v x (by simpa using hj) (by simpa using hx))
   have a4':oa P w I β hp h1 u1 fun I' μ hp0=> ∀rest,aq P w I' μ hp0 v (jI l (d1++rest)):=a4
   refine ⟨h2,uL,d1++d2,u1++u2,b1,a2.trans b2,by simp only[cg,lA];omega,by simp[b5],fun I' μ hp0 i1 i2 ρ m dY dy rest=> ?_⟩
   have k1:=(a4'.later b2) I' μ hp0 i1 i2 ρ m dY dy (d2++rest)
   obtain ⟨k2,k3⟩:=b4.more I' μ hp0 i1 i2 ρ m dY dy rest
   simp only[jf]
   rw[show (d1++d2++rest).drop l.size=d2++rest by rw[da];exact oY a3,da]
   refine ⟨by simp[k2],fun j v' y hj hy=> ?_⟩
   cases j with
   | zero=>simp at hj hy;subst hj;subst hy;exact k1
   | succ j=>exact k3 j v' y (by simpa using hj) (by simpa using hy)
theorem af2 (S:aQ P w I β hp B M w0) {α:Type} {s:VS} {x:V} {h:Hand} {k:Hand→Rd α} {r:α} {rd:List Nat} {v:Value} (hr:(Ch P s x h k).run C hp=some (r,rd)) (hv:aq P w I β hp v x):
  ∃h' fN d u,(k h').run C hp=some (r,fN)∧Ext P w I β hp h h' d u∧d.length=s.size∧
   oa P w I β hp h' u fun I' μ hp0=> ∀rest,aq P w I' μ hp0 v (mf s (d++rest)):=by
 cases s with
 | one l=>
  simp only[Ch] at hr
  obtain ⟨h1,ky,d1,u1,a1,a2,a3,a4⟩:=Wf S hr hv
  exact ⟨h1,ky,d1,u1,a1,a2,a3,a4⟩
 | agg ls=>
  cases x<;>simp only[Ch] at hr<;>first|(cases hr;done)|skip
  rename_i xs
  obtain ⟨cs,rfl,e1,e2⟩:=hv.mj
  obtain ⟨h1,ky,d1,u1,a1,a2,a3,a5,a4⟩:=Ia S hr (vs:=cs.toList) (by simpa using e1) (fun j v x hj hx=>e2 j v x (by simpa using hj) hx)
  refine ⟨h1,ky,d1,u1,a1,a2,a3,fun I' μ hp0 i1 i2 ρ m dY dy rest=> ?_⟩
  obtain ⟨k1,k2⟩:=a4 I' μ hp0 i1 i2 ρ m dY dy rest
  exact .agg (by rw[k1];exact e1) fun j v y hj hy=>k2 j v y (by simpa using hj) hy
 | bJ ls=>cases x<;>cases hr
 | pref ts ls=>cases x<;>cases hr
 | fn f a b=>
  cases x<;>simp only[Ch] at hr<;>first|(cases hr;done)|skip
  rename_i f' xs ys
  obtain ⟨hc,wH⟩:=aU hr
  clear hr
  rw[bq] at hc
  subst hc
  cases hv with
  | @fn _ fs cs _ _ q1 q2 q3 q4=>
   obtain ⟨h1,ky,d1,u1,a1,a2,a3,a5,a4⟩:=Ia S wH (vs:=fs.toList) (by simpa using q1) (fun j v x hj hx=>q2 j v x (by simpa using hj) hx)
   obtain ⟨h2,uL,d2,u2,b1,b2,b3,b5,b4⟩:=Ia S a1 (vs:=cs.toList) (by simpa using q3) (fun j v x hj hx=>q4 j v x (by simpa using hj) hx)
   refine ⟨h2,uL,d1++d2,u1++u2,b1,a2.trans b2,by simp only[cg,VS.size];omega,fun I' μ hp0 i1 i2 ρ m dY dy rest=> ?_⟩
   obtain ⟨k1,k2⟩:=(a4.later b2) I' μ hp0 i1 i2 ρ m dY dy (d2++rest)
   obtain ⟨k3,k4⟩:=b4.more I' μ hp0 i1 i2 ρ m dY dy rest
   simp only[mf]
   rw[show (d1++d2++rest).drop (lA a)=d2++rest by rw[da];exact oY a3,da]
   exact .fn (by rw[k1];exact q1) (fun j v y hj hy=>k2 j v y (by simpa using hj) hy) (by rw[k3];exact q3) (fun j v y hj hy=>k4 j v y (by simpa using hj) hy)
theorem Nw (S:aQ P w I β hp B M w0) {α:Type}: ∀{ls:List VS} {xs:List V} {h:Hand} {k:Hand→Rd α} {r:α} {rd:List Nat} {vs:List Value},(Ci P ls xs h k).run C hp=some (r,rd)→vs.length=xs.length→
  (∀(j:Nat) v x,vs[j]? =some v→xs[j]? =some x→aq P w I β hp v x)→
  ∃h' fN d u,(k h').run C hp=some (r,fN)∧Ext P w I β hp h h' d u∧d.length=ur ls∧ls.length=xs.length∧
   oa P w I β hp h' u fun I' μ hp0=> ∀rest,(gp ls (d++rest)).length=xs.length∧∀(j:Nat) v y,vs[j]? =some v→(gp ls (d++rest))[j]? =some y→aq P w I' μ hp0 v y
 | [],[],h,k,r,rd,vs,hr,hl,hv=>⟨h,rd,[],[],hr,Ext.refl h,rfl,rfl,fun I' μ hp0 _ _ _ _ _ _ rest=>⟨rfl,fun j v y _ hy=>by simp[gp] at hy⟩⟩
 | [],_::_,h,k,r,rd,vs,hr,hl,hv=>by cases hr
 | _::_,[],h,k,r,rd,vs,hr,hl,hv=>by cases hr
 | l::ls,x::xs,h,k,r,rd,vs,hr,hl,hv=>by
  cases vs with
  | nil=>simp at hl
  | cons v vs=>
   simp only[Ci] at hr
   obtain ⟨h1,ky,d1,u1,a1,a2,a3,a4⟩:=af2 S hr (hv 0 v x rfl rfl)
   obtain ⟨h2,uL,d2,u2,b1,b2,b3,b5,b4⟩:=Nw S a1 (by simpa using hl) (vs:=vs) (fun j v x hj hx=>hv (j+1) v x (by simpa using hj) (by simpa using hx))
   refine ⟨h2,uL,d1++d2,u1++u2,b1,a2.trans b2,by simp only[cg,ur];omega,by simp[b5],fun I' μ hp0 i1 i2 ρ m dY dy rest=> ?_⟩
   have k1:=(a4.later b2) I' μ hp0 i1 i2 ρ m dY dy (d2++rest)
   obtain ⟨k2,k3⟩:=b4.more I' μ hp0 i1 i2 ρ m dY dy rest
   simp only[gp]
   rw[show (d1++d2++rest).drop l.size=d2++rest by rw[da];exact oY a3,da]
   refine ⟨by simp[k2],fun j v' y hj hy=> ?_⟩
   cases j with
   | zero=>simp at hj hy;subst hj;subst hy;exact k1
   | succ j=>exact k3 j v' y (by simpa using hj) (by simpa using hy)
def Ib:List BS→Nat
 | []=>0
 | b::l=>b.size+Ib l
theorem Wg: ∀{b:Nat} {e e':TypeId} {es:List V} {v:V},(∀q b' e' m,At P w b e es q b' e' m→kp P w I b' e' m)→∀(path:Path),ly P e path=some e'→c6 P e es path=some v→0<v.toList.length→
  ∃b1,At P w b e es path b1 e' v.toList
 | b,e,e',es,v,cO,[],ht,hv,hl=>by
  simp only[ly,eb] at ht
  simp only[c6,eb] at hv
  subst ht;subst hv
  exact ⟨b,.here⟩
 | b,e,e',es,v,cO,(i,c)::q,ht,hv,hl=>by
  simp only[ly] at ht
  simp only[c6] at hv
  obtain ⟨x,hx,hv⟩:=bind_some hv
  cases Nx:(ly.B1 P e)[c]? with
  | none=>rw[Nx] at ht;cases ht
  | some t=>
   rw[Nx] at ht
   simp only at ht
   have Ic:(bx P e)[c]? =some t:=Nx
   cases hu:P.underlying t with
   | none=>rw[hu] at ht;cases ht
   | some d=>
    rw[hu] at ht
    cases d<;>simp only at ht<;>first|(cases ht;done)|skip
    rename_i e1
    rw[oL Ic] at hv
    have hR:=cO _ _ _ _ .here
    obtain ⟨Ca,c1,c2,c3⟩:=hR.cells
    have we:c<P.cellsOf e:=by rw[←gu hR.ok];exact (bL.1 Ic).1
    obtain ⟨u,d1,d2⟩:=c3 i c x t hx Ic we
    rw[d2.uD] at hv
    generalize hy:ch P e x c=y at d2 hv
    cases d2 with
    | gM a p=>unfold gH at a;rw[hu] at a;cases a
    | @emp e2 a cap n0 ha=>
     rw[hu] at n0;cases n0
     simp only at hv
     cases q with
     | nil=>simp only[c6,eb] at hv;subst hv;simp[V.toList] at hl
     | cons a q=>simp[c6] at hv
    | @row e2 cF b2 cap n0 nR bw cG oN=>
     rw[hu] at n0;cases n0
     simp only at hv
     have gv: ∀{q b' e' bf},At P w b2 e1 cF q b' e' bf→At P w b e es ((i,c)::q) b' e' bf:=fun h=> .step c1 hx Ic hu hy nR d1 h
     obtain ⟨b1,nj⟩:=Wg (fun q b' e' m h=>cO _ _ _ _ (gv h)) q ht hv hl
     exact ⟨b1,gv nj⟩
theorem Wh (S:aQ P w I β hp B M w0) {α:Type}: ∀{bs:List BS} {j:Nat} {h:Hand} {k:Hand→Rd α} {r:α} {rd:List Nat},(sA P bs j h k).run C hp=some (r,rd)→
  ∃h' fN d u,(k h').run C hp=some (r,fN)∧Ext P w I β hp h h' d u∧d.length=Ib bs∧
   ∀rest,(fq bs (d++rest)).length=bs.length∧∃o:Nat→Option Nat,
    (∀(i:Nat) blk,(fq bs (d++rest))[i]? =some blk→∃p,eK h'.pl (j+i)=some p∧eF P w β hp p (o i) blk)∧
    oa P w I β hp h' u fun I' μ hp0=> ∀(i:Nat) blk,(fq bs (d++rest))[i]? =some blk→(∀b,bN P w (o i) blk b→¬I' b)→eE P w I' μ hp0 (o i) blk
 | [],j,h,k,r,rd,hr=>⟨h,rd,[],[],hr,Ext.refl h,rfl,fun rest=>⟨rfl,fun _=>none,fun i blk hb=>by simp[fq] at hb,fun I' μ hp0 _ _ _ _ _ _ i blk hb=>by simp[fq] at hb⟩⟩
 | b::bs,j,h,k,r,rd,hr=>by
  simp only[sA] at hr
  have fin: ∀{h1:Hand} {ky:List Nat} {d1:List V} {u1:List (Nat × an)} {o1:Option Nat} {p:Place},(sA P bs (j+1) h1 k).run C hp=some (r,ky)→Ext P w I β hp h h1 d1 u1→d1.length=b.size→eK h.pl j=some p→
    (∀rest,eF P w β hp p o1 (gI b (d1++rest)))→(∀rest,oa P w I β hp h1 u1 fun I' μ hp0=>(∀bb,bN P w o1 (gI b (d1++rest)) bb→¬I' bb)→eE P w I' μ hp0 o1 (gI b (d1++rest)))→
    ∃h' fN d u,(k h').run C hp=some (r,fN)∧Ext P w I β hp h h' d u∧d.length=Ib (b::bs)∧
     ∀rest,(fq (b::bs) (d++rest)).length=(b::bs).length∧∃o:Nat→Option Nat,
      (∀(i:Nat) blk,(fq (b::bs) (d++rest))[i]? =some blk→∃p,eK h'.pl (j+i)=some p∧eF P w β hp p (o i) blk)∧
      oa P w I β hp h' u fun I' μ hp0=> ∀(i:Nat) blk,(fq (b::bs) (d++rest))[i]? =some blk→(∀b,bN P w (o i) blk b→¬I' b)→eE P w I' μ hp0 (o i) blk:=by
   intro h1 ky d1 u1 o1 p hk he hd bM hl ht
   obtain ⟨h2,uL,d2,u2,b1,b2,b3,b4⟩:=Wh S hk
   refine ⟨h2,uL,d1++d2,u1++u2,b1,he.trans b2,by simp only[cg,Ib];omega,fun rest=> ?_⟩
   obtain ⟨c1,o,c2,c3⟩:=b4 rest
   simp only[fq]
   rw[show (d1++d2++rest).drop b.size=d2++rest by rw[da];exact oY hd,da]
   refine ⟨by simp[c1],fun i=>match i with|0=>o1|i+1=>o i,fun i blk hb=> ?_,fun I' μ hp0 i1 i2 ρ m dY dy i blk hb dj=> ?_⟩
   ·cases i with
    | zero=>
     simp at hb
     subst hb
     exact ⟨p,b2.look (he.look bM),hl _⟩
    | succ i=>
     obtain ⟨q,e1,e2⟩:=c2 i blk (by simpa using hb)
     exact ⟨q,by rw[show j+(i+1)=j+1+i by omega];exact e1,e2⟩
   ·cases i with
    | zero=>
     simp at hb
     subst hb
     exact ((ht _).later b2) I' μ hp0 i1 i2 ρ m dY dy dj
    | succ i=>exact c3.more I' μ hp0 i1 i2 ρ m dY dy i blk (by simpa using hb) dj
  cases bM:eK h.pl j with
  | none=>rw[bM] at hr;cases hr
  | some p=>
   rw[bM] at hr
   cases p with
   | blk id=>
    obtain ⟨l1,hr⟩:=run_get hr
    cases af:hp id with
    | none=>rw[af] at hr;cases hr
    | some blk=>
     rw[af] at hr
     cases blk with
     | dead=>cases hr
     | var T0 cs=>
      cases b<;>simp only at hr<;>first|(cases hr;done)|skip
      rename_i T1 ss
      obtain ⟨hT,hr1⟩:=aU hr
      clear hr
      rw[bq] at hT
      subst hT
      have c7:=S.h.rel id _ af
      generalize ho:β id=o at c7
      cases c7 with
      | @var _ bb Ca T hb hh hs hI hx ic=>
       obtain ⟨h1,ky,d1,u1,a1,a2,a3,a5,a4⟩:=Nw S hr1 (vs:=Ca.toList) (by simpa using hs) (fun j v x hj cT=>hx j v x (by simpa using hj) cT)
       refine fin (o1:=β id) a1 a2 a3 bM (fun rest=> .var af) fun rest I' μ hp0 i1 i2 ρ m dY dy dj=> ?_
       obtain ⟨k1,k2⟩:=a4 I' μ hp0 i1 i2 ρ m dY dy rest
       exact .var (ho.trans hb) hh (by rw[k1];exact hs) (dj _ (.root (by simp[gI]) (ho.trans hb))) (fun i v y hi hy=>k2 i v y (by simpa using hi) hy) ic
     | arr e' es fz=>
      cases fz with
      | true=>cases hr
      | false=>
       cases b with
       | arr e fz=>
        cases fz with
        | true=>cases hr
        | false=>
         obtain ⟨hc,wH⟩:=aU hr
         clear hr
         rw[bq] at hc
         subst hc
         refine fin (d1:=[.list e es]) (o1:=β id) wH (Ext.leaf h _) rfl bM (fun rest=>eF.arr af) fun rest I' μ hp0 i1 i2 ρ m dY dy dj=> ?_
         change eE P w I' μ hp0 (β id) (.arr e es false)
         have c7:=S.h.rel id _ af
         generalize ho:β id=o at c7 dj⊢
         cases c7 with
         | ep hb=>exact .ep hb
         | arr a1 a2 a3 a4 a5 a6 a7=>
          refine .arr a1 a2 a3 a4 (fun h=>by cases h) (fun _=>dj _ (.root (by simp[gI]) a2)) fun i j x t' y1 y2 y3=> ?_
          obtain ⟨v,z1,z2⟩:=a7 i j x t' y1 y2 y3
          exact ⟨v,z1,z2.mono i1 fun _ _=>rfl⟩
       | _=>cases hr
     | nest e' es av=>
      cases b with
      | nest e=>
       obtain ⟨hc,wH⟩:=aU hr
       clear hr
       rw[bq] at hc
       subst hc
       refine fin (d1:=[.list e es]) (o1:=β id) wH (Ext.leaf h _) rfl bM (fun rest=>eF.nest af) fun rest I' μ hp0 i1 i2 ρ m dY dy dj=> ?_
       have Wi: ∀bb,bN P w (β id) (.nest e es [0,0,0]) bb→¬I' bb:=dj
       change eE P w I' μ hp0 (β id) (.nest e es [0,0,0])
       have c7:=S.h.rel id _ af
       generalize ho:β id=o at c7 Wi⊢
       cases c7 with
       | nest hb cO pQ=>
        refine .nest hb (fun q b' e1 m1 hq=> ?_) pQ
        obtain ⟨ok,⟨Ca,c1,c2,c3⟩,nI⟩:=cO q b' e1 m1 hq
        refine ⟨ok,⟨Ca,c1,c2,fun i j x t' y1 y2 y3=> ?_⟩,Wi _ (.row hb hq)⟩
        obtain ⟨v,z1,z2⟩:=c3 i j x t' y1 y2 y3
        exact ⟨v,z1,z2.mono i1 (fun _ _=>rfl) fun _ _ _ _ _=>rfl⟩
      | _=>cases hr
     | map t' es=>
      cases b with
      | map t=>
       obtain ⟨hc,wH⟩:=aU hr
       clear hr
       rw[bq] at hc
       subst hc
       refine fin (d1:=[.list t es]) (o1:=β id) wH (Ext.leaf h _) rfl bM (fun rest=>eF.map af) fun rest I' μ hp0 i1 i2 ρ m dY dy dj=> ?_
       change eE P w I' μ hp0 (β id) (.map t es)
       have c7:=S.h.rel id _ af
       generalize ho:β id=o at c7 dj⊢
       cases c7 with
       | map a1 a2 a3 a4 a5 a6 a7=>exact .map a1 a2 a3 a4 (dj _ (.root (by simp[gI]) a2)) a6 a7
      | _=>cases hr
   | row id ver path=>
    obtain ⟨e0,es,av,l1,k1,k2,k3,k4,k5⟩:=pO hr
    obtain ⟨e',vv,m1,m2,m3⟩:=zr k5
    cases b with
    | arr e fz=>
     cases fz with
     | true=>cases m3
     | false=>
      obtain ⟨hc,m4⟩:=aU m3
      clear m3
      simp only[aT,bq,ll] at hc
      obtain ⟨rfl,C4,nR⟩:=hc
      have c7:=S.h.rel id _ k1
      cases hb:β id with
      | none=>
       rw[hb] at c7
       cases c7 with
       | nest aI _ _=>cases aI
      | some b0=>
       rw[hb] at c7
       cases c7 with
       | nest aI cO pQ=>
        cases aI
        obtain ⟨b1,dO⟩:=Wg cO path m1 m2 nR
        refine fin (d1:=[.list e vv.toList]) (o1:=some b1) m4 (Ext.leaf h _) rfl bM (fun rest=>eF.row k1 hb dO C4 k2 k3 k4 nR) fun rest I' μ hp0 i1 i2 ρ m dY dy dj=> ?_
        change eE P w I' μ hp0 (some b1) (.arr e vv.toList false)
        obtain ⟨ok,⟨Ca,c1,c2,c3⟩,nI⟩:=cO _ _ _ _ dO
        refine .arr ok rfl c1 c2 (fun h=>by cases h) (fun _=>dj _ (.root (by simp[gI]) rfl)) fun i j x t' y1 y2 y3=> ?_
        obtain ⟨v,z1,z2⟩:=c3 i j x t' y1 y2 y3
        refine ⟨v,z1,?_⟩
        generalize ch P e x j=y at z2⊢
        cases z2 with
        | gM _ p=>exact p.mono i1 fun _ _=>rfl
        | emp hu _=>exact absurd hu (Wj C4 y2 _)
        | row hu _ _ _ _=>exact absurd hu (Wj C4 y2 _)
    | _=>cases m3
where
 Wj {e t:TypeId} {j:Nat} (h:Cc P e=true) (ht:(bx P e)[j]? =some t) (e':TypeId):P.underlying t≠some (.slice e'):=by
  intro hu
  have h2:=gn.1 h t (kN ht)
  rw[hu] at h2
  cases h2
end
end Go.AM
