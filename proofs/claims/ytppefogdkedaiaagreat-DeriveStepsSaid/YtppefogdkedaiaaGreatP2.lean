/-
  Functions of the program, lifted to plain data.
-/
import Derived.Great.BuildSlice
import Derived.Maps.Keyed
import Derived.WideKeyArr
import Derived.MapKept
import Derived.ChangeMaps4
import Derived.Carry
import Derived.Lib.AppendStr
import Derived.Laws.BytesString
import Derived.Lib.Builder
import Derived.Lib.UnsafeStr
import Derived.Test.YtppefogdkedaiaaGreatP1
set_option linter.unusedVariables false
set_option linter.unusedSimpArgs false
namespace Go.AM
section
variable {P:Program} {w w':World} {I I':Nat→Prop} {β β':Nat→Option Nat} {hp hp':Nat→Option an} {C:ae} {B:Nat} {M:Nat→Prop} {w0:Start}
theorem Zs (S:aF P w I β hp B M w0) {t:TypeId} {a v:Value} {xa x:V} {r:R} {rd:List Nat} (ha:ao P w I β hp a xa) (hv:ao P w I β hp v x)
  (h:(IH P t xa x).run C hp=some (r,rd)):pR P ((Instr.storeAt t a v).run P w) w I β hp B M w0 r:=by
 unfold IH at h
 obtain ⟨h0,h⟩:=aH h
 simp only[aP,a9] at h0
 obtain ⟨ht,hn⟩:=h0
 cases xa with
 | ptr id i c=>
  obtain ⟨l,h⟩:=run_get h
  cases ab:hp id with
  | none=>rw[ab] at h;cases h
  | some blk=>
   rw[ab] at h
   cases blk with
   | dead=>cases h
   | var T0 cs=>
    obtain ⟨Pp,h⟩:=aH h
    have mI:pI P T0=true→0<c:=fun bX=>by
     rw[bX] at Pp
     simpa using Pp
    obtain ⟨b,hb,rfl⟩:=ha.hU ab (by simp)
    simp only[an.sz,Nat.mul_zero,gY]
    cases pQ:(z0 P t cs&&e6 P t x) with
    | true=>
     dsimp only at h
     rw[pQ] at h
     simp only[cond_true] at h
     obtain ⟨hc,h⟩:=aH h
     obtain rfl:=aR h
     simp only[aP,ko] at hc pQ
     obtain ⟨o1,o2⟩:=Pg hv pQ.2
     have lX:=Y8 pQ.2
     refine Pe S ab hb ht hn (by rw[o2,lX];rfl) mI (fun j u y hu hy=> ?_) (by rw[o2];simp[o1]) (by rw[lX];simp;omega) (Pd _ _ _ _) (fun j y hy hj u hu=> ?_) (fun j y hy hj u hu=> ?_)
     ·rw[o2] at hu
      rw[lX] at hy
      cases j with
      | zero=>simp at hu hy;subst hu;subst hy;exact hv
      | succ j=>simp at hy
     ·rw[Jo] at hy
      cases xh:cs[j]? with
      | none=>rw[xh] at hy;cases hy
      | some y0=>
       rw[xh] at hy
       simp only[Option.map_some,eh] at hy
       rw[lX] at hj
       simp only[List.length_singleton] at hj
       have bH:Nat.beq c (0+j)=false:=by
        cases hq:Nat.beq c (0+j) with
        | false=>rfl
        | true=>rw[a9] at hq;omega
       rw[bH] at hy
       have:=O1 (c:=false) hv (hu y0 xh)
       rw[←hy]
       simpa using this
     ·rw[lX] at hj hu
      have Zt:j=0:=by simpa using hj
      subst Zt
      rw[Jo] at hy
      cases xh:cs[c+0]? with
      | none=>rw[xh] at hy;cases hy
      | some y0=>
       rw[xh] at hy
       simp only[Option.map_some,eh] at hy
       have heq:Nat.beq c (0+(c+0))=true:=by rw[a9];omega
       rw[heq] at hy
       have U:ao P w I β hp u x:=hu x rfl
       have:sx true x y0=x:=Y9 x y0
       rw[←hy,this]
       exact U
    | false=>
     dsimp only at h
     rw[pQ] at h
     simp only[cond_false] at h
     obtain ⟨hc,h⟩:=aH h
     simp only[aP,dh] at hc
     obtain ⟨e1,e2⟩:=Jm hv h
     obtain ⟨h1,l2,h⟩:=EG h (vs:=v.cells.toList) (by simpa using e1) (fun j u y a b=>e2 j u y (by simpa using a) b)
     obtain rfl:=aR h
     refine Pe S ab hb ht hn e1 mI e2 h1 hc.2 (AB _ _ _ hc.2) (fun j y hy hj u hu=> ?_) (fun j y hy hj u hu=> ?_)
     ·unfold fV at hy
      rw[nF _ _ _ _ hc.2] at hy
      rcases hj with hj|hj
      ·rw[aj hj] at hy;exact hu y hy
      ·rw[ai (by omega),ai (by omega)] at hy;exact hu y hy
     ·unfold fV at hy
      rw[nF _ _ _ _ hc.2,ai (by omega),aj (by omega)] at hy
      rw[show c+j-c=j by omega] at hy
      exact hu y hy
   | arr e es fz=>
    cases fz with
    | true=>cases h
    | false=>
    obtain ⟨b,hb,rfl⟩:=ha.hU ab (by simp)
    obtain ⟨au,h⟩:=aH h
    obtain ⟨⟨ys,fr⟩,l1,l2,bu,h⟩:=lk h
    obtain ⟨hc,h⟩:=aH h
    obtain ⟨x0,rh,h⟩:=lV h
    obtain rfl:=aR h
    simp only[aP,mw,dh] at hc
    obtain ⟨dQ,Zu,iX⟩:=hc
    have pU:v.cells.size=x.cells.length∧∀(j:Nat) u y,v.cells.toList[j]? =some u→x.cells[j]? =some y→ao P w I β hp u y:=by
     cases x with
     | agg xs=>
      obtain ⟨cs,rfl,h1,U⟩:=hv.ll
      exact ⟨h1,fun j u y a b=>U j u y (by simpa[Value.cells] using a) b⟩
     | _=>
      simp only[V.cells] at bu iX⊢
      simp only[sw] at bu
      obtain ⟨⟨y1,u1⟩,l3,l4,hq,bu⟩:=lk bu
      obtain ⟨q1,q2⟩:=Et S.h.rel hq hv
      obtain ⟨⟨y2,u2⟩,l5,l6,AK,bu⟩:=lk bu
      cases AK
      have:=aR bu
      cases this
      obtain ⟨tl,tg⟩:=uB iX
      have fO:=tg 0 _ y1 (bG (by rw[tl];exact Nat.one_pos)) rfl
      have bS:=q2 (iZ P w I β hp u1) (fun _ h=> .inl h) (fun p hp b h=> .inr ⟨p,hp,h⟩)
      have ho:=bS.pure fO
      have JB:v.cells= #[v]:=by cases ho<;>rfl
      rw[JB]
      refine ⟨rfl,fun j u y hu hy=> ?_⟩
      cases j with
      | zero=>simp at hu hy;subst hu;subst hy;exact hv
      | succ j=>simp at hy
    obtain ⟨k1,k2,k3⟩:=Jf S.h.rel bu (vs:=v.cells.toList) (by simpa using pU.1) pU.2
    obtain ⟨rb,S1⟩:=Av S k2
    have AJ:bR hp fr id=some (.arr e es false):=by
     rcases uv (hp:=hp) (l:=fr) (id:=id) with h|⟨b',hm,_⟩
     ·exact h.trans ab
     ·exfalso
      have Zv:ku (fr.map (·.1)) id=true:=xb (gG.2 ⟨_,hm,rfl⟩)
      rw[Zv] at dQ;cases dQ
    have Pq:=k3 (iZ P w I β hp fr) (fun _ h=> .inl h) (fun p hp b h=> .inr ⟨p,hp,h⟩)
    obtain ⟨tl,tg⟩:=uB iX
    have w4:=(kF au).1
    have uE:ys.length=v.cells.size:=by rw[k1,pU.1]
    have hcn:c+v.cells.size≤P.cellsOf e:=by rw[pU.1];exact Zu
    have hr:=S1.h.rel id _ AJ
    cases hr with
    | dP aB=>simp at rh
    | @arr _ _ _ b' Ca Jl aB hh hs hf ew hx=>
     rw[hb] at aB
     cases aB
     have lY:i<es.length:=(bD.1 rh).1
     have hbound:i*P.cellsOf e+P.cellsOf e≤Ca.size:=by
      have:(i+1)*P.cellsOf e≤es.length*P.cellsOf e:=dL _ lY
      rw[dF] at this
      omega
     simp only[an.sz]
     have sP:i*P.cellsOf e+c+v.cells.size≤Ca.size:=by omega
     have c6: ¬iZ P w I β hp fr b:=ew rfl
     have h1: ∀u∈v.cells.toList,u.oneCell'=true:=by
      intro u hu
      obtain ⟨j,hj⟩:=sj hu
      have cz:j<ys.length:=by rw[uE];simpa using (bD.1 hj).1
      have oR:j<(((flat P e).drop c).take x.cells.length).length:=by rw[tl];exact cz
      exact (Pq j u ys[j] hj (bG cz)).one (tg j _ ys[j] (bG oR) (bG cz))
     have db:=Jn (t:=t) (o:=i*P.cellsOf e+c) (v:=v) ht (by rw[pU.1];exact hn.symm) hh sP h1
     have hlen:(Ca.toList.take (i*P.cellsOf e+c)++(v.cells.toList++Ca.toList.drop (i*P.cellsOf e+c+v.cells.toList.length))).length=Ca.size:=by
      rw[AB _ _ _ (by simpa using sP)];simp
     have bS:(parts P e x0).length=P.cellsOf e:=by rw[w7];exact fN au
     have AD:=EH S1 (blk':= .arr e (es.set i (cK P e (fV (parts P e x0) c ys))) false)
      (Cb:=(Ca.toList.take (i*P.cellsOf e+c)++(v.cells.toList++Ca.toList.drop (i*P.cellsOf e+c+v.cells.toList.length))).toArray) AJ (by simp) ⟨rfl,by simp⟩ hb c6 (by simp) hh (by simpa using hlen)
      (fun hle e8=> .arr au rfl e8 (by simp only[qz,oA];omega) (fun h=>by cases h) (fun _=>c6) fun i' j z t' hz oR hj=>by
       simp only[nn]
       rw[nF _ _ _ _ (by simpa using sP)]
       simp only[Array.length_toList]
       rw[List.getElem?_set] at hz
       by_cases jd:i=i'
       ·subst jd
        rw[aj rfl,aj lY] at hz
        cases hz
        have ER:j<(parts P e x0).length:=by omega
        have uF:(fV (parts P e x0) c ys)[j]? =if j<c then (parts P e x0)[j]? else if j<c+ys.length then ys[j-c]? else (parts P e x0)[j]? :=by
         unfold fV;exact nF _ _ _ _ (by omega)
        by_cases qY:j<c
        ·rw[aj (by omega)]
         rw[aj qY] at uF
         obtain ⟨u,t2,a1,a2,a3⟩:=ED hx au rh (bG ER)
         rw[oR] at a1;cases a1
         refine ⟨u,by simpa using a2,?_⟩
         rw[qZ (uF.trans (bG ER)) oR]
         exact a3.mono hle.dC hle.cy
        ·rw[ai qY] at uF
         by_cases gv:j<c+ys.length
         ·rw[aj gv] at uF
          rw[ai (by omega),aj (by omega)]
          have pV:j-c<ys.length:=by omega
          have Pr:j-c<v.cells.toList.length:=by simp;omega
          have alm:j-c<v.cells.size:=by omega
          refine ⟨v.cells.toList[j-c],?_,?_⟩
          ·rw[show i*P.cellsOf e+j-(i*P.cellsOf e+c)=j-c by omega]
           exact bG Pr
          ·rw[qZ (uF.trans (bG pV)) oR]
           have Zw:(((flat P e).drop c).take x.cells.length)[j-c]? =some t':=by
            rw[fe (by omega),iu,show c+(j-c)=j by omega,←sM]
            exact oR
           exact ((Pq (j-c) _ ys[j-c] (bG Pr) (bG pV)).pure (tg (j-c) t' ys[j-c] Zw (bG pV))).mono hle.dC hle.cy
         ·rw[ai gv] at uF
          rw[ai (by omega),ai (by omega)]
          obtain ⟨u,t2,a1,a2,a3⟩:=ED hx au rh (bG ER)
          rw[oR] at a1;cases a1
          refine ⟨u,by simpa using a2,?_⟩
          rw[qZ (uF.trans (bG ER)) oR]
          exact a3.mono hle.dC hle.cy
       ·rw[ai jd] at hz
        obtain ⟨u,a2,a3⟩:=hx i' j z t' hz oR hj
        have bH:i'*P.cellsOf e+j<i*P.cellsOf e+c∨i*P.cellsOf e+c+v.cells.size≤i'*P.cellsOf e+j:=by
         rcases pB i' i with aO|pW
         ·left
          have:(i'+1)*P.cellsOf e≤i*P.cellsOf e:=dL _ aO
          rw[dF] at this
          omega
         ·right
          have:(i+1)*P.cellsOf e≤i'*P.cellsOf e:=dL _ (by omega)
          rw[dF] at this
          omega
        refine ⟨u,?_,a3.mono hle.dC hle.cy⟩
        rcases bH with bH|bH
        ·rw[aj bH];simpa using a2
        ·rw[ai (by omega),ai (by omega)];simpa using a2)
     exact ⟨_,_,_,db,rb.trans AD.1,AD.2,rfl⟩
   | map _ _=>cases h
   | nest e es ar=>
    obtain ⟨b,hb,rfl⟩:=ha.hU ab (by simp)
    exact Po S ht hn hv ab hb .here h
 | cR id ver path i c=>
  obtain ⟨e0,es,ar,l,ab,h1,U,h3,h⟩:=oM h
  obtain ⟨b,b1,e1,l1,hb,dD,rfl⟩:=ha.OY ab h1 U h3
  exact Po S ht hn hv ab hb dD h
 | _=>cases h
end
section
variable {P:Program} {w w':World} {I I':Nat→Prop} {β β':Nat→Option Nat} {hp hp':Nat→Option an} {C:ae} {B:Nat} {M:Nat→Prop} {w0:Start}
theorem JC: ∀{ts:List TypeId} {vs:List Value} {j:Nat} {y:V},(ju P ts vs)[j]? =some y→∃t v,ts[j]? =some t∧vs[j]? =some v∧y=pH P t v
 | [],vs,j,y,h=>by simp[ju] at h
 | _::_,[],j,y,h=>by simp[ju] at h
 | t::ts,v::vs,0,y,h=>by simp[ju] at h;exact ⟨t,v,rfl,rfl,h.symm⟩
 | t::ts,v::vs,j+1,y,h=>by
  simp only[ju,List.getElem?_cons_succ] at h
  obtain ⟨t',v',a,b,c⟩:=JC h
  exact ⟨t',v',by simpa using a,by simpa using b,c⟩
theorem Ps: ∀{ts:List TypeId} {vs:List Value},ts.length=vs.length→(ju P ts vs).length=vs.length
 | [],[],_=>rfl
 | [],_::_,h=>by simp at h
 | _::_,[],h=>by simp at h
 | t::ts,v::vs,h=>by simp[ju,Ps (ts:=ts) (vs:=vs) (by simpa using h)]
theorem kJ {e:TypeId} (h:c7 P e=true): ∃i z,P.info? e=some i∧i.zero=some z∧i.size=P.cellsOf e∧z.cells.size=P.cellsOf e∧zeroCells P e=ju P (flat P e) z.cells.toList:=by
 unfold c7 at h
 simp only[aP,a9,ko] at h
 obtain ⟨h1,U,_,h3⟩:=h
 cases hi:P.info? e with
 | none=>rw[hi] at h3;cases h3
 | some i=>
  rw[hi] at h3
  simp only[Option.bind_some] at h3
  cases hz:i.zero with
  | none=>rw[hz] at h3;cases h3
  | some z=>
   rw[hz] at h3
   simp only[a9] at h3
   exact ⟨i,z,rfl,hz,by simp[Program.cellsOf,hi],h3,by simp[zeroCells,hi,hz]⟩
theorem Pt {e:TypeId} (h:c7 P e=true): ∃i z,P.info? e=some i∧i.zero=some z∧z.cells.size=(zeroCells P e).length∧z.cells.size=P.cellsOf e∧
  ∀(j:Nat) v x,z.cells[j]? =some v→(zeroCells P e)[j]? =some x→ao P w I β hp v x:=by
 obtain ⟨i,z,h1,U,h3,h4,h5⟩:=kJ h
 have hl:(flat P e).length=z.cells.toList.length:=by rw[(kF h).1];simpa using h4.symm
 refine ⟨i,z,h1,U,?_,h4,fun j v x hv hx=> ?_⟩
 ·rw[h5,Ps hl];simp
 ·rw[h5] at hx
  obtain ⟨t,v',_,w8,rfl⟩:=JC hx
  have:v'=v:=by
   have e1:z.cells[j]? =some v':=by simpa using w8
   rw[hv] at e1;exact (dv e1).symm
  subst this
  exact ao.const t v'
theorem nG {nb:Nat} {b:an} {v:V} {upd:List (Nat × an)} {r:R} {rd:List Nat} (h:(jv nb b v upd).run C hp=some (r,rd)):hp nb=none∧r=⟨v,(nb,b)::upd⟩:=by
 obtain ⟨l,h⟩:=run_get h
 cases hn:hp nb with
 | none=>rw[hn] at h;exact ⟨rfl,(aR h).symm⟩
 | some x=>rw[hn] at h;cases h
theorem Pu (S:aF P w I β hp B M w0) {nb:Nat} {xs:List V} {C0:Array Value} {T:TypeId} (hn:hp nb=none) (hs:C0.size=xs.length)
  (hx: ∀(j:Nat) v x,C0[j]? =some v→xs[j]? =some x→ao P w I β hp v x) (gr:OT P w.heap.size T C0):
  Le P w I β hp (w.alloc (.cells C0 T)) I (aK β nb (some w.heap.size)) (aK hp nb (some (.var T xs)))∧aF P (w.alloc (.cells C0 T)) I (aK β nb (some w.heap.size)) (aK hp nb (some (.var T xs))) B M w0∧
  ao P (w.alloc (.cells C0 T)) I (aK β nb (some w.heap.size)) (aK hp nb (some (.var T xs))) (.pointer (some ⟨w.heap.size,0,none⟩)) (.ptr nb 0 0):=by
 obtain ⟨h1,U⟩:=Jh S (blk:= .var T xs) (c:=C0) (T:=T) hn (fun b' h=>(dv (h.flat (by simp))).symm) (fun hle e8 c6=> .var rfl e8 hs c6 (fun j v x a b=>(hx j v x a b).mono hle) gr)
 refine ⟨h1,U,?_⟩
 have:=ao.ptr (P:=P) (w:=w.alloc (.cells C0 T)) (I:=I) (β:=aK β nb (some w.heap.size)) (hp:=aK hp nb (some (.var T xs))) (i:=0) (c:=0) (blk:= .var T xs) (da _ _ _) (by simp) (da _ _ _)
 simpa using this
theorem Zx (S:aF P w I β hp B M w0) {e:TypeId} {nb:Nat} {r:R} {rd:List Nat}
  (h:(Rd.aC (c7 P e&&(!(pI P e)||OO (zeroCells P e))) (jv nb (.var e (zeroCells P e)) (.ptr nb 0 0) [])).run C hp=some (r,rd)):di P ((Instr.alloc e true (.tuple #[])).run P w) w I β hp B M w0 r:=by
 obtain ⟨au,h⟩:=aH h
 rw[aP] at au
 obtain ⟨au,mI⟩:=au
 obtain ⟨hn,rfl⟩:=nG h
 obtain ⟨i,z,h1,U,h3,h4,h5⟩:=Pt (w:=w) (I:=I) (β:=β) (hp:=hp) au
 obtain ⟨a,b,c⟩:=Pu S (T:=e) hn h3 h5 fun bX=>by
  rw[bX,qA,Bool.false_or] at mI
  cases hz:zeroCells P e with
  | nil=>rw[hz] at mI;cases mI
  | cons y l=>
   rw[hz] at mI h3 h5
   cases y<;>first|(cases mI;done)|skip
   have aO:0<z.cells.size:=by rw[h3];simp
   have:=h5 0 z.cells[0] .dB (k9 aO) rfl
   left
   rw[k9 aO]
   generalize z.cells[0]=u at this
   cases this;rfl
 exact ⟨_,_,_,_,by simp[Instr.alloc,zeroValue,typeInfo,h1,U,newVar,newRow],a,b,c⟩
theorem Zy (S:aF P w I β hp B M w0) {e:TypeId} {nb:Nat} {x:V} {v:Value} {r:R} {rd:List Nat} (hv:ao P w I β hp v x)
  (h:(Rd.aC (!(pI P e)) <| lQ x.cells (jv nb (.var e x.cells) (.ptr nb 0 0) [])).run C hp=some (r,rd)):di P ((Instr.box e v).run P w) w I β hp B M w0 r:=by
 obtain ⟨mI,h⟩:=aH h
 obtain ⟨e1,e2⟩:=Jm hv h
 obtain ⟨_,l,h⟩:=EG h (vs:=v.cells.toList) (by simpa using e1) (fun j u y a b=>e2 j u y (by simpa using a) b)
 obtain ⟨hn,rfl⟩:=nG h
 obtain ⟨a,b,c⟩:=Pu S (T:=e) hn e1 e2 fun bX=>by rw[bX] at mI;cases mI
 exact ⟨_,_,_,_,by simp[Instr.box,newVar,newRow],a,b,c⟩
theorem foldl_set (off:Nat): ∀(vs:List Value) (k:Nat) (cs:Array Value) (i:Nat),off+k+vs.length≤cs.size→
  ((vs.zipIdx k).foldl (fun cs p=>cs.setIfInBounds (off+p.2) p.1) cs)[i]? =if i<off+k then cs[i]? else if i<off+k+vs.length then vs[i-(off+k)]? else cs[i]?
 | [],k,cs,i,h=>by simp;intro h1 U;omega
 | v::vs,k,cs,i,h=>by
  simp only[List.zipIdx_cons,List.foldl_cons]
  simp only[List.length_cons] at h⊢
  rw[foldl_set off vs (k+1) _ i (by simp;omega)]
  by_cases h1:i<off+k
  ·rw[aj (by omega),aj h1]
   rw[DN (by omega)]
  ·rw[ai h1]
   by_cases U:i=off+k
   ·subst U
    rw[aj (by omega),aj (by omega)]
    rw[IE (by omega)]
    simp
   ·rw[ai (by omega)]
    by_cases h3:i<off+k+(vs.length+1)
    ·rw[aj (by omega),aj h3,show i-(off+k)=(i-(off+(k+1)))+1 by omega]
     simp
    ·rw[ai (by omega),ai h3,DN (by omega)]
theorem Pv (off:Nat): ∀(vs:List Value) (k:Nat) (cs:Array Value),((vs.zipIdx k).foldl (fun cs p=>cs.setIfInBounds (off+p.2) p.1) cs).size=cs.size
 | [],k,cs=>rfl
 | v::vs,k,cs=>by
  simp only[List.zipIdx_cons,List.foldl_cons]
  rw[Pv off vs (k+1)]
  simp
theorem Pw {cells:Array Value} {off:Nat} {v:Value} (h:off+v.cells.size≤cells.size) (i:Nat):
  (v.cells.zipIdx.foldl (fun cs (p:Value × Nat)=>cs.setIfInBounds (off+p.2) p.1) cells)[i]? =if i<off then cells[i]? else if i<off+v.cells.size then v.cells[i-off]? else cells[i]? :=by
 have:=foldl_set off v.cells.toList 0 cells i (by simpa using h)
 rw[←DO]
 simpa[Array.toList_zipIdx] using this
theorem Px {cells:Array Value} {off:Nat} {v:Value}:(v.cells.zipIdx.foldl (fun cs (p:Value × Nat)=>cs.setIfInBounds (off+p.2) p.1) cells).size=cells.size:=by
 have:=Pv off v.cells.toList 0 cells
 rw[←DO]
 simpa[Array.toList_zipIdx] using this
inductive xi (P:Program) (w:World) (I:Nat→Prop) (β:Nat→Option Nat) (hp:Nat→Option an):List (Nat × Value)→List (Nat × V)→Prop
 | nil:xi P w I β hp [] []
 | cons {i:Nat} {v:Value} {x:V} {vs:List (Nat × Value)} {xs:List (Nat × V)}:v.cells.size=x.cells.length→(∀(j:Nat) u y,v.cells[j]? =some u→x.cells[j]? =some y→ao P w I β hp u y)→
   xi P w I β hp vs xs→xi P w I β hp ((i,v)::vs) ((i,x)::xs)
theorem Py (place:Nat→Option (Nat × Nat)): ∀{vs:List (Nat × Value)} {px:List (Nat × V)} {cells:Array Value} {xs ys:List V},xi P w I β hp vs px→cells.size=xs.length→
  (∀(j:Nat) v x,cells[j]? =some v→xs[j]? =some x→ao P w I β hp v x)→ud place xs px=some ys→
  ∃pX:Array Value,Instr.fill place cells vs=some pX∧pX.size=ys.length∧∀(j:Nat) v x,pX[j]? =some v→ys[j]? =some x→ao P w I β hp v x
 | _,_,cells,xs,ys,.nil,hs,hx,h=>by
  simp only[ud,eh] at h
  subst h
  exact ⟨cells,by simp[Instr.fill],hs,hx⟩
 | _,_,cells,xs,ys,@xi.cons _ _ _ _ _ i v x vs px h1 U h3,hs,hx,h=>by
  simp only[ud] at h
  cases bS:place i with
  | none=>rw[bS] at h;cases h
  | some os=>
   obtain ⟨off,size⟩:=os
   rw[bS] at h
   simp only at h
   cases hc:(Nat.beq x.cells.length size&&Nat.ble (off+size) xs.length) with
   | false=>rw[hc] at h;cases h
   | true=>
    rw[hc] at h
    simp only[cond_true] at h
    simp only[aP,a9,dh] at hc
    have hv:off+v.cells.size≤cells.size:=by omega
    have hb:off+x.cells.length≤xs.length:=by omega
    have hl:(fV xs off x.cells).length=xs.length:=AB _ _ _ hb
    obtain ⟨pX,f1,f2,f3⟩:=Py place (cells:=v.cells.zipIdx.foldl (fun cs (p:Value × Nat)=>cs.setIfInBounds (off+p.2) p.1) cells) (xs:=fV xs off x.cells) h3 (by rw[Px,hl,hs])
     (fun j u y hu hy=>by
      rw[Pw hv] at hu
      unfold fV at hy
      rw[nF _ _ _ _ hb] at hy
      by_cases j1:j<off
      ·rw[aj j1] at hu hy;exact hx j u y hu hy
      ·rw[ai j1] at hu hy
       by_cases j2:j<off+x.cells.length
       ·rw[aj (by omega)] at hu
        rw[aj j2] at hy
        exact U (j-off) u y hu hy
       ·rw[ai (by omega)] at hu
        rw[ai j2] at hy
        exact hx j u y hu hy) h
    refine ⟨pX,?_,f2,f3⟩
    simp only[Instr.fill,bS]
    rw[ai (by simp;omega)]
    exact f1
theorem Zz {t:TypeId} {parts:Array (Nat × Value)} {cells:Array Value} {z:Value} {i:TypeInfo} (hi:P.info? t=some i) (hz:i.zero=some z) (h:Instr.fill (placeOf P t) z.cells parts.toList=some cells) (ha:bP P t=true)
  (bS: ∀fs,P.underlying t=some (.struct fs)→(fs.toList.mapM fun f=>(P.info? f.type).map fun i=>(f.offset,i.size)).isSome=true) (ri: ∀n e,P.underlying t=some (.array n e)→(P.info? e).isSome=true):
  (Instr.build t parts).run P w= .ok (.agg cells) w:=by
 refine run_build w t parts cells ?_
 unfold Program.built
 unfold bP at ha
 rw[hi]
 split at ha
 ·rename_i fs hu
  have:=bS fs hu
  cases hm:fs.toList.mapM fun f=>(P.info? f.type).map fun i=>(f.offset,i.size) with
  | none=>rw[hm] at this;cases this
  | some IV=>
   simp only[hu,hz,hm]
   have hq:placeOf P t=fun i=>IV[i]? :=by simp[placeOf,hu,hm]
   rw[hq] at h
   simpa using h
 ·rename_i n e hu
  have:=ri n e hu
  cases jT:P.info? e with
  | none=>rw[jT] at this;cases this
  | some ie=>
   simp only[hu,hz,jT]
   have hq:placeOf P t=fun i=>some (i*ie.size,ie.size):=by simp[placeOf,hu,jT]
   rw[hq] at h
   exact h
 ·cases ha
theorem Pz {α:Type}: ∀(xs ys:List V) (k:Rd α),lQ (xs++ys) k=lQ xs (lQ ys k)
 | [],_,_=>rfl
 | x::xs,ys,k=>by simp only[List.cons_append,lQ,Pz xs ys k]
theorem PA {a:Act} {sl:Nat→V} (hs:lj P w I β hp a sl) {G:Nat→V} (hg:gE P G w I) (t:TypeId) {α:Type}: ∀{l:List (Nat × Operand)} {k:Rd α} {r:α} {rd:List Nat},
  (lQ ((l.map fun p=>(aT P G t sl p.2).cells).flatten) k).run C hp=some (r,rd)→
  xi P w I β hp (l.map fun p=>(p.1,a.eval p.2)) (l.map fun p=>(p.1,aT P G t sl p.2))∧∃e9,k.run C hp=some (r,e9)
 | [],k,r,rd,h=>⟨.nil,rd,h⟩
 | (i,x)::l,k,r,rd,h=>by
  simp only[cJ,List.flatten_cons,Pz] at h
  obtain ⟨e1,e2⟩:=Jm (hs.ev hg t x) h
  obtain ⟨_,l1,h⟩:=EG h (vs:=(a.eval x).cells.toList) (by simpa using e1) (fun j u y a b=>e2 j u y (by simpa using a) b)
  obtain ⟨h1,U⟩:=PA hs hg t h
  exact ⟨.cons e1 e2 h1,U⟩
theorem ZA (S:aF P w I β hp B M w0) {a:Act} {sl:Nat→V} (hs:lj P w I β hp a sl) {G:Nat→V} (hg:gE P G w I) {t ty:TypeId} {ps:Array (Nat × Operand)} {r:R} {rd:List Nat}
  (h:(Rd.aC (c7 P t&&(bP P t&&Ec P t)) (lQ ((ps.toList.map fun p=>(aT P G ty sl p.2).cells).flatten)
   (wK (ud (placeOf P t) (zeroCells P t) (ps.toList.map fun p=>(p.1,aT P G ty sl p.2))) fun cs=> .ret ⟨.agg cs,[]⟩))).run C hp=some (r,rd)):
  di P ((Instr.build t (ps.map fun (i,x)=>(i,a.eval x))).run P w) w I β hp B M w0 r:=by
 obtain ⟨au,h⟩:=aH h
 simp only[aP] at au
 obtain ⟨h1,l,h⟩:=PA hs hg ty h
 cases hf:ud (placeOf P t) (zeroCells P t) (ps.toList.map fun p=>(p.1,aT P G ty sl p.2)) with
 | none=>rw[hf] at h;cases h
 | some cs=>
  rw[hf] at h
  obtain rfl:=aR h
  obtain ⟨i,z,hi,hz,h3,h4,h5⟩:=Pt (w:=w) (I:=I) (β:=β) (hp:=hp) au.1
  obtain ⟨cells,f1,f2,f3⟩:=Py (placeOf P t) h1 h3 h5 hf
  have PB:=au.2.2
  refine .same S (v:= .agg cells) (Zz hi hz (by simpa using f1) au.2.1 (fun fs hu=> ?_) (fun n e hu=> ?_)) (.agg f2 f3)
  ·simpa[Ec,hu] using PB
  ·simpa[Ec,hu] using PB
theorem ZB (cU: ∀id blk,hp id=some blk→ei P w I β hp (β id) blk) {x:V} {v:Value} {ys:List V} {fr:List (Nat × an)} {rd:List Nat} {ts:List TypeId} (hv:ao P w I β hp v x)
  (h:(sw P x.cells).run C hp=some ((ys,fr),rd)) (ht:qE P ts ys=true):
  v.cells.size=x.cells.length∧∀(j:Nat) u y,v.cells.toList[j]? =some u→x.cells[j]? =some y→ao P w I β hp u y:=by
 cases x with
 | agg xs=>
  obtain ⟨cs,rfl,h1,U⟩:=hv.ll
  exact ⟨h1,fun j u y a b=>U j u y (by simpa[Value.cells] using a) b⟩
 | _=>
  simp only[V.cells] at h⊢
  simp only[sw] at h
  obtain ⟨⟨y1,u1⟩,l3,l4,hq,h⟩:=lk h
  obtain ⟨q1,q2⟩:=Et cU hq hv
  obtain ⟨⟨y2,u2⟩,l5,l6,AK,h⟩:=lk h
  cases AK
  have:=aR h
  cases this
  obtain ⟨tl,tg⟩:=uB ht
  have fO:=tg 0 _ y1 (bG (by rw[tl];exact Nat.one_pos)) rfl
  have bS:=q2 (iZ P w I β hp u1) (fun _ h=> .inl h) (fun p hp b h=> .inr ⟨p,hp,h⟩)
  have ho:=bS.pure fO
  have JB:v.cells= #[v]:=by cases ho<;>rfl
  rw[JB]
  refine ⟨rfl,fun j u y hu hy=> ?_⟩
  cases j with
  | zero=>simp at hu hy;subst hu;subst hy;exact hv
  | succ j=>simp at hy
def xj (P:Program) (w:World) (I:Nat→Prop) (e:TypeId) (cells:Array Value) (es:List V):Prop:=
 cells.size=es.length*P.cellsOf e∧∀(i j:Nat) (x:V) (t':TypeId),es[i]? =some x→(bc P e)[j]? =some t'→j<P.cellsOf e→∃v,cells[i*P.cellsOf e+j]? =some v∧Pure P w I t' v (bU P e x j)
theorem xj.set {e:TypeId} {cells:Array Value} {es ys:List V} {i:Nat} {v:Value} (h:xj P w I e cells es) (hi:i<es.length) (hv:v.cells.size=P.cellsOf e) (hy:ys.length=P.cellsOf e)
  (hr: ∀(j:Nat) (t':TypeId) (u:Value) (y:V),(bc P e)[j]? =some t'→v.cells[j]? =some u→ys[j]? =some y→Pure P w I t' u y):
  xj P w I e (v.cells.zipIdx.foldl (fun cs (p:Value × Nat)=>cs.setIfInBounds (i*P.cellsOf e+p.2) p.1) cells) (es.set i (cK P e ys)):=by
 obtain ⟨h1,U⟩:=h
 have hb:i*P.cellsOf e+v.cells.size≤cells.size:=by
  have:(i+1)*P.cellsOf e≤es.length*P.cellsOf e:=dL _ hi
  rw[dF] at this
  omega
 refine ⟨by rw[Px,oA,h1],fun i' j x t' hx ht hj=> ?_⟩
 rw[Pw hb]
 rw[List.getElem?_set] at hx
 by_cases jd:i=i'
 ·subst jd
  rw[aj rfl,aj hi] at hx
  cases hx
  rw[ai (by omega),aj (by omega),show i*P.cellsOf e+j-i*P.cellsOf e=j by omega]
  have h3:j<v.cells.size:=by omega
  have h4:j<ys.length:=by omega
  refine ⟨v.cells[j],k9 h3,?_⟩
  rw[qZ (bG h4) ht]
  exact hr j t' _ _ ht (k9 h3) (bG h4)
 ·rw[ai jd] at hx
  have bH:i'*P.cellsOf e+j<i*P.cellsOf e∨i*P.cellsOf e+v.cells.size≤i'*P.cellsOf e+j:=by
   rcases pB i' i with aO|pW
   ·left
    have:(i'+1)*P.cellsOf e≤i*P.cellsOf e:=dL _ aO
    rw[dF] at this
    omega
   ·right
    have:(i+1)*P.cellsOf e≤i'*P.cellsOf e:=dL _ (by omega)
    rw[dF] at this
    omega
  rcases bH with bH|bH
  ·rw[aj bH];exact U i' j x t' hx ht hj
  ·rw[ai (by omega),ai (by omega)];exact U i' j x t' hx ht hj
theorem ZC {t':TypeId} {v:Value} (fO:e6 P t' (wD (pH P t' v))=true):Pure P w I t' v (wD (pH P t' v)):=by
 have hc:=ao.const (P:=P) (w:=w) (I:=I) (β:=fun _=>none) (hp:=fun _=>none) t' v
 cases uG:pH P t' v<;>rw[uG] at fO hc<;>simp only[wD] at fO⊢
 case int k n=>rw[hc.dZ];exact Plain.pure (v:= .int k n) (y:= .int k n) rfl fO
 case bool b=>rw[hc.kG];exact Plain.pure (v:= .bool b) (y:= .bool b) rfl fO
 case str l=>obtain ⟨s,e1,e2⟩:=hc.mH;rw[e1];exact Plain.pure (v:= .string s) (y:= .str l) ⟨s,rfl,e2⟩ fO
 case nilS e'=>
  cases hc
  exact Plain.pure (y:= .list e' []) (iW.any fun _=>rfl) fO
 case list e' es=>
  cases hc with
  | list hp=>exact Plain.pure (y:= .list e' es) hp fO
 all_goals (unfold e6 at fO;split at fO<;>simp_all)
theorem AL {e:TypeId} (h:mA P e=true): ∃i z,P.info? e=some i∧i.zero=some z∧i.size=P.cellsOf e∧z.cells.size=P.cellsOf e∧
  ∀(j:Nat) (t':TypeId),(bc P e)[j]? =some t'→j<P.cellsOf e→∃v,z.cells[j]? =some v∧Pure P w I t' v (bU P e (cK P e (eO P e)) j):=by
 unfold mA at h
 simp only[aP] at h
 obtain ⟨i,z,h1,U,h3,h4,h5⟩:=kJ h.1
 refine ⟨i,z,h1,U,h3,h4,fun j t' ht hj=> ?_⟩
 obtain ⟨tl,tg⟩:=uB h.2
 have cz:j<(eO P e).length:=by rw[←tl,(kF h.1).1];exact hj
 have hz:=bG cz
 have fO:=tg j t' _ (by rw[←sM];exact ht) hz
 refine ⟨z.cells[j],k9 (by omega),?_⟩
 rw[qZ hz ht]
 have uH:(eO P e)[j]=wD (pH P t' z.cells[j]):=by
  have:(eO P e)[j]? =((zeroCells P e)[j]?).map wD:=by simp[eO]
  rw[hz] at this
  cases hc:(zeroCells P e)[j]? with
  | none=>rw[hc] at this;cases this
  | some y=>
   rw[hc] at this
   simp only[Option.map_some,eh] at this
   rw[h5] at hc
   obtain ⟨t2,v2,a1,a2,rfl⟩:=JC hc
   have ZD:t2=t':=by
    rw[←sM,ht] at a1;exact (dv a1).symm
   have qS:v2=z.cells[j]:=by
    have ZE:j<z.cells.size:=by omega
    have:z.cells.toList[j]? =some z.cells[j]:=by simp[ZE]
    rw[this] at a2;exact (dv a2).symm
   rw[this,ZD,qS]
 rw[uH] at fO⊢
 exact ZC fO
end
section
variable {P:Program} {w w':World} {I I':Nat→Prop} {β β':Nat→Option Nat} {hp hp':Nat→Option an} {C:ae} {B:Nat} {M:Nat→Prop} {w0:Start}
theorem xk (S:aF P w I β hp B M w0) {nb cap:Nat} {e:TypeId} {es:List V} {C0:Array Value} (au:c7 P e=true) (hn:hp nb=none) (hs:C0.size=cap*P.cellsOf e) (hl:es.length≤cap) (hm:cap≤maxLen)
  (hx: ∀(i j:Nat) (x:V) (t':TypeId),es[i]? =some x→(bc P e)[j]? =some t'→j<P.cellsOf e→∃v,C0[i*P.cellsOf e+j]? =some v∧Pure P w I t' v (bU P e x j)):
  Le P w I β hp (w.alloc (.cells C0 e)) I (aK β nb (some w.heap.size)) (aK hp nb (some (.arr e es false)))∧aF P (w.alloc (.cells C0 e)) I (aK β nb (some w.heap.size)) (aK hp nb (some (.arr e es false))) B M w0∧
  ao P (w.alloc (.cells C0 e)) I (aK β nb (some w.heap.size)) (aK hp nb (some (.arr e es false))) (.slice (some ⟨w.heap.size,0,none⟩) es.length cap) (.whole e nb):=by
 obtain ⟨h1,U⟩:=Jh S (blk:= .arr e es false) (c:=C0) (T:=e) hn (fun b' h=>(dv (h.flat (by simp))).symm) (fun hle e8 c6=> .arr au rfl e8 (by rw[hs];exact dL _ hl) (fun h=>by cases h) (fun _=>c6) fun i j x t' a b c=>by
  obtain ⟨v,hv,hp⟩:=hx i j x t' a b c
  exact ⟨v,hv,hp.mono hle.dC hle.cy⟩)
 refine ⟨h1,U,.whole (da _ _ _) (da _ _ _) ?_ hl hm⟩
 rw[nB (heap_alloc_new w (.cells C0 e)),hs]
theorem At.only {b b':Nat} {e e':TypeId} {es aL:List V} {q:Path} (hz: ∀(i j:Nat) x t' e1 l,es[i]? =some x→(bc P e)[j]? =some t'→bU P e x j= .list e1 l→l=[])
  (h:At P w b e es q b' e' aL):q=[]∧b'=b∧e'=e∧aL=es:=by
 cases h with
 | here=>exact ⟨rfl,rfl,rfl,rfl⟩
 | step h1 U h3 h4 h5 h6=>have:=hz _ _ _ _ _ _ U h3 h5;subst this;simp at h6
theorem mG.qP {t:TypeId} {v:Value} {x:V} (h:Pure P w I t v x) (hz: ∀e1 l,x= .list e1 l→l=[]):mG P w I t v x:=by
 cases h with
 | int h=>exact .fZ (by unfold fW;rw[h]) (.int h)
 | bool h=>exact .fZ (by unfold fW;rw[h]) (.bool h)
 | str h hl=>exact .fZ (by unfold fW;rw[h]) (.str h hl)
 | nil h=>exact .emp h fun _=>rfl
 | emp h=>exact .emp h fun h=>by cases h
 | list g hu hl _ _ _ _=>
  have:=hz _ _ rfl
  subst this
  simp at hl
  subst hl
  exact .emp hu fun h=>by cases h
theorem ZF (S:aF P w I β hp B M w0) {nb cap:Nat} {e:TypeId} {es:List V} {C0:Array Value} (au:c7 P e=true) (hn:hp nb=none) (hs:C0.size=cap*P.cellsOf e) (hl:es.length≤cap) (hm:cap≤maxLen)
  (hx: ∀(i j:Nat) (x:V) (t':TypeId),es[i]? =some x→(bc P e)[j]? =some t'→j<P.cellsOf e→∃v,C0[i*P.cellsOf e+j]? =some v∧Pure P w I t' v (bU P e x j))
  (hz: ∀(i j:Nat) x t' e1 l,es[i]? =some x→(bc P e)[j]? =some t'→bU P e x j= .list e1 l→l=[]):
  Le P w I β hp (w.alloc (.cells C0 e)) I (aK β nb (some w.heap.size)) (aK hp nb (some (.nest e es [0,0,0])))∧aF P (w.alloc (.cells C0 e)) I (aK β nb (some w.heap.size)) (aK hp nb (some (.nest e es [0,0,0]))) B M w0∧
  ao P (w.alloc (.cells C0 e)) I (aK β nb (some w.heap.size)) (aK hp nb (some (.nest e es [0,0,0]))) (.slice (some ⟨w.heap.size,0,none⟩) es.length cap) (.whole e nb):=by
 obtain ⟨h1,U⟩:=Jh S (blk:= .nest e es [0,0,0]) (c:=C0) (T:=e) hn (fun b' h=>by
   cases h with
   | root _ h=>exact (dv h).symm
   | row h ha=>cases h;exact (At.only hz ha).2.1)
  (fun hle e8 c6=> .nest rfl (fun q b' e' aL ha=>by
   obtain ⟨rfl,rfl,rfl,rfl⟩:=At.only hz ha
   refine ⟨au,⟨C0,e8,by rw[hs];exact dL _ hl,fun i j x t' a b c=> ?_⟩,c6⟩
   obtain ⟨v,hv,hp⟩:=hx i j x t' a b c
   exact ⟨v,hv,.qP (hp.mono hle.dC hle.cy) fun e1 l h=>hz i j x t' e1 l a b h⟩)
   fun q1 q2 b' e1 cC e2 cm a1 a2=>(At.only hz a1).1.trans (At.only hz a2).1.symm)
 refine ⟨h1,U,.eG (da _ _ _) (da _ _ _) ?_ hl hm⟩
 rw[nB (heap_alloc_new w (.cells C0 e)),hs]
theorem PC (cU: ∀id blk,hp id=some blk→ei P w I β hp (β id) blk) {a:Act} {sl:Nat→V} (hs:lj P w I β hp a sl) {G:Nat→V} (hg:gE P G w I) {e:TypeId} {len:Nat}: ∀{l:List (Nat × Operand)} {ps:List (Nat × V)} {upd:List (Nat × an)} {rd:List Nat},
  (z7 P e len (l.map fun p=>(p.1,aT P G e sl p.2))).run C hp=some ((ps,upd),rd)→c7 P e=true→(∀p∈upd,Aq hp p)∧∀I':Nat→Prop,(∀b,I b→I' b)→(∀p∈upd,∀b,sL P w β hp p.1 b→I' b)→
   ∀(cells:Array Value) (es:List V),es.length=len→xj P w I' e cells es→∃pX,Instr.fill (fun i=>some (i*P.cellsOf e,P.cellsOf e)) cells (l.map fun p=>(p.1,a.eval p.2))=some pX∧xj P w I' e pX (z6 es ps)∧(z6 es ps).length=len
 | [],ps,upd,rd,h,_=>by
  cases h
  exact ⟨by simp,fun I' _ _ cells es hl he=>⟨cells,by simp[Instr.fill],he,hl⟩⟩
 | (i,x)::l,ps,upd,rd,h,au=>by
  simp only[cJ,z7] at h
  obtain ⟨⟨ys,u1⟩,l1,l2,h1,h⟩:=lk h
  obtain ⟨hc,h⟩:=aH h
  obtain ⟨⟨ps',u2⟩,l3,l4,U,h⟩:=lk h
  have:=aR h
  cases this
  simp only[aP,ko] at hc
  obtain ⟨hi,fO⟩:=hc
  obtain ⟨tl,tg⟩:=uB fO
  have w9:=hs.ev hg e x
  obtain ⟨v1,v2⟩:=ZB cU w9 h1 fO
  obtain ⟨k1,k2,k3⟩:=Jf cU h1 (vs:=(a.eval x).cells.toList) (by simpa using v1) v2
  obtain ⟨m1,m2⟩:=PC cU hs hg U au
  refine ⟨fun p hp=> ?_,fun I' i1 i2 cells es hl he=> ?_⟩
  ·rcases eN.1 hp with h|h
   ·exact k2 p h
   ·exact m1 p h
  ·have bS:=k3 I' i1 (fun p hp=>i2 p (eN.2 (.inl hp)))
   have bh:=(kF au).1
   have uE:ys.length=P.cellsOf e:=by rw[←tl,bh]
   have Pf:(a.eval x).cells.size=P.cellsOf e:=by rw[v1,←k1,uE]
   have hY:=he.set (i:=i) (ys:=ys) (by omega) Pf uE (fun j t' u y ht hu hy=>by
    exact (bS j u y (by simpa using hu) hy).pure (tg j t' y (by rw[←sM];exact ht) hy))
   obtain ⟨pX,f1,f2,f3⟩:=m2 I' i1 (fun p hp=>i2 p (eN.2 (.inr hp))) _ (es.set i (cK P e ys)) (by simpa using hl) hY
   refine ⟨pX,?_,f2,f3⟩
   have hb:i*P.cellsOf e+P.cellsOf e≤cells.size:=by
    rw[he.1,hl]
    have:(i+1)*P.cellsOf e≤len*P.cellsOf e:=dL _ hi
    rw[dF] at this
    omega
   simp only[cJ,Instr.fill]
   rw[ai (by simp;omega)]
   exact f1
theorem PD {z:Array Value} {n k:Nat} (hk:k<n) (hz:0<z.size):((Array.range n).map (z[· %z.size]!))[k]? =z[k %z.size]? :=by
 have hm:k %z.size<z.size:=Nat.mod_lt _ hz
 simp[hk,hm]
theorem ES {e:TypeId} (h:mA P e=true) {i:TypeInfo} {z:Value} (hi:P.info? e=some i) (hz:i.zero=some z) (n m:Nat) (lO:n≤m):
  ∀(k j:Nat) (x:V) (t':TypeId),(List.replicate n (cK P e (eO P e)))[k]? =some x→(bc P e)[j]? =some t'→j<P.cellsOf e→
   ∃v,((Array.range (m*P.cellsOf e)).map (z.cells[· %z.cells.size]!))[k*P.cellsOf e+j]? =some v∧Pure P w I t' v (bU P e x j):=by
 intro k j x t' hx ht hj
 obtain ⟨i2,z2,h1,U,h3,h4,h5⟩:=AL (w:=w) (I:=I) h
 rw[hi] at h1;cases h1
 rw[hz] at U;cases U
 rw[List.getElem?_replicate] at hx
 split at hx
 ·rename_i hk
  cases hx
  obtain ⟨v,hv,hp⟩:=h5 j t' ht hj
  refine ⟨v,?_,hp⟩
  have hb:k*P.cellsOf e+j<m*P.cellsOf e:=by
   have:(k+1)*P.cellsOf e≤m*P.cellsOf e:=dL _ (by omega)
   rw[dF] at this
   omega
  rw[PD hb (by omega),h4,show (k*P.cellsOf e+j) %P.cellsOf e=j by rw[oB,Nat.mul_add_mod];exact Nat.mod_eq_of_lt hj]
  exact hv
 ·cases hx
theorem ZG {P:Program} (w:World) (t e:TypeId) (len:Nat) (parts:Array (Nat × Value)) (cells:Array Value) (ie:TypeInfo) (z:Value)
  (hu:P.underlying t=some (.slice e)) (jT:P.info? e=some ie) (hz:ie.zero=some z) (ZH: ¬len*ie.size>2^24)
  (h:Instr.fill (fun i=>some (i*ie.size,ie.size)) ((Array.range (len*ie.size)).map (z.cells[· %z.cells.size]!)) parts.toList=some cells):
  (Instr.buildSlice t len parts).run P w= .ok (.slice (some ⟨w.heap.size,0,none⟩) len len) (w.alloc (.cells cells e)):=by
 by_cases lO:len*ie.size=0
 ·have h0: ∀g:Nat→Value,(Array.range (len*ie.size)).map g= #[]:=by intro g;exact Array.eq_empty_of_size_eq_zero (by simp[lO])
  have hp: ∀(u:Array Value),(Pure.pure u:Sem (Array Value)).run P w= .ok u w:=fun _=>rfl
  rw[h0] at h
  simp only[Instr.buildSlice,Sem.run_bind,run_underlying hu,Result.andThen_ok,sizeOf,typeInfo,jT]
  have h1:(Array.range (len*ie.size)).map (fun _:Nat=>(default:Value))= #[]:=h0 _
  have hs: ¬16777216<len*ie.size:=by omega
  simp[jT,hs,lO]
  simp only[lO] at h1
  simp[h1,h,newRow]
 ·exact run_buildSlice w t e len parts cells ie z hu jT hz ZH lO h
theorem ZI (S:aF P w I β hp B M w0) {a:Act} {sl:Nat→V} (hs:lj P w I β hp a sl) {G:Nat→V} (hg:gE P G w I) {t e:TypeId} {len nb:Nat} {ps:Array (Nat × Operand)} {r:R} {rd:List Nat} (hu:P.underlying t=some (.slice e))
  (h:(Rd.aC (mA P e&&Nat.ble (len*P.cellsOf e) (2^24)) ((z7 P e len (ps.toList.map fun p=>(p.1,aT P G e sl p.2))).bind fun r=>
    jv nb (.arr e (z6 (List.replicate len (cK P e (eO P e))) r.1) false) (.whole e nb) r.2)).run C hp=some (r,rd)):
  di P ((Instr.buildSlice t len (ps.map fun (i,x)=>(i,a.eval x))).run P w) w I β hp B M w0 r:=by
 obtain ⟨hc,h⟩:=aH h
 simp only[aP,dh] at hc
 obtain ⟨c8,sH⟩:=hc
 have au:c7 P e=true:=by
  unfold mA at c8;simp only[aP] at c8;exact c8.1
 obtain ⟨⟨pv,upd⟩,l1,l2,h1,h⟩:=lk h
 obtain ⟨hn,rfl⟩:=nG h
 obtain ⟨m1,m2⟩:=PC S.h.rel hs hg h1 au
 obtain ⟨rb,S1⟩:=Av S m1
 obtain ⟨i,z,hi,hz,h3,h4,_⟩:=AL (w:=w) (I:=I) c8
 have gI:=(kF au).2
 have h0:xj P w (iZ P w I β hp upd) e ((Array.range (len*P.cellsOf e)).map (z.cells[· %z.cells.size]!)) (List.replicate len (cK P e (eO P e))):=
  ⟨by simp,ES c8 hi hz len len (cg _)⟩
 obtain ⟨cells,f1,f2,f3⟩:=m2 (iZ P w I β hp upd) (fun _ h=> .inl h) (fun p hp b h=> .inr ⟨p,hp,h⟩) _ _ (by simp) h0
 have kK:bR hp upd nb=none:=by
  rcases uv (hp:=hp) (l:=upd) (id:=nb) with h|⟨b',hm,_⟩
  ·exact h.trans hn
  ·obtain ⟨e1,cC,_,h5⟩:=m1 _ hm
   simp only[hn] at h5
   rcases h5 with ⟨_,h5⟩|⟨_,h5⟩<;>cases h5
 have oN:len≤maxLen:=by
  have:len*1≤len*P.cellsOf e:=tU _ gI
  simp only[maxLen]
  omega
 obtain ⟨n1,n2,n3⟩:=xk S1 (cap:=len) au kK (by rw[f2.1,f3]) (by rw[f3];exact cg _) oN f2.2
 have db:=ZG w t e len (ps.map fun (i,x)=>(i,a.eval x)) cells i z hu hi hz (by rw[h3];omega) (by rw[h3];simpa using f1)
 refine ⟨_,_,_,_,db,rb.trans n1,n2,?_⟩
 rw[f3] at n3
 exact n3
theorem PE (S:aF P w I β hp B M w0) {t e:TypeId} {nb:Nat} {kl kc:IntKind} {n m:Int} {r:R} {rd:List Nat} (hu:P.underlying t=some (.slice e))
  (h:(Rd.aC (mA P e&&(decide (0≤n)&&(decide (n≤m)&&Nat.ble (m.toNat*P.bytesOf e) b6)))
    (jv nb (.arr e (List.replicate n.toNat (cK P e (eO P e))) false) (.whole e nb) [])).run C hp=some (r,rd)):
  di P ((Instr.makeSlice t (.int kl n) (.int kc m)).run P w) w I β hp B M w0 r:=by
 obtain ⟨hc,h⟩:=aH h
 simp only[aP,dh,eg] at hc
 obtain ⟨c8,h0,lO,eb⟩:=hc
 have au:c7 P e=true:=by
  unfold mA at c8;simp only[aP] at c8;exact c8.1
 obtain ⟨hn,rfl⟩:=nG h
 obtain ⟨i,z,hi,hz,h3,h4,_⟩:=AL (w:=w) (I:=I) c8
 have mK:P.bytesOf e=i.bytes:=by simp[Program.bytesOf,hi]
 have JD:m≤9223372036854775807:=by
  have h1:m.toNat*1≤m.toNat*P.bytesOf e:=tU _ (wW au)
  simp only[b6] at eb
  omega
 have db:=run_make (P:=P) w t e i z hu hi hz kl kc n m h0 lO (by
  rw[mK] at eb
  simp only[b6] at eb
  have:(i.bytes:Int)*m=((m.toNat*i.bytes:Nat):Int):=by
   rw[Int.natCast_mul,Int.toNat_of_nonneg (by omega),Int.mul_comm]
  rw[this]
  omega) JD
 have hlen:(List.replicate n.toNat (cK P e (eO P e))).length=n.toNat:=by simp
 obtain ⟨n1,n2,n3⟩:=xk S (cap:=m.toNat) (es:=List.replicate n.toNat (cK P e (eO P e))) (C0:=madeCells z.cells (m.toNat*i.size)) au hn (by rw[size_madeCells,h3]) (by rw[hlen];omega) (by simp only[maxLen];omega)
  (by rw[h3];exact ES c8 hi hz n.toNat m.toNat (by omega))
 refine ⟨_,_,_,_,db,n1,n2,?_⟩
 rw[hlen] at n3
 exact n3
theorem JE: ∀{l:List V} {j:Nat} {e1:TypeId} {k:List V},Ag l=true→V.nth l j= .list e1 k→k=[]
 | [],j,e1,k,_,h=>by cases j<;>cases h
 | x::l,0,e1,k,hn,h=>by
  simp only[V.nth] at h
  subst h
  cases k with
  | nil=>rfl
  | cons _ _=>cases hn
 | x::l,j+1,e1,k,hn,h=>by
  refine JE (l:=l) (j:=j) ?_ h
  cases x with
  | list e2 k2=>
   cases k2 with
   | nil=>exact hn
   | cons _ _=>cases hn
  | _=>exact hn
theorem ZJ {e:TypeId} {n:Nat} (au:c7 P e=true) (h:Ag (eO P e)=true):
  ∀(i j:Nat) x t' e1 l,(List.replicate n (cK P e (eO P e)))[i]? =some x→(bc P e)[j]? =some t'→bU P e x j= .list e1 l→l=[]:=by
 intro i j x t' e1 l hx ht hl
 have:=List.eq_of_mem_replicate (jJ hx)
 subst this
 unfold bU cK at hl
 cases ha:bP P e with
 | true=>rw[ha] at hl;exact JE h hl
 | false=>rw[ha] at hl;exact JE h hl
theorem ZK (S:aF P w I β hp B M w0) {t e:TypeId} {nb:Nat} {kl kc:IntKind} {n m:Int} {r:R} {rd:List Nat} (hu:P.underlying t=some (.slice e))
  (h:(Rd.aC (mA P e&&(decide (0≤n)&&(decide (n≤m)&&Nat.ble (m.toNat*P.bytesOf e) b6)))
    (Rd.aC (Ag (eO P e)) (jv nb (.nest e (List.replicate n.toNat (cK P e (eO P e))) [0,0,0]) (.whole e nb) []))).run C hp=some (r,rd)):
  di P ((Instr.makeSlice t (.int kl n) (.int kc m)).run P w) w I β hp B M w0 r:=by
 obtain ⟨hc,h⟩:=aH h
 simp only[aP,dh,eg] at hc
 obtain ⟨c8,h0,lO,eb⟩:=hc
 have au:c7 P e=true:=by
  unfold mA at c8;simp only[aP] at c8;exact c8.1
 obtain ⟨ZL,h⟩:=aH h
 obtain ⟨hn,rfl⟩:=nG h
 obtain ⟨i,z,hi,hz,h3,h4,_⟩:=AL (w:=w) (I:=I) c8
 have mK:P.bytesOf e=i.bytes:=by simp[Program.bytesOf,hi]
 have JD:m≤9223372036854775807:=by
  have h1:m.toNat*1≤m.toNat*P.bytesOf e:=tU _ (wW au)
  simp only[b6] at eb
  omega
 have db:=run_make (P:=P) w t e i z hu hi hz kl kc n m h0 lO (by
  rw[mK] at eb
  simp only[b6] at eb
  have:(i.bytes:Int)*m=((m.toNat*i.bytes:Nat):Int):=by
   rw[Int.natCast_mul,Int.toNat_of_nonneg (by omega),Int.mul_comm]
  rw[this]
  omega) JD
 have hlen:(List.replicate n.toNat (cK P e (eO P e))).length=n.toNat:=by simp
 obtain ⟨n1,n2,n3⟩:=ZF S (cap:=m.toNat) (es:=List.replicate n.toNat (cK P e (eO P e))) (C0:=madeCells z.cells (m.toNat*i.size)) au hn (by rw[size_madeCells,h3]) (by rw[hlen];omega) (by simp only[maxLen];omega)
  (by rw[h3];exact ES c8 hi hz n.toNat m.toNat (by omega))
  (ZJ au ZL)
 refine ⟨_,_,_,_,db,n1,n2,?_⟩
 rw[hlen] at n3
 exact n3
theorem Pure.one {t:TypeId} {v:Value} {x:V} (h:Pure P w I t v x):v.oneCell'=true:=by cases h<;>rfl
structure Row (P:Program) (w:World) (I:Nat→Prop) (e:TypeId) (v:Value) (xs:List V) (a:Addr) (c:Nat) (news:List Value):Prop where
 val:v= .slice (some a) xs.length c
 len:news.length=xs.length*P.cellsOf e
 cell: ∀(j:Nat) u,news[j]? =some u→w.cell? (a.add j)=some u
 el: ∀(i j:Nat) (x:V) (t':TypeId),xs[i]? =some x→(bc P e)[j]? =some t'→j<P.cellsOf e→∃u,news[i*P.cellsOf e+j]? =some u∧Pure P w I t' u (bU P e x j)
theorem Row.one {e:TypeId} {v:Value} {xs:List V} {a:Addr} {c:Nat} {news:List Value} (h:Row P w I e v xs a c news) (au:c7 P e=true): ∀u∈news,u.oneCell'=true:=by
 intro u hu
 obtain ⟨k,hk⟩:=sj hu
 have fv:=(bD.1 hk).1
 have gI:=(kF au).2
 rw[h.len] at fv
 have hi:k/P.cellsOf e<xs.length:=Nat.div_lt_of_lt_mul (by rw[oB];exact fv)
 have hj:k %P.cellsOf e<P.cellsOf e:=Nat.mod_lt _ gI
 have gM:k %P.cellsOf e<(bc P e).length:=by rw[fN au];exact hj
 obtain ⟨u',gb,hp⟩:=h.el (k/P.cellsOf e) (k %P.cellsOf e) _ _ (bG hi) (bG gM) hj
 rw[Nat.div_add_mod'] at gb
 rw[hk] at gb
 cases gb
 exact hp.one
theorem PF {e:TypeId} {es:List V} {b:Nat} {Ca:Array Value} {off len cap o:Nat} (hh:w.heap[b]? =some (.cells Ca e (0,0))) (hs:es.length*P.cellsOf e≤Ca.size)
  (hx: ∀(i j:Nat) (x:V) (t':TypeId),es[i]? =some x→(bc P e)[j]? =some t'→j<P.cellsOf e→∃v,Ca[i*P.cellsOf e+j]? =some v∧Pure P w I t' v (bU P e x j))
  (lh:off+len≤es.length) (ho:0<len→o=off*P.cellsOf e):
  Row P w I e (.slice (some ⟨b,o,none⟩) len cap) ((es.drop off).take len) ⟨b,o,none⟩ cap ((Ca.toList.drop (off*P.cellsOf e)).take (len*P.cellsOf e)):=by
 have hlen:((es.drop off).take len).length=len:=by simp;omega
 have hb:(off+len)*P.cellsOf e≤Ca.size:=lK (dL _ lh) hs
 rw[dF] at hb
 refine ⟨by rw[hlen],by rw[hlen];simp;omega,fun j u hj=> ?_,fun i j x t' gJ ht hj=> ?_⟩
 ·have cz:=(bD.1 hj).1
  have JF:j<len*P.cellsOf e:=by
   rw[ff] at cz;omega
  have jQ:0<len:=by
   rcases Nat.eq_zero_or_pos len with h|h
   ·rw[h] at JF;simp at JF
   ·exact h
  rw[fe JF,iu] at hj
  rw[nE,cell?_cells hh,ho jQ]
  simpa using hj
 ·have hi:i<len:=by rw[←hlen];exact (bD.1 gJ).1
  rw[fe hi,iu] at gJ
  obtain ⟨u,hu,hp⟩:=hx (off+i) j x t' gJ ht hj
  refine ⟨u,?_,hp⟩
  have:i*P.cellsOf e+j<len*P.cellsOf e:=by
   have:(i+1)*P.cellsOf e≤len*P.cellsOf e:=dL _ hi
   rw[dF] at this
   omega
  rw[fe this,iu]
  rw[dF] at hu
  rw[←oz]
  simpa using hu
theorem ET (cU: ∀id blk,hp id=some blk→ei P w I β hp (β id) blk) {e:TypeId} {v:Value} {x:V} {k:List V→Rd R} {r:R} {rd:List Nat} (au:c7 P e=true) (hv:ao P w I β hp v x)
  (h:(sB e x k).run C hp=some (r,rd)): ∃xs,(((∃a,v= .slice a 0 0)∧xs=[])∨∃a c news,Row P w I e v xs a c news)∧∃l,(k xs).run C hp=some (r,l):=by
 cases hv with
 | list hp'=>
  obtain ⟨hc,U⟩:=aH h
  clear h
  rw[a9] at hc
  subst hc
  cases hp' with
  | nil=>exact ⟨[],.inl ⟨⟨_,rfl⟩,rfl⟩,rd,U⟩
  | @emp a cap=>exact ⟨[],.inr ⟨a,cap,[],⟨rfl,by simp,fun j u hj=>by simp at hj,fun i j x t' hx _ _=>by simp at hx⟩⟩,rd,U⟩
  | @list b o len cap es g hl cp hI gq hx=>
   refine ⟨_,.inr ⟨⟨b,o,none⟩,cap,(List.range (len*P.cellsOf e)).map fun k=>g (k/P.cellsOf e) (k %P.cellsOf e),⟨by rw[hl],by rw[hl];simp,fun j u hj=> ?_,fun i j x t' gJ ht hj=> ?_⟩⟩,rd,U⟩
   ·obtain ⟨cz,iG⟩:=bD.1 hj
    simp at cz iG
    have gI:=(kF au).2
    have hi:j/P.cellsOf e<len:=Nat.div_lt_of_lt_mul (by rw[oB];exact cz)
    have gv:j %P.cellsOf e<P.cellsOf e:=Nat.mod_lt _ gI
    rw[nE,←iG]
    have:=gq (j/P.cellsOf e) (j %P.cellsOf e) hi gv
    rwa [Nat.div_add_mod'] at this
   ·have hi:i<len:=by rw[←hl];exact (bD.1 gJ).1
    have hb:i*P.cellsOf e+j<len*P.cellsOf e:=by
     have:(i+1)*P.cellsOf e≤len*P.cellsOf e:=dL _ hi
     rw[dF] at this
     omega
    refine ⟨g i j,?_,hx i j x t' gJ ht⟩
    have e1:(i*P.cellsOf e+j)/P.cellsOf e=i:=by
     rw[oB,Nat.mul_add_div (kF au).2,Nat.div_eq_of_lt hj,Nat.add_zero]
    have e2:(i*P.cellsOf e+j) %P.cellsOf e=j:=by
     rw[oB,Nat.mul_add_mod];exact Nat.mod_eq_of_lt hj
    simp[hb,e1,e2]
 | nilS=>
  obtain ⟨hc,h⟩:=aH h
  exact ⟨[],.inl ⟨⟨_,rfl⟩,rfl⟩,rd,h⟩
 | dO ab hb=>
  obtain ⟨l,h⟩:=run_get h
  simp only[ab] at h
  obtain ⟨hc,h⟩:=aH h
  exact ⟨[],.inl ⟨⟨_,rfl⟩,rfl⟩,l,h⟩
 | @whole e' id es fz b cap ab hb bh cp hm=>
  obtain ⟨l,h⟩:=run_get h
  simp only[ab] at h
  obtain ⟨hc,U⟩:=aH h
  clear h
  simp only[aP,a9] at hc
  obtain ⟨rfl,_⟩:=hc
  have hr:=cU _ _ ab
  cases hr with
  | dP aB=>rw[aB] at hb;cases hb
  | arr Jl aB hh hs hf ew hx=>
   rw[hb] at aB;cases aB
   have:=PF (cap:=cap) (off:=0) (len:=es.length) (o:=0) hh hs hx (by omega) (fun _=>by simp)
   exact ⟨es,.inr ⟨_,_,_,by simpa using this⟩,l,U⟩
 | ga ab hb=>
  obtain ⟨l,h⟩:=run_get h
  simp only[ab] at h
  obtain ⟨hc,h⟩:=aH h
  exact ⟨[],.inl ⟨⟨_,rfl⟩,rfl⟩,l,by simpa using h⟩
 | @sub e' id off len es fz b o cap ab hb lh cp ho=>
  obtain ⟨l,h⟩:=run_get h
  simp only[ab] at h
  obtain ⟨hc,U⟩:=aH h
  clear h
  simp only[aP,a9] at hc
  obtain ⟨rfl,_⟩:=hc
  have hr:=cU _ _ ab
  cases hr with
  | dP aB=>rw[aB] at hb;cases hb
  | arr Jl aB hh hs hf ew hx=>
   rw[hb] at aB;cases aB
   exact ⟨_,.inr ⟨_,_,_,PF (cap:=cap) hh hs hx lh ho⟩,l,U⟩
 | eu ab=>
  obtain ⟨l,h⟩:=run_get h
  simp only[ab] at h
  cases h
 | gp ab=>
  obtain ⟨l,h⟩:=run_get h
  simp only[ab] at h
  cases h
 | undef=>cases h
 | int=>cases h
 | bool=>cases h
 | str=>cases h
 | agg=>cases h
 | bq=>cases h
 | dB=>cases h
 | fn=>cases h
 | pref=>cases h
 | kD=>cases h
 | ptr=>cases h
 | jN=>cases h
 | jO=>cases h
 | row=>cases h
 | cR=>cases h
 | dJ=>cases h
 | iE=>cases h
 | cG=>cases h
 | eG ab=>
  obtain ⟨l,h⟩:=run_get h
  simp only[ab] at h
  cases h
theorem PH {t ty e:TypeId} {i:TypeInfo} (ht:P.underlying t=some (.slice e)) (hi:P.info? e=some i) (a:Option Addr) (n cap:Nat) (x:Value) (hx: ∃a c,x= .slice a 0 c) (hn:n≤cap):
  (Builtin.append_ #[t,t] ty #[.slice a n cap,x]).run P w= .ok (.slice a n cap) w:=by
 obtain ⟨a',c,rfl⟩:=hx
 cases a' with
 | none=>cases a<;>simp[Builtin.append_,run_underlying ht,sizeOf,typeInfo,hi,Builtin.lenOf,Builtin.firstCells,hn,storeCells]
 | some a'=>cases a<;>simp[Builtin.append_,run_underlying ht,sizeOf,typeInfo,hi,Builtin.lenOf,Builtin.firstCells,hn,storeCells,loadCells,loadCellsFrom]
theorem EU {e:TypeId} {es xs:List V} {n:Nat} {c:List Value} {news:List Value} (hn:es.length=n)
  (h1: ∀(i j:Nat) (x:V) (t':TypeId),es[i]? =some x→(bc P e)[j]? =some t'→j<P.cellsOf e→∃v,c[i*P.cellsOf e+j]? =some v∧Pure P w I t' v (bU P e x j))
  (U: ∀(i j:Nat) (x:V) (t':TypeId),xs[i]? =some x→(bc P e)[j]? =some t'→j<P.cellsOf e→∃v,news[i*P.cellsOf e+j]? =some v∧Pure P w I t' v (bU P e x j))
  (hb:n*P.cellsOf e≤c.length) (rest:List Value):
  ∀(i j:Nat) (x:V) (t':TypeId),(es++xs)[i]? =some x→(bc P e)[j]? =some t'→j<P.cellsOf e→∃v,(c.take (n*P.cellsOf e)++news++rest)[i*P.cellsOf e+j]? =some v∧Pure P w I t' v (bU P e x j):=by
 intro i j x t' hx ht hj
 have hl:(c.take (n*P.cellsOf e)).length=n*P.cellsOf e:=by simp;omega
 by_cases hi:i<n
 ·rw[iP (by omega)] at hx
  obtain ⟨v,hv,hp⟩:=h1 i j x t' hx ht hj
  have:i*P.cellsOf e+j<n*P.cellsOf e:=by
   have:(i+1)*P.cellsOf e≤n*P.cellsOf e:=dL _ hi
   rw[dF] at this
   omega
  exact ⟨v,by rw[cF,iP (by omega),fe this];exact hv,hp⟩
 ·rw[iQ (by omega),hn] at hx
  obtain ⟨v,hv,hp⟩:=U (i-n) j x t' hx ht hj
  have hZ:i-n<xs.length:=(bD.1 hx).1
  have e1:i*P.cellsOf e+j-n*P.cellsOf e=(i-n)*P.cellsOf e+j:=by
   rw[Nat.sub_mul]
   have:n*P.cellsOf e≤i*P.cellsOf e:=dL _ (by omega)
   omega
  have h3:(i-n)*P.cellsOf e+j<news.length:=(bD.1 hv).1
  refine ⟨v,?_,hp⟩
  have h4:n*P.cellsOf e≤i*P.cellsOf e+j:=by
   have:n*P.cellsOf e≤i*P.cellsOf e:=dL _ (by omega)
   omega
  rw[cF,iQ (by omega),hl,e1,iP h3]
  exact hv
theorem Pure.drew {t:TypeId} {v:Value} {x:V} (h:Pure P w I t v x):Pure P w.drew I t v x:=Pure.mono (w:=w) (w':=w.drew) (fun _ h=>h) (fun _ _=>rfl) h
theorem ZM (w:World) (t ty e:TypeId) (i:TypeInfo) (z:Value) (ht:P.underlying t=some (.slice e)) (hi:P.info? e=some i) (hz:i.zero=some z)
  (a0:Option Addr) (a:Addr) (n c:Nat) (news:List Value) (hl:news.length=n*i.size) (EV: ∀j v,news[j]? =some v→w.cell? (a.add j)=some v)
  (h0:0<n) (EW:(n:Int)≤9223372036854775807) (EX:n*i.bytes≤281474976710656):
  (Builtin.append_ #[t,t] ty #[.slice a0 0 0,.slice (some a) n c]).run P w=
   .ok (.slice (some ⟨w.heap.size,0,none⟩) n (grownCap w n 0 e)) (w.drew.alloc (.cells (news.toArray++Builtin.zeroCells z.cells (grownCap w n 0 e-n)) e)):=by
 cases a0 with
 | none=>exact run_append_nil w t ty e i z ht hi hz a n c news hl EV h0 EW EX
 | some b=>
  have:=run_append_grow (P:=P) w t ty e i z ht hi hz b 0 0 [] (by simp) (by simp) a n c news hl EV (by omega) (by omega) (by rw[gY,nextslicecap_zero h0];omega)
  simpa using this
theorem JG (S:aF P w I β hp B M w0) {t ty e:TypeId} {nb:Nat} {x:Value} {xs:List V} (hu:P.underlying t=some (.slice e)) (au:c7 P e=true) (hn:hp nb=none)
  (eb:xs.length*P.bytesOf e≤b6) {a0:Option Addr} (hx:((∃a,x= .slice a 0 0)∧xs=[])∨∃a c news,Row P w I e x xs a c news):
  ∃v w' β',(Builtin.append_ #[t,t] ty #[.slice a0 0 0,x]).run P w= .ok v w'∧Le P w I β hp w' I β' (aK hp nb (some (.arr e xs false)))∧aF P w' I β' (aK hp nb (some (.arr e xs false))) B M w0∧
   ao P w' I β' (aK hp nb (some (.arr e xs false))) v (.whole e nb):=by
 obtain ⟨i,z,hi,hz,h3,h4,_⟩:=kJ au
 have uI:=wW au
 have mK:P.bytesOf e=i.bytes:=by simp[Program.bytesOf,hi]
 have hlen:xs.length≤2^45:=by
  have:xs.length*1≤xs.length*P.bytesOf e:=tU _ uI
  simp only[b6] at eb
  omega
 have empty:xs=[]→(∃a c,x= .slice a 0 c)→∃v w' β',(Builtin.append_ #[t,t] ty #[.slice a0 0 0,x]).run P w= .ok v w'∧Le P w I β hp w' I β' (aK hp nb (some (.arr e xs false)))∧aF P w' I β' (aK hp nb (some (.arr e xs false))) B M w0∧
   ao P w' I β' (aK hp nb (some (.arr e xs false))) v (.whole e nb):=by
  intro gN JH
  subst gN
  obtain ⟨a1,a2⟩:=Ev S e hn
  exact ⟨_,_,_,PH hu hi a0 0 0 x JH (cg _),a1,a2,.dO (da _ _ _) (da _ _ _)⟩
 rcases hx with ⟨⟨_,rfl⟩,rfl⟩|⟨a,c,news,hr⟩
 ·exact empty rfl ⟨_,_,rfl⟩
 ·by_cases h0:xs.length=0
  ·have gN:xs=[]:=lL h0
   refine empty gN ⟨some a,c,?_⟩
   rw[hr.val,h0]
  ·have db:=ZM (P:=P) w t ty e i z hu hi hz a0 a xs.length c news (by rw[hr.len,h3]) hr.cell (by omega) (by omega) (by rw[←mK];simp only[b6] at eb;omega)
   have pW:=grownCap_ge w xs.length 0 e
   have uJ:grownCap w xs.length 0 e≤maxLen:=grownCap_le_maxLen w xs.length 0 e (by simp only[maxLen];omega)
   obtain ⟨n1,n2,n3⟩:=xk S.drew (nb:=nb) (cap:=grownCap w xs.length 0 e) (es:=xs) (C0:=news.toArray++Builtin.zeroCells z.cells (grownCap w xs.length 0 e-xs.length)) au hn
    (by simp only[DP,qz,size_zeroCells,h4,hr.len,←dF];congr 1;omega) pW uJ
    (fun i' j y t' hy ht hj=>by
     obtain ⟨u,gb,hp⟩:=hr.el i' j y t' hy ht hj
     have aO:=(bD.1 gb).1
     refine ⟨u,?_,Pure.drew hp⟩
     rw[Array.getElem?_append_left (by simpa using aO)]
     simpa using gb)
   rw[hr.val]
   exact ⟨_,_,_,db,(Le.drew w I β hp).trans n1,n2,n3⟩
theorem ZN (S:aF P w I β hp B M w0) {t ty e:TypeId} {nb:Nat} {s x:Value} {sv xv:V} {r:R} {rd:List Nat} (hu:P.underlying t=some (.slice e)) (hs:ao P w I β hp s sv) (hx:ao P w I β hp x xv)
  (h:(wJ P nb e sv xv).run C hp=some (r,rd)):di P ((Builtin.append_ #[t,t] ty #[s,x]).run P w) w I β hp B M w0 r:=by
 unfold wJ at h
 obtain ⟨au,h⟩:=aH h
 obtain ⟨xs,l9,l0,h⟩:=ET S.h.rel au hx h
 cases sv with
 | nilS e'=>
  obtain ⟨hc,h⟩:=aH h
  simp only[aP,a9,dh] at hc
  obtain ⟨hn,rfl⟩:=nG h
  obtain ⟨a0,rfl⟩: ∃a0,s= .slice a0 0 0:=by cases hs;exact ⟨_,rfl⟩
  obtain ⟨v,w',β',a1,a2,a3,a4⟩:=JG (ty:=ty) S hu au hn hc.2 l9
  exact ⟨v,w',I,β',a1,a2,a3,a4⟩
 | whole e' id=>
  obtain ⟨l,h⟩:=run_get h
  cases ab:hp id with
  | none=>rw[ab] at h;cases h
  | some blk=>
   rw[ab] at h
   cases blk with
   | dead=>cases h
   | var _=>cases h
   | nest _ _ _=>cases h
   | map _ _=>cases h
   | arr dM es fz=>
    cases fz with
    | true=>cases h
    | false=>
     obtain ⟨hc,h⟩:=aH h
     obtain ⟨hn,rfl⟩:=nG h
     simp only[aP,a9,dh] at hc
     obtain ⟨JI,JJ,eb⟩:=hc
     subst JI
     subst JJ
     have bH:nb≠id:=fun e=>by rw[e,ab] at hn;cases hn
     obtain ⟨k1,k2⟩:=Ew S ab
     have kK:aK hp id (some an.dead) nb=none:=by rw[ey _ _ bH];exact hn
     cases hs with
     | eu hd=>rw[ab] at hd;cases hd
     | eG hd=>rw[ab] at hd;cases hd
     | dO hd hb=>
      rw[ab] at hd
      cases hd
      simp only[List.length_nil,gY] at eb
      have ZO:((∃a,x= .slice a 0 0)∧xs=[])∨∃a c news,Row P w I e x xs a c news:=l9
      obtain ⟨v,w',β',a1,a2,a3,a4⟩:=JG (ty:=ty) k2 hu au kK eb ZO
      exact ⟨v,w',I,β',a1,k1.trans a2,a3,a4⟩
     | @whole _ _ aL nw b cap hd hb bh cp hm=>
      rw[ab] at hd
      cases hd
      have hr:=S.h.rel id _ ab
      cases hr with
      | dP aB=>rw[aB] at hb;cases hb
      | @arr _ _ _ b' Ca _ aB hh pY hf ew mL=>
       rw[hb] at aB
       cases aB
       obtain ⟨i,z,hi,hz,h3,h4,_⟩:=kJ au
       have uI:=wW au
       have mK:P.bytesOf e=i.bytes:=by simp[Program.bytesOf,hi]
       have hlen:es.length+xs.length≤2^45:=by
        have:(es.length+xs.length)*1≤(es.length+xs.length)*P.bytesOf e:=tU _ uI
        simp only[b6] at eb
        omega
       rw[nB hh] at bh
       have qV: ∀aD blk',aK hp id (some an.dead) aD=some blk'→¬bE P w (β aD) blk' b:=by
        intro aD blk' h1 U
        by_cases jd:aD=id
        ·subst jd;rw[da] at h1;cases h1;exact U.alive rfl
        ·rw[ey _ _ jd] at h1
         exact jd (S.h.inj aD id blk' _ b h1 ab U (.root (by simp) hb))
       have JK:=S.h.sJ id _ b ab (by simp) hb
       have room: ∀(C':Array Value) (w':World) (ys:List V),w'.heap[b]? =some (.cells C' e (0,0))→C'.size=Ca.size→(∀b',b'≠b→w'.heap[b']? =w.heap[b']?)→w.heap.size≤w'.heap.size→(w'.os=w.os∧w'.output=w.output)→ys.length≤cap→
         (∀(i j:Nat) (y:V) (t':TypeId),ys[i]? =some y→(bc P e)[j]? =some t'→j<P.cellsOf e→∃v,C'[i*P.cellsOf e+j]? =some v∧Pure P w I t' v (bU P e y j))→
         Le P w I β hp w' I (aK β nb (some b)) (aK (aK hp id (some .dead)) nb (some (.arr e ys false)))∧aF P w' I (aK β nb (some b)) (aK (aK hp id (some .dead)) nb (some (.arr e ys false))) B M w0∧
         ao P w' I (aK β nb (some b)) (aK (aK hp id (some .dead)) nb (some (.arr e ys false))) (.slice (some ⟨b,0,none⟩) ys.length cap) (.whole e nb):=by
        intro C' w' ys hC oS ZP ZQ ZR uE hy
        obtain ⟨a1,a2⟩:=Aw k2 (blk:= .arr e ys false) (w':=w') kK qV (ew rfl) (fun b' h _=>ZP b' h) ZQ ZR JK
         (fun b' h=>(dv (h.flat (by simp))).symm) (fun hle=> .arr au rfl hC (by rw[oS,←bh];exact dL _ uE) (fun h=>by cases h) (fun _=>ew rfl) fun i j y t' a b c=>by
          obtain ⟨v,hv,hp⟩:=hy i j y t' a b c
          exact ⟨v,hv,hp.mono hle.dC hle.cy⟩)
        refine ⟨k1.trans a1,a2,.whole (da _ _ _) (da _ _ _) ?_ uE hm⟩
        rw[nB hC,oS,bh]
       have same:xs=[]→(∃a c,x= .slice a 0 c)→di P ((Builtin.append_ #[t,t] ty #[.slice (some ⟨b,0,none⟩) es.length cap,x]).run P w) w I β hp B M w0 ⟨.whole e nb,[(nb,.arr e (es++xs) false),(id,.dead)]⟩:=by
        intro gN JH
        subst gN
        rw[c9]
        obtain ⟨a1,a2,a3⟩:=room Ca w es hh rfl (fun _ _=>rfl) (cg _) ⟨rfl,rfl⟩ cp mL
        exact ⟨_,_,_,_,PH hu hi _ _ _ x JH cp,a1,a2,a3⟩
       rcases l9 with ⟨⟨_,rfl⟩,rfl⟩|⟨a,c,news,cO⟩
       ·exact same rfl ⟨_,_,rfl⟩
       ·have h1:=cO.one au
        have l8:es.length*P.cellsOf e≤Ca.toList.length:=by simpa using pY
        by_cases sS:es.length+xs.length≤cap
        ·have AN:es.length*P.cellsOf e+news.length≤Ca.size:=by rw[cO.len,←dF,←bh];exact dL _ sS
         have db:=run_append_room (P:=P) w t ty e i hu hi b es.length cap Ca hh a xs.length c news (by rw[cO.len,h3]) cO.cell h1 sS (by rw[h3];exact AN)
         rw[h3] at db
         have c8:=EU (P:=P) (w:=w) (I:=I) (n:=es.length) (c:=Ca.toList) rfl (fun i j y t' a b c=>by
          obtain ⟨v,hv,hp⟩:=mL i j y t' a b c
          exact ⟨v,by simpa using hv,hp⟩) cO.el l8 (Ca.toList.drop (es.length*P.cellsOf e+news.length))
         obtain ⟨a1,a2,a3⟩:=room (Ca.toList.take (es.length*P.cellsOf e)++news++Ca.toList.drop (es.length*P.cellsOf e+news.length)).toArray (w.setRow b _) (es++xs)
          (setRow_heap w b Ca _ e _ hh) (by simp;omega) (fun b' aB=>setRow_other w b b' _ aB) (by simp) ⟨rfl,rfl⟩ (by simpa using sS)
          (fun i j y t' a b c=>by
           obtain ⟨v,hv,hp⟩:=c8 i j y t' a b c
           exact ⟨v,by simpa using hv,hp⟩)
         rw[cO.val]
         rw[b9] at a3
         exact ⟨_,_,_,_,db,a1,a2,a3⟩
        ·have hold: ∀(j:Nat) v,(Ca.toList.take (es.length*P.cellsOf e))[j]? =some v→w.cell? ((⟨b,0,none⟩:Addr).add j)=some v:=by
          intro j v hj
          have cz:=(bD.1 hj).1
          have gv:j<es.length*P.cellsOf e:=by rw[ff] at cz;omega
          rw[fe gv] at hj
          rw[nE,cell?_cells hh,gY]
          simpa using hj
         have db:=run_append_grow (P:=P) w t ty e i z hu hi hz ⟨b,0,none⟩ es.length cap (Ca.toList.take (es.length*P.cellsOf e)) (by rw[h3];simp;omega) hold a xs.length c news (by rw[cO.len,h3]) cO.cell (by omega) (by omega)
          (growslice_fits (by omega) (by rw[←mK];simp only[b6] at eb;omega))
         have pW:=grownCap_ge w (es.length+xs.length) cap e
         have uJ:grownCap w (es.length+xs.length) cap e≤maxLen:=grownCap_le_maxLen w _ cap e (by simp only[maxLen];omega)
         have c8:=EU (P:=P) (w:=w) (I:=I) (n:=es.length) (c:=Ca.toList) rfl (fun i j y t' a b c=>by
          obtain ⟨v,hv,hp⟩:=mL i j y t' a b c
          exact ⟨v,by simpa using hv,hp⟩) cO.el l8 (Builtin.zeroCells z.cells (grownCap w (es.length+xs.length) cap e-(es.length+xs.length))).toList
         obtain ⟨n1,n2,n3⟩:=xk k2.drew (nb:=nb) (cap:=grownCap w (es.length+xs.length) cap e) (es:=es++xs)
          (C0:=(Ca.toList.take (es.length*P.cellsOf e)).toArray++news.toArray++Builtin.zeroCells z.cells (grownCap w (es.length+xs.length) cap e-(es.length+xs.length))) au kK
          (by
           have e1:(Ca.toList.take (es.length*P.cellsOf e)).length=es.length*P.cellsOf e:=by simp;omega
           simp only[DP,qz,size_zeroCells,h4,cO.len,e1,←dF];congr 1;omega) (by simpa using pW) uJ
          (fun i j y t' a b c=>by
           obtain ⟨v,hv,hp⟩:=c8 i j y t' a b c
           refine ⟨v,?_,Pure.drew hp⟩
           rw[←sk]
           simpa using hv)
         rw[cO.val]
         rw[b9] at n3
         exact ⟨_,_,_,_,db,(k1.trans (Le.drew w I β _)).trans n1,n2,n3⟩
 | _=>cases h
end
section
variable {P:Program} {w w':World} {I I':Nat→Prop} {β β':Nat→Option Nat} {hp hp':Nat→Option an} {C:ae} {B:Nat} {M:Nat→Prop} {w0:Start}
theorem run_copy_none (w:World) {dT sT ty elem:TypeId} {i:TypeInfo} (a0:Option Addr) (PI ZS:Nat) (a1:Option Addr) (PJ ZT:Nat) (hu:P.underlying dT=some (.slice elem)) (hi:P.info? elem=some i) (h0:Nat.min PJ PI=0):
  (Builtin.copy_ #[dT,sT] ty #[.slice a0 PI ZS,.slice a1 PJ ZT]).run P w= .ok (goInt 0) w:=by
 cases a0<;>cases a1<;>simp[Builtin.copy_,run_underlying hu,Builtin.lenOf,Builtin.firstCells,sizeOf,typeInfo,hi,h0,storeCells,loadCells,loadCellsFrom]
theorem ZU (S:aF P w I β hp B M w0) {t u ty e:TypeId} {s x:Value} {sv xv:V} {r:R} {rd:List Nat} (hu:P.underlying t=some (.slice e)) (hs:ao P w I β hp s sv) (hx:ao P w I β hp x xv)
  (h:(IP P e sv xv).run C hp=some (r,rd)):di P ((Builtin.copy_ #[t,u] ty #[s,x]).run P w) w I β hp B M w0 r:=by
 unfold IP at h
 obtain ⟨au,h'⟩:=aH h
 clear h
 simp only[aP,a9] at au
 obtain ⟨au,h1⟩:=au
 obtain ⟨xs,l9,l0,h⟩:=ET S.h.rel au hx h'
 obtain ⟨i,z,hi,hz,bh,_⟩:=kJ au
 cases sv<;>simp only at h<;>first|(cases h;done)|skip
 rename_i e' id
 obtain ⟨l,U⟩:=run_get h
 clear h
 cases ab:hp id with
 | none=>rw[ab] at U;cases U
 | some blk=>
  rw[ab] at U
  cases blk<;>simp only at U<;>first|(cases U;done)|skip
  rename_i e2 es fz
  cases fz with
  | true=>cases U
  | false=>
  obtain ⟨hc,h3⟩:=aH U
  simp only[aP,a9] at hc
  obtain ⟨rfl,rfl⟩:=hc
  obtain rfl:=aR h3
  have nH:min xs.length es.length=0→(Builtin.copy_ #[t,u] ty #[s,x]).run P w= .ok (goInt 0) w→di P ((Builtin.copy_ #[t,u] ty #[s,x]).run P w) w I β hp B M w0 ⟨.int .i64 (min xs.length es.length:Nat),[(id,.arr e (xs.take es.length++es.drop xs.length) false)]⟩:=by
   intro h0 hr
   have he:xs.take es.length++es.drop xs.length=es:=by
    rcases Nat.le_total xs.length es.length with hl|hl
    ·have:xs=[]:=lL (by omega)
     simp[this]
    ·have:es=[]:=lL (by omega)
     simp[this]
   have gr:bR hp [(id,.arr e (xs.take es.length++es.drop xs.length) false)]=hp:=by
    rw[he];exact I0 hp id _ ab
   refine ⟨goInt 0,w,I,β,hr,?_⟩
   simp only[gr,h0]
   exact ⟨Le.refl w I β hp,S,.int⟩
  cases hs with
  | eu hd=>rw[ab] at hd;cases hd
  | eG hd=>rw[ab] at hd;cases hd
  | @dO _ _ fz a hd hb=>
   rw[ab] at hd
   cases hd
   refine nH (by simp) ?_
   rcases l9 with ⟨⟨a',rfl⟩,rfl⟩|⟨a',c,news,cO⟩
   ·exact run_copy_none w _ _ _ _ _ _ hu hi (by simp)
   ·rw[cO.val];exact run_copy_none w _ _ _ _ _ _ hu hi (by simp)
  | @whole _ _ aL nw b cap hd hb AO cp hm=>
   have eQ:=hd
   rw[ab] at hd
   cases hd
   rcases l9 with ⟨⟨a',rfl⟩,rfl⟩|⟨a',c,news,cO⟩
   ·exact nH (by simp) (run_copy_none w _ _ _ _ _ _ hu hi (by simp))
   have hr:=S.h.rel id _ ab
   cases hr with
   | dP aB=>rw[aB] at hb;cases hb
   | @arr _ _ _ b' Ca _ aB hh pY hf ew mL=>
    rw[hb] at aB
    cases aB
    have kI:news.length=xs.length:=by rw[cO.len,h1,np]
    rw[h1,np] at pY
    have lp:(news.take es.length).length=Nat.min xs.length es.length:=by
     rw[ff,kI,Nat.min_comm]
    have PK:Nat.min xs.length es.length=min xs.length es.length:=rfl
    have db:=run_copy_row (P:=P) w t u ty e b 0 es.length cap a' xs.length c Ca e (news.take es.length) hu (by rw[hi];simp[bh,h1]) hh lp
     (fun j v hj=>cO.cell j v (by
      have:=(bD.1 hj).1
      rw[ff] at this
      rwa [fe (by omega)] at hj)) (by rw[lp,PK];omega) (fun v hv=>cO.one au v (List.mem_of_mem_take hv))
    rw[cO.val]
    have hq:(goInt (news.take es.length).length)= .int .i64 ((min xs.length es.length:Nat):Int):=by rw[lp];rfl
    have jA:(xs.take es.length++es.drop xs.length).length=es.length:=by simp;omega
    have oS:(Ca.toList.take 0++news.take es.length++Ca.toList.drop (0+(news.take es.length).length)).toArray.size=Ca.size:=by
     simp only[qz,b9,pD,ff,lp,PK]
     simp
     omega
    obtain ⟨a1,a2⟩:=EH S (blk':= .arr e (xs.take es.length++es.drop xs.length) false) (Cb:=(Ca.toList.take 0++news.take es.length++Ca.toList.drop (0+(news.take es.length).length)).toArray) ab (by simp) ⟨rfl,jA.symm⟩ hb (ew rfl) (by simp) hh oS
     (fun hle e8=> .arr au rfl e8 (by rw[oS,jA,h1,np];exact pY) (fun h=>by cases h) (fun _=>ew rfl) fun i j y t' hy ht hj=>by
      rw[h1] at hj⊢
      obtain rfl:j=0:=by omega
      rw[np,Nat.add_zero]
      have rj:=(bD.1 hy).1
      rw[jA] at rj
      by_cases bM:i<xs.length
      ·rw[iP (by rw[ff];omega),fe rj] at hy
       obtain ⟨u',k1,k2⟩:=cO.el i 0 y t' hy ht (by omega)
       rw[h1,np,Nat.add_zero] at k1
       refine ⟨u',?_,k2.mono hle.dC hle.cy⟩
       simp only[List.take_zero,List.nil_append,nn]
       rw[iP (by rw[ff];omega),fe rj]
       exact k1
      ·have e1:(xs.take es.length).length=xs.length:=by rw[ff];omega
       rw[iQ (by omega),e1,iu,show xs.length+(i-xs.length)=i by omega] at hy
       obtain ⟨u',k1,k2⟩:=mL i 0 y t' hy ht (by omega)
       rw[h1,np,Nat.add_zero] at k1
       refine ⟨u',?_,k2.mono hle.dC hle.cy⟩
       simp only[List.take_zero,List.nil_append,nn,gY]
       have e2:(news.take es.length).length=xs.length:=by rw[ff];omega
       rw[iQ (by omega),e2,iu,show xs.length+(i-xs.length)=i by omega]
       simpa using k1)
    exact ⟨_,_,_,_,db,a1,a2,by rw[hq];exact .int⟩
theorem ZV (S:aF P w I β hp B M w0) {t ty e:TypeId} {x:Value} {xv:V} {r:R} {rd:List Nat} (hu:P.underlying t=some (.slice e)) (hx:ao P w I β hp x xv)
  (h:(IN P e xv).run C hp=some (r,rd)):di P ((Builtin.clear_ #[t] ty #[x]).run P w) w I β hp B M w0 r:=by
 unfold IN at h
 obtain ⟨c8,h'⟩:=aH h
 clear h
 have au:c7 P e=true:=by
  unfold mA at c8;simp only[aP] at c8;exact c8.1
 obtain ⟨i,z,hi,hz,bh,AP,ZW⟩:=AL (w:=w) (I:=I) c8
 have gI:=(kF au).2
 cases xv<;>simp only at h'<;>first|(cases h';done)|skip
 rename_i e' id off len
 obtain ⟨l,U⟩:=run_get h'
 clear h'
 cases ab:hp id with
 | none=>rw[ab] at U;cases U
 | some blk=>
  rw[ab] at U
  cases blk<;>simp only at U<;>first|(cases U;done)|skip
  rename_i e2 es fz
  cases fz with
  | true=>cases U
  | false=>
  obtain ⟨hc,h3⟩:=aH U
  simp only[aP,a9] at hc
  obtain ⟨rfl,rfl⟩:=hc
  obtain rfl:=aR h3
  have nH:len=0→(Builtin.clear_ #[t] ty #[x]).run P w= .ok (.tuple #[]) w→di P ((Builtin.clear_ #[t] ty #[x]).run P w) w I β hp B M w0 ⟨.bq [],[(id,.arr e (es.take off++(List.replicate len (cK P e (eO P e))++es.drop (off+len))) false)]⟩:=by
   intro h0 hr
   subst h0
   have gr:bR hp [(id,.arr e (es.take off++(List.replicate 0 (cK P e (eO P e))++es.drop (off+0))) false)]=hp:=by
    simp only[List.replicate_zero,List.nil_append,Nat.add_zero,DQ]
    exact I0 hp id _ ab
   refine ⟨.tuple #[],w,I,β,hr,?_⟩
   simp only[gr]
   exact ⟨Le.refl w I β hp,S,.bq rfl fun j v x hj hx=>by simp at hx⟩
  cases hx with
  | gp hd=>rw[ab] at hd;cases hd
  | @ga _ _ _ a0 hd hb=>exact nH rfl (by cases a0<;>simp[Builtin.clear_,run_underlying hu])
  | @sub _ _ _ _ aL nw b o cap hd hb lh cp ho=>
   by_cases hlen:len=0
   ·refine nH hlen ?_
    subst hlen
    simp[Builtin.clear_,run_underlying hu]
   have ZX:0<len:=by omega
   have eQ:=hd
   rw[ab] at hd
   cases hd
   have hr:=S.h.rel id _ ab
   cases hr with
   | dP aB=>rw[aB] at hb;cases hb
   | @arr _ _ _ b' Ca _ aB hh pY hf ew mL=>
    rw[hb] at aB
    cases aB
    have ho:=ho ZX
    subst ho
    have uH:(Builtin.zeroCells z.cells len).toList.length=len*P.cellsOf e:=by rw[Array.length_toList,size_zeroCells,AP]
    have hmul:off*P.cellsOf e+len*P.cellsOf e≤es.length*P.cellsOf e:=by rw[←dF];exact dL _ lh
    have rf: ∀v∈(Builtin.zeroCells z.cells len).toList,v.oneCell'=true:=by
     intro v hv
     obtain ⟨k,hk⟩:=sj hv
     have fv:=(bD.1 hk).1
     rw[uH] at fv
     have ZY:(Builtin.zeroCells z.cells len)[k]? =z.cells[k %z.cells.size]? :=PD (z:=z.cells) (n:=len*z.cells.size) (by rw[AP];exact fv) (by rw[AP];exact gI)
     rw[sk,ZY] at hk
     have hm:k %z.cells.size<P.cellsOf e:=by rw[AP];exact Nat.mod_lt _ gI
     have ZZ:k %z.cells.size<(bc P e).length:=by rw[fN au];exact hm
     obtain ⟨v',w8,hp'⟩:=ZW (k %z.cells.size) _ (bG ZZ) hm
     rw[hk] at w8
     cases w8
     generalize bU P e (cK P e (eO P e)) (k %z.cells.size)=y at hp'
     cases hp'<;>rfl
    have bX:=run_storeCells_at P b (off*P.cellsOf e) e (Builtin.zeroCells z.cells len).toList 0 Ca w hh (by rw[uH];omega) rf
    simp only[Nat.add_zero] at bX
    have db:(Builtin.clear_ #[t] ty #[.slice (some ⟨b,off*P.cellsOf e,none⟩) len cap]).run P w= .ok (.tuple #[]) (w.setRow b (Ca.toList.take (off*P.cellsOf e)++(Builtin.zeroCells z.cells len).toList++Ca.toList.drop (off*P.cellsOf e+(Builtin.zeroCells z.cells len).toList.length)).toArray):=by
     obtain ⟨n,rfl⟩: ∃n,len=n+1:=⟨len-1,by omega⟩
     simp[Builtin.clear_,run_underlying hu,zeroValue,typeInfo,hi,hz,bX]
    have jA:(es.take off++(List.replicate len (cK P e (eO P e))++es.drop (off+len))).length=es.length:=by simp;omega
    have oS:(Ca.toList.take (off*P.cellsOf e)++(Builtin.zeroCells z.cells len).toList++Ca.toList.drop (off*P.cellsOf e+(Builtin.zeroCells z.cells len).toList.length)).toArray.size=Ca.size:=by
     simp only[qz,b9,pD,ff,uH,Array.length_toList]
     omega
    obtain ⟨a1,a2⟩:=EH S (blk':= .arr e (es.take off++(List.replicate len (cK P e (eO P e))++es.drop (off+len))) false) ab (by simp) ⟨rfl,jA.symm⟩ hb (ew rfl) (by simp) hh oS
     (fun hle e8=> .arr au rfl e8 (by rw[oS,jA];exact pY) (fun h=>by cases h) (fun _=>ew rfl) fun i' j y t' hy ht hj=>by
      have ia:=nF es (List.replicate len (cK P e (eO P e))) off i' (by simp;omega)
      rw[tV] at ia
      rw[ia] at hy
      have hC:(Ca.toList.take (off*P.cellsOf e)++(Builtin.zeroCells z.cells len).toList++Ca.toList.drop (off*P.cellsOf e+(Builtin.zeroCells z.cells len).toList.length)).toArray[i'*P.cellsOf e+j]? =
        if i'*P.cellsOf e+j<off*P.cellsOf e then Ca.toList[i'*P.cellsOf e+j]? else if i'*P.cellsOf e+j<off*P.cellsOf e+len*P.cellsOf e then (Builtin.zeroCells z.cells len).toList[i'*P.cellsOf e+j-off*P.cellsOf e]? else Ca.toList[i'*P.cellsOf e+j]? :=by
       have:=nF Ca.toList (Builtin.zeroCells z.cells len).toList (off*P.cellsOf e) (i'*P.cellsOf e+j) (by rw[uH,Array.length_toList];omega)
       rw[nn,cF,this,uH]
      by_cases JL:i'<off
      ·rw[aj JL] at hy
       have:(i'+1)*P.cellsOf e≤off*P.cellsOf e:=dL _ JL
       rw[dF] at this
       rw[aj (by omega)] at hC
       obtain ⟨u,k1,k2⟩:=mL i' j y t' hy ht hj
       exact ⟨u,hC.trans (by simpa using k1),k2.mono hle.dC hle.cy⟩
      ·rw[ai JL] at hy
       have h1:off*P.cellsOf e≤i'*P.cellsOf e:=dL _ (by omega)
       rw[ai (by omega)] at hC
       by_cases hZ:i'<off+len
       ·rw[aj hZ] at hy
        have:(i'+1)*P.cellsOf e≤(off+len)*P.cellsOf e:=dL _ hZ
        rw[dF,dF] at this
        rw[aj (by omega)] at hC
        obtain ⟨v,k1,k2⟩:=ES (w:=w) (I:=I) c8 hi hz len len (cg _) (i'-off) j y t' hy ht hj
        refine ⟨v,hC.trans ?_,k2.mono hle.dC hle.cy⟩
        rw[show i'*P.cellsOf e+j-off*P.cellsOf e=(i'-off)*P.cellsOf e+j by rw[Nat.sub_mul];omega,sk]
        unfold Builtin.zeroCells
        rw[AP] at k1⊢
        exact k1
       ·rw[ai hZ] at hy
        have:(off+len)*P.cellsOf e≤i'*P.cellsOf e:=dL _ (by omega)
        rw[dF] at this
        rw[ai (by omega)] at hC
        obtain ⟨u,k1,k2⟩:=mL i' j y t' hy ht hj
        exact ⟨u,hC.trans (by simpa using k1),k2.mono hle.dC hle.cy⟩)
    exact ⟨_,_,_,_,db,a1,a2,.bq rfl fun j v x hj hx=>by simp at hx⟩
end
section
variable {P:Program} {w w':World} {I I':Nat→Prop} {β β':Nat→Option Nat} {hp hp':Nat→Option an} {C:ae} {B:Nat} {M:Nat→Prop} {w0:Start}
theorem Z0 (S:aF P w I β hp B M w0) {s:TypeId} {f:Nat} {v:Value} {x:V} {r:R} {rd:List Nat} (hv:ao P w I β hp v x)
  (h:(IT P s f x).run C hp=some (r,rd)):di P ((Instr.field s v f).run P w) w I β hp B M w0 r:=by
 unfold IT D4 at h
 split at h
 ·rename_i fs hu
  cases hf:fs[f]? with
  | none=>rw[hf] at h;cases h
  | some fd=>
   rw[hf] at h
   simp only[wK] at h
   obtain ⟨ht,h⟩:=aH h
   obtain ⟨d,uK⟩:=AA ht
   obtain ⟨i,hi⟩:=w6 uK
   have bh:i.size=P.cellsOf fd.type:=by simp[Program.cellsOf,hi]
   cases x with
   | agg xs=>
    obtain ⟨cs,rfl,h1,U⟩:=hv.ll
    dsimp only at h
    cases ha:bP P fd.type with
    | true=>
     rw[ha] at h
     simp only[cond_true] at h
     obtain ⟨hc,h⟩:=aH h
     obtain rfl:=aR h
     rw[dh] at hc
     refine .same S (v:= .agg (cs.extract fd.offset (fd.offset+P.cellsOf fd.type))) ?_ (.agg (by simp;omega) fun j u y gb hy=> ?_)
     ·simp[Instr.field,run_underlying hu,hf,part,Jj uK,ha,asAgg,sizeOf,typeInfo,hi,bh]
     ·have hj:j<P.cellsOf fd.type:=by
       have:=(iv.1 gb).1
       simp at this;omega
      rw[fe hj,iu] at hy
      refine U (fd.offset+j) u y ?_ hy
      rw[Array.getElem?_extract] at gb
      split at gb
      ·exact gb
      ·cases gb
    | false=>
     rw[ha] at h
     simp only[cond_false] at h
     obtain ⟨y,hy,h⟩:=lV h
     obtain rfl:=aR h
     have aO:fd.offset<cs.size:=by rw[h1];exact (bD.1 hy).1
     refine .same S (v:=cs[fd.offset]) ?_ (U _ _ _ (k9 aO) hy)
     simp[Instr.field,run_underlying hu,hf,part,Jj uK,ha,asAgg,aO]
   | _=>cases h
 ·cases h
theorem Z1 (S:aF P w I β hp B M w0) {i:Nat} {v:Value} {xs:List V} {r:R} {rd:List Nat} (hv:ao P w I β hp v (.bq xs))
  (h:(Rd.opt xs[i]? fun v=> .ret ⟨v,[]⟩).run C hp=some (r,rd)):di P ((Instr.extract v i).run P w) w I β hp B M w0 r:=by
 obtain ⟨cs,rfl,h1,U⟩:=hv.uy
 obtain ⟨y,hy,h⟩:=lV h
 obtain rfl:=aR h
 have aO:i<cs.size:=by rw[h1];exact (bD.1 hy).1
 exact .same S (v:=cs[i]) (by simp[Instr.extract,aO]) (U _ _ _ (k9 aO) hy)
theorem Z2 (S:aF P w I β hp B M w0) {t:TypeId} {s:ByteArray} {l:List UInt8} {k:IntKind} {i:Int} {r:R} {rd:List Nat} (hu:P.underlying t=some .string) (hs:s.data.toList=l)
  (h:(Rd.opt (bif decide (0≤i) then (l[i.toNat]?).map fun b=>V.int .u8 b.toNat else none) fun v=> .ret ⟨.int .u8 v.toInt,[]⟩).run C hp=some (r,rd)):
  di P ((Instr.index t (.string s) (.int k i)).run P w) w I β hp B M w0 r:=by
 obtain ⟨v,hv,h⟩:=lV h
 obtain rfl:=aR h
 cases hc:decide (0≤i) with
 | false=>rw[hc] at hv;cases hv
 | true=>
  rw[hc] at hv
  simp only[cond_true] at hv
  have h0:0≤i:=by simpa using hc
  cases hb:l[i.toNat]? with
  | none=>rw[hb] at hv;cases hv
  | some b=>
   rw[hb] at hv
   simp only[Option.map_some,eh] at hv
   subst hv
   have Z3:s[i.toNat]? =some b:=by
    subst hs
    obtain ⟨aO,he⟩:=bD.1 hb
    have JM:i.toNat<s.size:=by simpa using aO
    rw[getElem?_pos s i.toNat JM]
    congr 1
   refine .same S (v:= .int .u8 b.toNat) ?_ .int
   simp[Instr.index,asIntOf,run_underlying hu,h0,Z3]
theorem JN (S:aF P w I β hp B M w0) (mx:Bool): ∀{vs:List Value} {xs:List V} {v:Value} {x:V} {r:R} {rd:List Nat},ao P w I β hp v x→vs.length=xs.length→
  (∀(j:Nat) u y,vs[j]? =some u→xs[j]? =some y→ao P w I β hp u y)→(wL mx x xs).run C hp=some (r,rd)→
  di P ((vs.foldlM (if mx then Builtin.max2 else Builtin.min2) v).run P w) w I β hp B M w0 r
 | [],[],v,x,r,rd,hv,_,_,h=>by
  have:r=⟨x,[]⟩:=by
   cases x<;>(simp only[wL] at h;exact (aR h).symm)
  subst this
  exact .same S (by simp) hv
 | [],_::_,v,x,r,rd,hv,hl,_,h=>by simp at hl
 | _::_,[],v,x,r,rd,hv,hl,_,h=>by simp at hl
 | u::vs,y::xs,v,x,r,rd,hv,hl,hx,h=>by
  cases x<;>cases y<;>simp only[wL] at h<;>first|(cases h;done)|skip
  rename_i k a k' b
  obtain ⟨hc,h4⟩:=aH h
  clear h
  obtain rfl:k=k':=by simpa using hc
  have hu:=hx 0 u _ rfl rfl
  rw[hv.dZ,hu.dZ]
  have ih:=JN S mx (vs:=vs) (xs:=xs) (v:= .int k (bif mx then (if b>a then b else a) else (if b<a then b else a))) .int (by simpa using hl)
   (fun j u y h1 U=>hx (j+1) u y (by simpa using h1) (by simpa using U)) h4
  cases mx with
  | true=>simpa[List.foldlM_cons,Builtin.max2] using ih
  | false=>simpa[List.foldlM_cons,Builtin.min2] using ih
theorem rk {n cap:Nat} {isS:Bool} {lo hi:Option V} {lov hiv:Option Value} {k:Nat→Nat→Rd R} {r:R} {rd:List Nat} (hn:n≤cap)
  (je: ∀x,lo=some x→∃v,lov=some v∧ao P w I β hp v x) (ib: ∀x,hi=some x→∃v,hiv=some v∧ao P w I β hp v x) (nJ:lo=none→lov=none) (oT:hi=none→hiv=none)
  (h:(sC n lo hi k).run C hp=some (r,rd)): ∃l u,l≤u∧u≤n∧(Instr.sliceBounds isS n cap lov hiv none).run P w= .ok (l,u,cap) w∧(k l u).run C hp=some (r,rd):=by
 have ok: ∀(kk:IntKind) (i:Int) (y:Nat) (c:BoundsCode),0≤i→i≤y→(Instr.sliceBound (.int kk i) y c).run P w= .ok i.toNat w:=by
  intro kk i y c h1 U
  simp[Instr.sliceBound,asIntOf,h1,U]
 unfold sC at h
 cases lo with
 | none=>
  rw[nJ rfl]
  cases hi with
  | none=>
   rw[oT rfl]
   exact ⟨0,n,k0 _,cg _,by simp[Instr.sliceBounds],h⟩
  | some x=>
   obtain ⟨v,rfl,hv⟩:=ib x rfl
   cases x<;>simp only at h<;>first|(cases h;done)|skip
   rename_i kk u
   obtain ⟨hc,h⟩:=aH h
   simp only[aP,eg] at hc
   rw[hv.dZ]
   have:=ok kk u cap (if isS then .sliceAcap else .sliceAlen) hc.1 (by omega)
   exact ⟨0,u.toNat,k0 _,by omega,by simp[Instr.sliceBounds,this],h⟩
 | some x=>
  obtain ⟨v,rfl,hv⟩:=je x rfl
  cases hi with
  | none=>
   rw[oT rfl]
   cases x<;>simp only at h<;>first|(cases h;done)|skip
   rename_i kk l
   obtain ⟨hc,h⟩:=aH h
   simp only[aP,eg] at hc
   rw[hv.dZ]
   have:=ok kk l n .sliceB hc.1 (by omega)
   exact ⟨l.toNat,n,by omega,cg _,by simp[Instr.sliceBounds,this],h⟩
  | some y=>
   obtain ⟨v2,rfl,qS⟩:=ib y rfl
   cases x<;>cases y<;>simp only at h<;>first|(cases h;done)|skip
   rename_i kk l Z4 u
   obtain ⟨hc,h⟩:=aH h
   simp only[aP,eg] at hc
   rw[hv.dZ,qS.dZ]
   have h1:=ok Z4 u cap (if isS then .sliceAcap else .sliceAlen) (by omega) (by omega)
   have U:=ok kk l u.toNat .sliceB hc.1 (by omega)
   exact ⟨l.toNat,u.toNat,by omega,by omega,by simp[Instr.sliceBounds,h1,U],h⟩
theorem EY {a:Option Addr} {t e:TypeId} {i:TypeInfo} (hu:P.underlying t=some (.slice e)) (hi:P.info? e=some i) {lov hiv:Option Value}
  (hb:(Instr.sliceBounds true 0 0 lov hiv none).run P w= .ok (0,0,0) w):(Instr.sliceAt t (.slice a 0 0) lov hiv none).run P w= .ok (.slice a 0 0) w:=by
 cases a<;>simp[Instr.sliceAt,Instr.slice,run_underlying hu,hb,sizeOf,typeInfo,hi]
theorem JO {t e:TypeId} {i:TypeInfo} {b o len cap l u:Nat} (hu:P.underlying t=some (.slice e)) (hi:P.info? e=some i) {lov hiv:Option Value} (huc:u≤cap)
  (hb:(Instr.sliceBounds true len cap lov hiv none).run P w= .ok (l,u,cap) w): ∃o',(0<u-l→o'=o+l*i.size)∧(Instr.sliceAt t (.slice (some ⟨b,o,none⟩) len cap) lov hiv none).run P w= .ok (.slice (some ⟨b,o',none⟩) (u-l) (cap-l)) w:=by
 by_cases hc:cap=l
 ·subst hc
  refine ⟨o,fun h=>by omega,?_⟩
  ·simp[Instr.sliceAt,Instr.slice,run_underlying hu,hb,sizeOf,typeInfo,hi]
 ·refine ⟨o+l*i.size,fun _=>rfl,?_⟩
  simp[Instr.sliceAt,Instr.slice,run_underlying hu,hb,sizeOf,typeInfo,hi,hc,nE]
theorem Z5 (s:ByteArray) (l:List UInt8) (h:s.data.toList=l) (a b:Nat):(s.extract a b).data.toList=(l.drop a).take (b-a):=by
 subst h
 simp[ByteArray.data_extract]
theorem Z6 (S:aF P w I β hp B M w0) {t:TypeId} {v:Value} {x:V} {lo hi:Option V} {lov hiv:Option Value} {r:R} {rd:List Nat} (hv:ao P w I β hp v x)
  (je: ∀x,lo=some x→∃v,lov=some v∧ao P w I β hp v x) (ib: ∀x,hi=some x→∃v,hiv=some v∧ao P w I β hp v x) (nJ:lo=none→lov=none) (oT:hi=none→hiv=none)
  (h:(Ea P t x lo hi).run C hp=some (r,rd)):di P ((Instr.sliceAt t v lov hiv none).run P w) w I β hp B M w0 r:=by
 unfold Ea at h
 cases hu:P.underlying t with
 | none=>rw[hu] at h;cases h
 | some d=>
  rw[hu] at h
  cases d<;>simp only at h<;>first|(cases h;done)|skip
  case string=>
   cases x<;>simp only at h<;>first|(cases h;done)|skip
   rename_i l
   obtain ⟨s,rfl,hs⟩:=hv.mH
   have bh:l.length=s.size:=by rw[←hs];simp
   obtain ⟨a,u,h1,U,h3,h4⟩:=rk (isS:=false) (cap:=s.size) (by omega) je ib nJ oT h
   obtain rfl:=aR h4
   rw[bh] at h3
   refine .same S (v:= .string (s.extract a u)) ?_ (.str (Z5 s l hs a u))
   simp[Instr.sliceAt,Instr.slice,run_underlying hu,h3]
  case slice e=>
   cases x<;>simp only at h<;>first|(cases h;done)|skip
   case list e' es=>
    obtain ⟨hc,h⟩:=aH h
    simp only[aP,a9] at hc
    obtain ⟨dQ,au⟩:=hc
    obtain ⟨i,z,ej,_,bh,_⟩:=kJ au
    cases hv with
    | list hp'=>
     cases hp' with
     | nil=>
      obtain ⟨a,u,h1,U,h3,h4⟩:=rk (n:=0) (isS:=true) (cap:=0) (cg _) je ib nJ oT h
      obtain rfl:=aR h4
      obtain rfl:u=0:=by omega
      obtain rfl:a=0:=by omega
      exact .same S (EY hu ej h3) (by simpa using ao.list iW.nil)
     | @emp ad cap=>
      obtain ⟨a,u,h1,U,h3,h4⟩:=rk (n:=0) (isS:=true) (cap:=cap) (k0 _) je ib nJ oT h
      obtain rfl:=aR h4
      obtain rfl:u=0:=by omega
      obtain rfl:a=0:=by omega
      refine .same S (v:= .slice (some ad) 0 cap) ?_ (by simpa using ao.list iW.emp)
      by_cases hc:cap=0
      ·subst hc
       simp[Instr.sliceAt,Instr.slice,run_underlying hu,h3,sizeOf,typeInfo,ej]
      ·simp[Instr.sliceAt,Instr.slice,run_underlying hu,h3,sizeOf,typeInfo,ej,hc,Addr.add]
     | @list b o len cap _ g hl cp hI gq hx=>
      obtain ⟨a,u,h1,U,h3,h4⟩:=rk (isS:=true) (cap:=cap) (by omega) je ib nJ oT h
      obtain rfl:=aR h4
      rw[hl] at U h3
      obtain ⟨o',jz,db⟩:=JO (b:=b) (o:=o) hu ej (by omega) h3
      have gO:e=e':=dQ
      refine .same S db (.list ?_)
      rw[←gO]
      rw[←gO] at gq hx hI
      have hlen:((es.drop a).take (u-a)).length=u-a:=by simp;omega
      refine .list (fun i j=>g (a+i) j) hlen (by omega) (fun h=>hI (sg h (dL _ (by omega)))) (fun i j hi hj=> ?_) (fun i j y t' hy ht=> ?_)
      ·have:=gq (a+i) j (by omega) hj
       rw[dF,oz,←oz o] at this
       rw[jz (by omega),bh]
       exact this
      ·have hi:i<u-a:=by rw[←hlen];exact (bD.1 hy).1
       rw[fe hi,iu] at hy
       exact hx (a+i) j y t' hy ht
   case whole e' id=>
    obtain ⟨l,h⟩:=run_get h
    cases ab:hp id with
    | none=>rw[ab] at h;cases h
    | some blk=>
     rw[ab] at h
     cases blk<;>simp only at h<;>first|(cases h;done)|skip
     rename_i dM es fz
     obtain ⟨hc,h9⟩:=aH h
     clear h
     simp only[aP,a9] at hc
     obtain ⟨dQ,iX,au⟩:=hc
     obtain ⟨i,z,ej,_,bh,_⟩:=kJ au
     cases hv with
     | eu hd=>rw[ab] at hd;cases hd
     | eG hd=>rw[ab] at hd;cases hd
     | dO hd hb=>
      rw[ab] at hd
      cases hd
      obtain ⟨a,u,h1,U,h3,h4⟩:=rk (n:=0) (isS:=true) (cap:=0) (cg _) je ib nJ oT h9
      obtain rfl:=aR h4
      obtain rfl:u=0:=by omega
      obtain rfl:a=0:=by omega
      exact .same S (EY hu ej h3) (.ga ab hb)
     | @whole _ _ aL nw b cap hd hb AO cp hm=>
      have eQ:=hd
      rw[ab] at hd
      cases hd
      obtain ⟨a,u,h1,U,h3,h4⟩:=rk (isS:=true) (cap:=cap) cp je ib nJ oT h9
      obtain rfl:=aR h4
      obtain ⟨o',jz,db⟩:=JO (b:=b) (o:=0) hu ej (by omega) h3
      have gO:e=e':=dQ
      exact .same S db (.sub eQ hb (by omega) (by omega) (fun h=>by rw[jz h,bh,gO,gY]))
   case sub e' id off len=>
    obtain ⟨l,h⟩:=run_get h
    cases ab:hp id with
    | none=>rw[ab] at h;cases h
    | some blk=>
     rw[ab] at h
     cases blk<;>simp only at h<;>first|(cases h;done)|skip
     rename_i dM es fz
     obtain ⟨hc,h⟩:=aH h
     simp only[aP,a9] at hc
     obtain ⟨dQ,iX,au⟩:=hc
     obtain ⟨i,z,ej,_,bh,_⟩:=kJ au
     cases hv with
     | gp hd=>rw[ab] at hd;cases hd
     | ga hd hb=>
      have eQ:=hd
      obtain ⟨a,u,h1,U,h3,h4⟩:=rk (isS:=true) (cap:=0) (cg _) je ib nJ oT h
      obtain rfl:=aR h4
      obtain rfl:u=0:=by omega
      obtain rfl:a=0:=by omega
      exact .same S (EY hu ej h3) (.ga eQ hb)
     | @sub _ _ _ _ aL nw b o cap hd hb lh cp ho=>
      have eQ:=hd
      obtain ⟨a,u,h1,U,h3,h4⟩:=rk (isS:=true) (cap:=cap) cp je ib nJ oT h
      obtain rfl:=aR h4
      obtain ⟨o',jz,db⟩:=JO (b:=b) (o:=o) hu ej (by omega) h3
      have gO:e=e':=dQ
      exact .same S db (.sub eQ hb (by omega) (by omega) (fun h=>by rw[jz h,bh,ho (by omega),gO,dF]))
theorem Z7 (S:aF P w I β hp B M w0) {t:TypeId} {v:Value} {x:V} {lo hi mx:Option V} {lov hiv PL:Option Value} {r:R} {rd:List Nat} (hv:ao P w I β hp v x)
  (je:lo=none→lov=none) (ib: ∀y,hi=some y→∃u,hiv=some u∧ao P w I β hp u y) (oN: ∀y,mx=some y→∃u,PL=some u∧ao P w I β hp u y)
  (h:(IQ P t x lo hi mx).run C hp=some (r,rd)):di P ((Instr.sliceAt t v lov hiv PL).run P w) w I β hp B M w0 r:=by
 unfold IQ at h
 cases hu:P.underlying t with
 | none=>rw[hu] at h;cases h
 | some d=>
  rw[hu] at h
  cases d<;>(try (cases h;done))
  rename_i e
  cases lo<;>(try (cases h;done))
  cases hi<;>(try (cases h;done))
  rename_i xl
  cases xl<;>(try (cases h;done))
  cases mx<;>(try (cases h;done))
  rename_i Z8
  cases Z8<;>(try (cases h;done))
  obtain ⟨hc,h9⟩:=aH h
  clear h
  have h:=h9
  clear h9
  simp only[aP,eg] at hc
  obtain ⟨rfl,rfl,au⟩:=hc
  obtain ⟨i,z,ej,_,_,_⟩:=kJ au
  obtain ⟨u1,rfl,k1⟩:=ib _ rfl
  obtain ⟨u2,rfl,k2⟩:=oN _ rfl
  rw[k1.dZ,k2.dZ,je rfl]
  have run: ∀{k k2:IntKind} (a:Option Addr) (len cap:Nat),(Instr.sliceAt t (.slice a len cap) none (some (.int k 0)) (some (.int k2 0))).run P w= .ok (.slice a 0 0) w:=by
   intro k k2 a len cap
   cases a<;>simp[Instr.sliceAt,Instr.slice,Instr.sliceBounds,Instr.sliceBound,asIntOf,run_underlying hu,sizeOf,typeInfo,ej]
  cases x<;>(try (cases h;done))
  ·simp only at h
   obtain rfl:=aR h
   cases hv with
   | list hp'=>cases hp'<;>exact .same S (run _ _ _) .nilS
  ·simp only at h
   obtain rfl:=aR h
   cases hv
   exact .same S (run _ _ _) .nilS
  ·rename_i e' id
   simp only at h
   obtain ⟨l,h⟩:=run_get h
   cases ab:hp id with
   | none=>rw[ab] at h;cases h
   | some blk=>
    rw[ab] at h
    cases blk<;>simp only at h<;>first|(cases h;done)|skip
    all_goals
     obtain rfl:=aR h
     cases hv with
     | eu hd=>rw[ab] at hd;cases hd
     | eG hd=>exact .same S (run _ _ _) .nilS
     | dO hd hb=>exact .same S (run _ _ _) .nilS
     | whole hd=>exact .same S (run _ _ _) .nilS
theorem Z9 (S:aF P w I β hp B M w0) {t:TypeId} {v ix:Value} {x y:V} {r:R} {rd:List Nat} (hv:ao P w I β hp v x) (hy:ao P w I β hp ix y)
  (h:(IU P t x y).run C hp=some (r,rd)):di P ((Instr.indexAt t v ix).run P w) w I β hp B M w0 r:=by
 unfold IU at h
 cases hu:P.underlying t with
 | none=>rw[hu] at h;cases h
 | some d=>
  rw[hu] at h
  cases y<;>(try (cases d<;>cases h;done))
  rename_i k i
  rw[hy.dZ]
  cases d<;>simp only at h<;>first|(cases h;done)|skip
  case slice e=>
   have run: ∀(b o len cap:Nat) (ie:TypeInfo),P.info? e=some ie→0≤i→i<(len:Int)→(Instr.indexAt t (.slice (some ⟨b,o,none⟩) len cap) (.int k i)).run P w= .ok (.pointer (some ⟨b,o+i.toNat*ie.size,none⟩)) w:=by
    intro b o len cap ie jT h0 h1
    simp[Instr.indexAt,asIntOf,run_underlying hu,h0,h1,sizeOf,typeInfo,jT,nE]
   cases x<;>simp only at h<;>first|(cases h;done)|skip
   case list e' es=>
    obtain ⟨hc,h⟩:=aH h
    simp only[aP,a9] at hc
    obtain ⟨dQ,au⟩:=hc
    have gO:e=e':=dQ
    obtain ⟨ie,z,ej,_,bh,_⟩:=kJ au
    obtain ⟨el,c8,h⟩:=lV h
    obtain rfl:=aR h
    unfold idx at c8
    cases h0:decide (0≤i) with
    | false=>rw[h0] at c8;cases c8
    | true=>
     rw[h0] at c8
     simp only[cond_true] at c8
     have xm:0≤i:=by simpa using h0
     have aO:i.toNat<es.length:=(bD.1 c8).1
     cases hv with
     | list hp'=>
      cases hp' with
      | nil=>simp at aO
      | emp=>simp at aO
      | @list b o len cap _ g hl cp hI gq hx=>
       rw[←gO] at gq hx hI
       refine .same S (run b o len cap ie ej xm (by omega)) ?_
       have bS:=w7 (P:=P) e el
       have JP:=fN au
       have PM:(bif bP P e then flat P e else [e])=bc P e:=rfl
       rw[PM]
       refine .pref (by rw[bS]) (fun _=>hI ?_) (fun j t' y' ht Ax=> ?_)
       ·have:=Nat.mul_pos (show 0<len by omega) (kF au).2
        exact this
       ·obtain ⟨t2,a1,a2⟩:=Jk Ax
        rw[ht] at a1;cases a1
        have hj:j<P.cellsOf e:=by rw[←JP];exact (bD.1 ht).1
        have gu:=hx i.toNat j el t' c8 ht
        refine ⟨g i.toNat j,?_,?_⟩
        ·rw[bh,oz];exact gq i.toNat j (by omega) hj
        ·rw[a2,gu.sN];exact gu
   case whole e' id=>
    obtain ⟨l,h⟩:=run_get h
    cases ab:hp id with
    | none=>rw[ab] at h;cases h
    | some blk=>
     rw[ab] at h
     cases blk<;>simp only at h<;>first|(cases h;done)|skip
     rename_i dM es fz
     obtain ⟨hc,h⟩:=aH h
     simp only[aP,a9] at hc
     obtain ⟨dQ,iX⟩:=hc
     obtain ⟨eR,h⟩:=aH h
     simp only[aP,eg] at eR
     obtain rfl:=aR h
     cases hv with
     | eu hd=>rw[ab] at hd;cases hd
     | eG hd=>rw[ab] at hd;cases hd
     | dO hd hb=>rw[ab] at hd;cases hd;simp at eR;omega
     | @whole _ _ aL nw b cap hd hb AO cp hm=>
      have eQ:=hd
      rw[ab] at hd
      cases hd
      have hr:=S.h.rel id _ ab
      cases hr with
      | dP aB=>rw[aB] at hb;cases hb
      | arr au aB hh hs hf ew hx=>
       have gO:e=e':=dQ
       obtain ⟨ie,z,ej,_,bh,_⟩:=kJ au
       rw[←gO] at ej bh
       refine .same S (run b 0 _ cap ie ej eR.1 eR.2) ?_
       have:=ao.ptr (P:=P) (w:=w) (I:=I) (i:=i.toNat) (c:=0) eQ (by simp) hb
       simp only[an.sz] at this
       rw[gY,bh,gO]
       simpa using this
     rename_i dM es ar
     obtain ⟨hc,h⟩:=aH h
     simp only[aP,a9] at hc
     obtain ⟨dQ,iX⟩:=hc
     obtain ⟨eR,h⟩:=aH h
     simp only[aP,eg] at eR
     obtain rfl:=aR h
     cases hv with
     | eu hd=>rw[ab] at hd;cases hd
     | dO hd hb=>rw[ab] at hd;cases hd
     | whole hd=>rw[ab] at hd;cases hd
     | @eG _ _ aL vers' b cap hd hb AO cp hm=>
      have eQ:=hd
      rw[ab] at hd
      cases hd
      have au:=(S.rows eQ hb .here).ok
      have gO:e=e':=dQ
      obtain ⟨ie,z,ej,_,bh,_⟩:=kJ au
      rw[←gO] at ej bh
      refine .same S (run b 0 _ cap ie ej eR.1 eR.2) ?_
      have:=ao.ptr (P:=P) (w:=w) (I:=I) (i:=i.toNat) (c:=0) eQ (by simp) hb
      simp only[an.sz] at this
      rw[gY,bh,gO]
      simpa using this
   case row e' id ver path=>
    obtain ⟨e0,es,ar,l,ab,h1,U,h3,h⟩:=oM h
    obtain ⟨e2,v',k1,k2,h⟩:=wX h
    obtain ⟨hc,h⟩:=aH h
    simp only[aP,a9] at hc
    obtain ⟨dQ,iX⟩:=hc
    obtain ⟨eR,h⟩:=aH h
    simp only[aP,eg] at eR
    obtain rfl:=aR h
    cases hv with
    | jN hd hp'=>rw[ab] at hd;cases hd;exact absurd hp' (wY h1 U h3)
    | @row v _ e0 t1 _ ver b i1 c1 q es l1 ar hd hb hq Jx ht gq=>
     have aaa:=gq
     obtain ⟨b',e3,aL,Ca,T,f,x,m1,m2,m3,m4,m5,m6⟩:=gq
     have ja:=hd
     rw[ab] at ja
     cases ja
     obtain ⟨n1,n2⟩:=Er m1 m3 m4 ht m5
     rw[n2] at k2
     cases k2
     simp only[V.toList] at eR
     have hR:=S.rows hd hb m1
     obtain ⟨C1,c2,c3,c4⟩:=hR.cells
     rw[m2] at c2
     cases c2
     have hj:c1<P.cellsOf e3:=by
      rw[←fN hR.ok];exact (bD.1 m4).1
     obtain ⟨v2,d1,d2⟩:=c4 _ _ _ _ m3 m4 hj
     rw[m6] at d1
     cases d1
     rw[m5] at d2
     cases d2 with
     | fZ a _=>unfold fW at a;rw[ht] at a;cases a
     | emp _ _=>simp at eR;omega
     | @row _ _ b1 cap _ hl _ _ _=>
      have au:=(S.rows hd hb (m1.snoc m2 m3 m4 ht m5 hl m6)).ok
      have gO:e=e':=dQ
      obtain ⟨ie,z,ej,_,bh,_⟩:=kJ au
      rw[←gO] at ej bh
      refine .same S (run b1 0 _ cap ie ej eR.1 eR.2) ?_
      have:=ao.cR (P:=P) (I:=I) (i:=i.toNat) (c:=0) hd hb hq Jx ht hl aaa
      rw[gY,bh,gO]
      simpa using this
   case sub e' id off len=>
    obtain ⟨l,h⟩:=run_get h
    cases ab:hp id with
    | none=>rw[ab] at h;cases h
    | some blk=>
     rw[ab] at h
     cases blk<;>simp only at h<;>first|(cases h;done)|skip
     rename_i dM es fz
     obtain ⟨hc,h⟩:=aH h
     simp only[aP,a9] at hc
     obtain ⟨dQ,iX⟩:=hc
     obtain ⟨eR,h⟩:=aH h
     simp only[aP,eg] at eR
     obtain rfl:=aR h
     cases hv with
     | gp hd=>rw[ab] at hd;cases hd
     | ga hd hb=>simp at eR;omega
     | @sub _ _ _ _ aL nw b o cap hd hb lh cp ho=>
      have eQ:=hd
      rw[ab] at hd
      cases hd
      have hr:=S.h.rel id _ ab
      cases hr with
      | dP aB=>rw[aB] at hb;cases hb
      | arr au aB hh hs hf ew hx=>
       have gO:e=e':=dQ
       obtain ⟨ie,z,ej,_,bh,_⟩:=kJ au
       rw[←gO] at ej bh
       refine .same S (run b o _ cap ie ej eR.1 eR.2) ?_
       have:=ao.ptr (P:=P) (w:=w) (I:=I) (i:=off+i.toNat) (c:=0) eQ (by simp) hb
       simp only[an.sz] at this
       rw[ho (by omega),bh,gO,←dF]
       simpa using this
  case array n e=>
   have run: ∀(b o:Nat) (ie:TypeInfo),P.info? e=some ie→0≤i→i<(n:Int)→(Instr.indexAt t (.pointer (some ⟨b,o,none⟩)) (.int k i)).run P w= .ok (.pointer (some ⟨b,o+i.toNat*ie.size,none⟩)) w:=by
    intro b o ie jT h0 h1
    simp[Instr.indexAt,asIntOf,run_underlying hu,h0,h1,sizeOf,typeInfo,jT,nE,Instr.sureAddr]
   cases x<;>simp only at h<;>first|(cases h;done)|skip
   case ptr id j c=>
    obtain ⟨⟨blk,ab,hd⟩,l,h⟩:=w5 h
    obtain ⟨eR,h⟩:=aH h
    simp only[aP,eg] at eR
    obtain rfl:=aR h
    obtain ⟨b,hb,rfl⟩:=hv.hU ab hd
    obtain ⟨d,uK⟩:=AA eR.1
    obtain ⟨ie,jT⟩:=w6 uK
    have bh:ie.size=P.cellsOf e:=by simp[Program.cellsOf,jT]
    refine .same S (run b _ ie jT eR.2.1 eR.2.2) ?_
    rw[bh,oz]
    exact .ptr ab hd hb
   case pref ts cs=>
    obtain ⟨eR,h⟩:=aH h
    simp only[aP,eg] at eR
    obtain rfl:=aR h
    obtain ⟨b,o,rfl,h1,U,h3⟩:=hv.EB
    obtain ⟨d,uK⟩:=AA eR.1
    obtain ⟨ie,jT⟩:=w6 uK
    have bh:ie.size=P.cellsOf e:=by simp[Program.cellsOf,jT]
    refine .same S (run b _ ie jT eR.2.1 eR.2.2) ?_
    rw[bh]
    exact ao.O3 h1 U h3
end
end Go.AM
namespace Go.AM
open Go.Maps
section
variable {P:Program} {w w':World} {I I':Nat→Prop} {β β':Nat→Option Nat} {hp hp':Nat→Option an} {C:ae} {B:Nat} {M:Nat→Prop} {w0:Start}
theorem aab (S:aF P w I β hp B M w0) {nb:Nat} {t:TypeId} {v:Value} {x:V} {lo hi:Option V} {lov hiv:Option Value} {r:R} {rd:List Nat} (hv:ao P w I β hp v x)
  (ib: ∀x,hi=some x→∃v,hiv=some v∧ao P w I β hp v x) (nJ:lo=none→lov=none)
  (h:(Eb P nb t x lo hi).run C hp=some (r,rd)):di P ((Instr.sliceAt t v lov hiv none).run P w) w I β hp B M w0 r:=by
 unfold Eb at h
 split at h
 case h_2=>cases h
 rename_i e e' id k hh hu
 obtain ⟨l,h1⟩:=run_get h
 cases ab:hp id with
 | none=>rw[ab] at h1;cases h1
 | some blk=>
  rw[ab] at h1
  cases blk<;>simp only at h1<;>first|(cases h1;done)|skip
  rename_i e2 es fz
  cases fz with
  | true=>cases h1
  | false=>
  obtain ⟨hc,U⟩:=aH h1
  simp only[aP,a9,eg] at hc
  obtain ⟨rfl,rfl,au,PN,PO⟩:=hc
  obtain ⟨hn,rfl⟩:=nG U
  have je:=nJ rfl
  subst je
  obtain ⟨JQ,rfl,hhv⟩:=ib _ rfl
  obtain rfl:=hhv.dZ
  obtain ⟨i,z,ej,_,bh,_⟩:=kJ au
  have bH:nb≠id:=fun e=>by rw[e,ab] at hn;cases hn
  obtain ⟨k1,k2⟩:=Ew S ab
  have kK:aK hp id (some an.dead) nb=none:=by rw[ey _ _ bH];exact hn
  have PQ: ∀cap,es.length≤cap→(Instr.sliceBounds true es.length cap none (some (.int k hh)) none).run P w= .ok (0,hh.toNat,cap) w:=by
   intro cap cp
   have hb:(sC es.length none (some (.int k hh)) fun l u=> .aC (decide (l=0∧u=hh.toNat)) (.ret (⟨.undef,[]⟩:R))).run C hp=some (⟨.undef,[]⟩,[]):=by
    simp[sC,Rd.run,PN,PO]
   obtain ⟨l,u,b1,b2,b3,b4⟩:=rk (P:=P) (w:=w) (I:=I) (β:=β) (hp:=hp) (n:=es.length) (isS:=true) (cap:=cap) (lov:=none) (hiv:=some (.int k hh)) cp (by simp) (fun x hx=>by cases hx;exact ⟨_,rfl,.int⟩) (fun _=>rfl) (by simp) hb
   obtain ⟨b5,_⟩:=aH b4
   simp only[eg] at b5
   obtain ⟨rfl,rfl⟩:=b5
   exact b3
  cases hv with
  | eu hd=>rw[ab] at hd;cases hd
  | eG hd=>rw[ab] at hd;cases hd
  | @dO _ _ _ a0 hd hb=>
   rw[ab] at hd
   cases hd
   have Jq:hh=0:=by simpa using Int.le_antisymm PO PN
   subst Jq
   have aB:=PQ 0 (cg _)
   obtain ⟨a1,a2⟩:=Ev k2 e kK
   refine ⟨_,w,I,_,EY hu ej aB,k1.trans a1,a2,.dO (da _ _ _) (da _ _ _)⟩
  | @whole _ _ aL nw b cap hd hb AO cp hm=>
   have eQ:=hd
   rw[ab] at hd
   cases hd
   have hr:=S.h.rel id _ ab
   cases hr with
   | dP aB=>rw[aB] at hb;cases hb
   | @arr _ _ _ b' Ca _ aB EZ pY hf ew mL=>
    rw[hb] at aB
    cases aB
    have jA:(es.take hh.toNat).length=hh.toNat:=by rw[ff];omega
    have db:(Instr.sliceAt t (.slice (some ⟨b,0,none⟩) es.length cap) none (some (.int k hh)) none).run P w= .ok (.slice (some ⟨b,0,none⟩) hh.toNat cap) w:=by
     have aB:=PQ cap cp
     by_cases PR:cap=0
     ·subst PR
      simp[Instr.sliceAt,Instr.slice,run_underlying hu,aB,sizeOf,typeInfo,ej]
     ·simp[Instr.sliceAt,Instr.slice,run_underlying hu,aB,sizeOf,typeInfo,ej,PR,nE]
    have qV: ∀aD blk',aK hp id (some an.dead) aD=some blk'→¬bE P w (β aD) blk' b:=by
     intro aD blk' h1 U
     by_cases jd:aD=id
     ·subst jd;rw[da] at h1;cases h1;exact U.alive rfl
     ·rw[ey _ _ jd] at h1
      exact jd (S.h.inj aD id blk' _ b h1 ab U (.root (by simp) hb))
    obtain ⟨a1,a2⟩:=Aw k2 (blk:= .arr e (es.take hh.toNat) false) (w':=w) kK qV (ew rfl) (fun _ _ _=>rfl) (cg _) ⟨rfl,rfl⟩ (S.h.sJ id _ b ab (by simp) hb)
     (fun b' h=>(dv (h.flat (by simp))).symm) (fun hle=> .arr au rfl EZ (by rw[jA];exact lK (dL _ (by omega)) pY) (fun h=>by cases h) (fun _=>ew rfl) fun i j y t' hy ht hj=>by
      have rj:=(bD.1 hy).1
      rw[jA] at rj
      rw[fe rj] at hy
      obtain ⟨v,hv,hp⟩:=mL i j y t' hy ht hj
      exact ⟨v,hv,hp.mono hle.dC hle.cy⟩)
    refine ⟨_,w,I,_,db,k1.trans a1,a2,?_⟩
    have:=ao.whole (P:=P) (w:=w) (I:=I) (β:=aK β nb (some b)) (hp:=aK (aK hp id (some .dead)) nb (some (.arr e (es.take hh.toNat) false))) (cap:=cap) (da _ _ _) (da _ _ _) AO (by rw[jA];omega) hm
    rw[jA] at this
    exact this
theorem rm {t:TypeId} {x:V} (h:pJ P t x=true):
  (∃q n,P.underlying t=some (.int q)∧x= .int q n∧IK q n=true)∨(∃b,P.underlying t=some .bool∧x= .bool b)∨(∃s,P.underlying t=some .string∧x= .str s∧s.length≤maxLen):=by
 unfold pJ at h
 split at h
 ·rename_i q q' n hu
  simp only[aP,eg] at h
  obtain ⟨rfl,h⟩:=h
  exact .inl ⟨_,_,hu,rfl,h⟩
 ·rename_i b hu
  exact .inr (.inl ⟨_,hu,rfl⟩)
 ·rename_i s hu
  exact .inr (.inr ⟨_,hu,rfl,by simpa using h⟩)
 ·cases h
theorem size_data (s:ByteArray):s.data.toList.length=s.size:=by simp
theorem aac {q:IntKind} {n:Int} (h:IK q n=true):(Lit.int q n).wf=true:=h
theorem PS {t:TypeId} {x:V} {v:Value} (h:pJ P t x=true) (hv:jy v x): ∃l,mapKey P t v=some l∧∀d,P.keyLits (d+1) t [v]=some [l]:=by
 rcases rm h with ⟨q,n,hu,rfl,hn⟩|⟨b,hu,rfl⟩|⟨s,hu,rfl,hs⟩
 ·obtain rfl:v= .int q n:=hv
  have hw:=aac hn
  exact ⟨.int q n,by simp[mapKey,hu,hw],fun d=>by simp[Program.keyLits,hu,hw]⟩
 ·obtain rfl:v= .bool b:=hv
  exact ⟨.bool b,by simp[mapKey,hu],fun d=>by simp[Program.keyLits,hu]⟩
 ·obtain ⟨s',rfl,JR⟩:=hv
  have:s'.size≤maxLen:=by rw[←size_data,JR];exact hs
  exact ⟨.string s'.data.toList,by simp[mapKey,hu,this],fun d=>by simp[Program.keyLits,hu,this]⟩
theorem JS {t:TypeId}: ∀{xs:List V} {j:Nat} {x:V},qG P t xs=true→xs[j]? =some x→pJ P t x=true
 | [],j,x,_,h=>by simp at h
 | y::ys,0,x,h,hx=>by
  simp only[qG,aP] at h
  simp at hx;subst hx;exact h.1
 | y::ys,j+1,x,h,hx=>by
  simp only[qG,aP] at h
  exact JS (j:=j) h.2 (by simpa using hx)
theorem mapM_some {α β:Type} {f:α→Option β}: ∀{l:List α},(∀a∈l,∃b,f a=some b)→∃bs,l.mapM f=some bs
 | [],_=>⟨[],rfl⟩
 | a::l,h=>by
  obtain ⟨b,hb⟩:=h a (sm ..)
  obtain ⟨bs,hO⟩:=mapM_some (l:=l) fun x hx=>h x (lM _ hx)
  exact ⟨b::bs,by simp[List.mapM_cons,hb,hO]⟩
inductive JT (P:Program) (t:TypeId) (x:V):Prop
 | one:pJ P t x=true→x.cells=[x]→JT P t x
 | arr {n:Nat} {e:TypeId} {xs:List V}:x= .agg xs→WideMaps.ArrKey P t e n→xs.length=n→0<P.types.size→qG P e xs=true→JT P t x
theorem xn {t:TypeId} {x:V} (h:nu P t x=true):JT P t x:=by
 unfold nu at h
 split at h
 ·rename_i n e xs hu
  simp only[aP,a9] at h
  rw[ko] at h
  exact .arr rfl ⟨hu,h.2.2.2.1,h.2.1,h.2.2.1⟩ h.1 h.2.2.2.2.1 h.2.2.2.2.2
 ·refine .one h ?_
  rcases rm h with ⟨q,n,hu,rfl,hn⟩|⟨b,hu,rfl⟩|⟨s,hu,rfl,hs⟩<;>rfl
theorem qO.one {x:V} {v:Value} (h:qO v x) (hx:x.cells=[x]):jy v x:=by
 cases x<;>first|exact h|skip
 simp only[V.cells] at hx
 rename_i cs
 have:=congrArg List.length hx
 cases cs with
 | nil=>simp at hx
 | cons c cs=>
  simp only[List.cons.injEq] at hx
  have:=congrArg SizeOf.sizeOf hx.1
  simp at this
  omega
theorem E0 {t:TypeId} {x:V} {v:Value} (h:nu P t x=true) (hv:qO v x): ∃l,Go.keyOf P t v=some l:=by
 cases xn h with
 | one h1 hx=>
  obtain ⟨l,hl,_⟩:=PS h1 (hv.one hx)
  refine ⟨l,?_⟩
  rcases rm h1 with ⟨q,n,hu,_⟩|⟨b,hu,_⟩|⟨s,hu,_⟩<;>simp only[Go.keyOf,hu,hl]
 | @arr n e xs hx A hl hp0 hf=>
  subst hx
  obtain ⟨cs,rfl,hs,hc⟩:=hv
  obtain ⟨m,hm⟩: ∃m,P.types.size=m+1:=⟨P.types.size-1,by omega⟩
  have hkt:=A.keyType ⟨m,hm⟩
  have hlen:cs.toList.length=P.cellsOf t:=by rw[A.size];simp[hs,hl]
  have hfm:(Value.agg cs).formed P t=true:=by simp[Value.formed,A.hu,A.size,hs,hl]
  have hex: ∀i∈List.range n,∃y,P.keyLits (m+1) e (((Value.agg cs).cells.toList.drop (i*P.cellsOf e)).take (P.cellsOf e))=some y:=by
   intro i hi
   have hi:=List.mem_range.1 hi
   rw[A.one]
   have gx:i<cs.size:=by omega
   have bM:i<xs.length:=by omega
   obtain ⟨l,_,U⟩:=PS (JS hf (bG bM)) (hc i cs[i] xs[i] (k9 gx) (bG bM))
   have e1:((Value.agg cs).cells.toList.drop (i*1)).take 1=[cs[i]]:=by
    show (cs.toList.drop (i*1)).take 1=_
    rw[np,List.drop_eq_getElem_cons (by simpa using gx)]
    simp
   rw[e1]
   exact ⟨_,U m⟩
  obtain ⟨bs,hO⟩:=mapM_some hex
  refine ⟨.string (keyBytes bs.flatten),?_⟩
  have aad:(Value.agg cs).cells.toList.length=P.cellsOf t:=hlen
  unfold Go.keyOf
  rw[A.hu]
  simp only[hkt,hfm,Bool.and_self,cW]
  unfold Program.keyLits
  rw[A.hu,hm]
  simp only[aad,cW,hO,Option.map_some]
theorem JU {t:TypeId} {x:V} (h:nu P t x=true):Keyed P t:=by
 cases xn h with
 | one h1 hx=>
  rcases rm h1 with ⟨q,n,hu,_⟩|⟨b,hu,_⟩|⟨s,hu,_⟩
  ·exact int_keyed hu
  ·exact bool_keyed hu
  ·exact string_keyed hu
 | arr hx A hl _ hf=>exact Keyed.of_law A.law
theorem PT {t:TypeId} {x y:V} {v u:Value} (h1:pJ P t x=true) (U:pJ P t y=true) (hv:jy v x) (hu:jy u y):wI x y=true↔v=u:=by
 rcases rm h1 with ⟨q,n,mM,rfl,_⟩|⟨b,mM,rfl⟩|⟨s,mM,rfl,_⟩<;>
 rcases rm U with ⟨q',n',mN,rfl,_⟩|⟨b',mN,rfl⟩|⟨s',mN,rfl,_⟩<;>
  (rw[mM] at mN;cases mN)
 ·obtain rfl:v= .int q n:=hv
  obtain rfl:u= .int q n':=hu
  simp[wI]
 ·obtain rfl:v= .bool b:=hv
  obtain rfl:u= .bool b':=hu
  simp[wI]
 ·obtain ⟨s1,rfl,e1⟩:=hv
  obtain ⟨s2,rfl,e2⟩:=hu
  simp only[wI,sn,Value.string.injEq,←e1,←e2]
  constructor
  ·intro h
   have:=Array.toList_inj.1 h
   cases s1;cases s2;simp_all
  ·rintro rfl;rfl
theorem PU {t:TypeId}: ∀{xs ys:List V} {vs us:List Value},qG P t xs=true→qG P t ys=true→xs.length=ys.length→vs.length=xs.length→us.length=ys.length→
  (∀(j:Nat) v x,vs[j]? =some v→xs[j]? =some x→jy v x)→(∀(j:Nat) v x,us[j]? =some v→ys[j]? =some x→jy v x)→(uc xs ys=true↔vs=us)
 | [],[],vs,us,_,_,_,h1,U,_,_=>by
  have e1:=lL (l:=vs) (by simpa using h1)
  have e2:=lL (l:=us) (by simpa using U)
  simp[uc,e1,e2]
 | [],_::_,_,_,_,_,h,_,_,_,_=>by simp at h
 | _::_,[],_,_,_,_,h,_,_,_,_=>by simp at h
 | x::xs,y::ys,[],us,_,_,_,h,_,_,_=>by simp at h
 | x::xs,y::ys,v::vs,[],_,_,_,_,h,_,_=>by simp at h
 | x::xs,y::ys,v::vs,u::us,f1,f2,h,h1,U,r1,r2=>by
  simp only[qG,aP] at f1 f2
  have a:=PT f1.1 f2.1 (r1 0 v x rfl rfl) (r2 0 u y rfl rfl)
  have b:=PU (vs:=vs) (us:=us) f1.2 f2.2 (by simpa using h) (by simpa using h1) (by simpa using U) (fun j v x hj hx=>r1 (j+1) v x (by simpa using hj) (by simpa using hx)) (fun j v x hj hx=>r2 (j+1) v x (by simpa using hj) (by simpa using hx))
  simp only[uc,aP,a,b,List.cons.injEq]
theorem JV {t:TypeId} {x y:V} {v u:Value} (h1:nu P t x=true) (U:nu P t y=true) (hv:qO v x) (hu:qO u y):mC x y=true↔v=u:=by
 unfold mC
 cases xn h1 with
 | one f1 c1=>
  cases xn U with
  | one f2 c2=>
   rw[c1,c2]
   simp only[uc,Bool.and_true]
   exact PT f1 f2 (hv.one c1) (hu.one c2)
  | arr hy A hl _ hf=>
   rcases rm f1 with ⟨q,n,mM,_⟩|⟨b,mM,_⟩|⟨s,mM,_⟩<;>(rw[A.hu] at mM;cases mM)
 | arr hx A hl _ hf=>
  cases xn U with
  | one f2 c2=>
   rcases rm f2 with ⟨q,n,mM,_⟩|⟨b,mM,_⟩|⟨s,mM,_⟩<;>(rw[A.hu] at mM;cases mM)
  | arr hy A2 jK _ AQ=>
   have gO:=A.hu.symm.trans A2.hu
   cases gO
   subst hx
   subst hy
   obtain ⟨cs,rfl,s1,r1⟩:=hv
   obtain ⟨ds,rfl,s2,r2⟩:=hu
   have:=PU (vs:=cs.toList) (us:=ds.toList) hf AQ (by omega) (by simpa using s1) (by simpa using s2) (fun j v x hj hx=>r1 j v x (by simpa using hj) hx) (fun j v x hj hx=>r2 j v x (by simpa using hj) hx)
   simp only[V.cells,this,Value.agg.injEq]
   exact Array.toList_inj
theorem PV {k:V}: ∀{es:List V},(∀x∈es,mC k (x.comp 0)=false)→lR k es=false∧(∀z,mD k es z=z)∧∀v,iR k v es=es++[.bq [k,v]]
 | [],_=>⟨rfl,fun _=>rfl,fun _=>rfl⟩
 | e::es,h=>by
  have h0:=h e (sm ..)
  obtain ⟨a,b,c⟩:=PV (k:=k) (es:=es) fun x hx=>h x (lM _ hx)
  exact ⟨by simp[lR,h0,a],fun z=>by simp[mD,h0,b],fun v=>by simp[iR,h0,c]⟩
theorem PW {k:V}: ∀{es:List V} {j:Nat} {k' y:V},es[j]? =some (.bq [k',y])→mC k k'=true→(∀i x,i<j→es[i]? =some x→mC k (x.comp 0)=false)→
  lR k es=true∧(∀z,mD k es z=y)∧∀v,iR k v es=es.set j (.bq [k',v])
 | [],j,k',y,h,_,_=>by simp at h
 | e::es,0,k',y,h,he,_=>by
  simp at h
  subst h
  exact ⟨by simp[lR,V.comp,V.nth,he],fun z=>by simp[mD,V.comp,V.nth,he],fun v=>by simp[iR,V.comp,V.nth,he]⟩
 | e::es,j+1,k',y,h,he,aO=>by
  have h0:=aO 0 e (by omega) rfl
  obtain ⟨a,b,c⟩:=PW (k:=k) (es:=es) (j:=j) (by simpa using h) he fun i x hi hx=>aO (i+1) x (by omega) (by simpa using hx)
  exact ⟨by simp[lR,h0,a],fun z=>by simp[mD,h0,b],fun v=>by simp[iR,h0,c]⟩
theorem PX {kt vt:TypeId} {E:Array MapEntry} {es:List V} {k:V} {kv:Value} (hs:E.size=es.length) (hx: ∀(j:Nat) (e:MapEntry) (x:V),E[j]? =some e→es[j]? =some x→El P kt vt e x)
  (hn:E.toList.Pairwise (fun a b=>a.key≠b.key)) (hk:nu P kt k=true) (E1:qO kv k) (w:World):
  ((Instr.findKey kt kv E.toList).run P w= .ok none w∧(∀e∈E.toList,e.key≠kv)∧lR k es=false∧(∀z,mD k es z=z)∧∀v,iR k v es=es++[.bq [k,v]])∨
  ∃j e k' y,(Instr.findKey kt kv E.toList).run P w= .ok (some (j,e.val)) w∧E[j]? =some e∧e.key=kv∧es[j]? =some (.bq [k',y])∧nu P kt k'=true∧qO kv k'∧e6 P vt y=true∧jy e.val y∧
   lR k es=true∧(∀z,mD k es z=y)∧∀v,iR k v es=es.set j (.bq [k',v]):=by
 have K:=JU hk
 obtain ⟨l,hl⟩:=E0 hk E1
 have PY: ∀(j:Nat) x,es[j]? =some x→∃e,E[j]? =some e∧El P kt vt e x:=by
  intro j x hj
  have aO:j<E.size:=by rw[hs];exact (bD.1 hj).1
  exact ⟨E[j],k9 aO,hx j _ x (k9 aO) hj⟩
 have keys: ∀e∈E.toList,∃l,Go.keyOf P kt e.key=some l:=by
  intro e he
  obtain ⟨j,hj⟩:=sj he
  have gM:E[j]? =some e:=by simpa using hj
  have aO:j<es.length:=by rw[←hs];exact (iv.1 gM).1
  obtain ⟨k',y,_,h1,U,_⟩:=hx j e es[j] gM (bG aO)
  exact E0 h1 U
 rcases K.find w hl E.toList keys with ⟨h1,U⟩|⟨j,e,h1,U,h3⟩
 ·left
  refine ⟨h1,U,PV fun x hxm=> ?_⟩
  obtain ⟨j,hj⟩:=sj hxm
  obtain ⟨e,he,k',y,rfl,f1,f2,_⟩:=PY j x hj
  cases hq:mC k (V.comp (.bq [k',y]) 0) with
  | false=>rfl
  | true=>
   have:=(JV hk f1 E1 f2).1 hq
   exact absurd this.symm (U e (jJ (by simpa using he)))
 ·right
  have hE:E[j]? =some e:=by simpa using U
  have aO:j<es.length:=by rw[←hs];exact (iv.1 hE).1
  obtain ⟨k',y,hy,f1,f2,f3,f4⟩:=hx j e es[j] hE (bG aO)
  have hj:=bG aO
  rw[hy] at hj
  rw[h3] at f2
  refine ⟨j,e,k',y,h1,hE,h3,hj,f1,f2,f3,f4,PW hj ((JV hk f1 E1 f2).2 rfl) fun i x hi gJ=> ?_⟩
  obtain ⟨e',hY,k2,y2,rfl,g1,g2,_⟩:=PY i x gJ
  cases hq:mC k (V.comp (.bq [k2,y2]) 0) with
  | false=>rfl
  | true=>
   have:=(JV hk g1 E1 g2).1 hq
   have i1:i<E.toList.length:=by have:=(bD.1 gJ).1;simp;omega
   have i2:j<E.toList.length:=by simp;omega
   have:=DR.1 hn i j i1 i2 hi
   have a1:E.toList[i]=e':=by
    have:E.toList[i]? =some e':=by simpa using hY
    rw[bG i1] at this;exact dv this
   have a2:E.toList[j]=e:=by
    have:=U
    rw[bG i2] at this;exact dv this
   rw[a1,a2,h3] at this
   exact absurd (by rw[← ‹kv=e'.key›]) this
theorem ao.PZ {v:Value} {x:V} (h:ao P w I β hp v x) {t:TypeId} (hx:pJ P t x=true):jy v x:=by
 rcases rm hx with ⟨q,n,_,rfl,_⟩|⟨b,_,rfl⟩|⟨s,_,rfl,_⟩
 ·exact h.dZ
 ·exact h.kG
 ·exact h.mH
theorem ao.P0 {v:Value} {x:V} (h:ao P w I β hp v x) {t:TypeId} (hx:nu P t x=true):qO v x:=by
 cases xn hx with
 | one f c=>
  have:=h.PZ f
  cases x<;>first|exact this|cases this
 | arr hx A hl _ hf=>
  subst hx
  obtain ⟨cs,rfl,h1,U⟩:=h.ll
  exact ⟨cs,rfl,h1,fun j u y hu hy=>(U j u y hu hy).PZ (JS hf hy)⟩
theorem P1 {vt:TypeId} {y:V} (h:mapVal P vt=true) (ht:e6 P vt y=true):(∃q n,P.underlying vt=some (.int q)∧y= .int q n)∨∃b,P.underlying vt=some .bool∧y= .bool b:=by
 unfold mapVal at h
 unfold e6 at ht
 split at h
 ·rename_i q hu
  rw[hu] at ht
  cases y<;>first|(simp at ht;done)|skip
  simp only[eg] at ht
  subst ht
  exact .inl ⟨_,_,hu,rfl⟩
 ·rename_i hu
  rw[hu] at ht
  cases y<;>first|(simp at ht;done)|skip
  exact .inr ⟨_,hu,rfl⟩
 ·cases h
theorem jy.JW {vt:TypeId} {v:Value} {y:V} (h:mapVal P vt=true) (ht:e6 P vt y=true) (hv:jy v y):ao P w I β hp v y:=by
 rcases P1 h ht with ⟨q,n,_,rfl⟩|⟨b,_,rfl⟩
 ·obtain rfl:v= .int q n:=hv;exact .int
 ·obtain rfl:v= .bool b:=hv;exact .bool
theorem ao.aae {vt:TypeId} {v:Value} {y:V} (h:mapVal P vt=true) (ht:e6 P vt y=true) (hv:ao P w I β hp v y):jy v y:=by
 rcases P1 h ht with ⟨q,n,_,rfl⟩|⟨b,_,rfl⟩
 ·exact hv.dZ
 ·exact hv.kG
theorem aaf {vt:TypeId} {z:V} (h:D6 P vt=some z) (w:World): ∃v,(zeroValue vt).run P w= .ok v w∧jy v z:=by
 unfold D6 at h
 cases hi:P.info? vt with
 | none=>rw[hi] at h;cases h
 | some i=>
  rw[hi] at h
  simp only[Option.bind_some] at h
  cases hz:i.zero with
  | none=>rw[hz] at h;cases h
  | some v=>
   rw[hz] at h
   refine ⟨v,by simp[zeroValue,typeInfo,hi,hz],?_⟩
   cases v<;>simp only at h<;>first|(cases h;done)|skip
   ·cases h;rfl
   ·cases h;rfl
theorem JX {t kt vt:TypeId} (h:lS P t=some (kt,vt)):P.underlying t=some (.map kt vt):=by
 unfold lS at h
 split at h
 ·rename_i k e hu;cases h;exact hu
 ·cases h
theorem JY (S:aF P w I β hp B M w0) {ok:Bool} {v:Value} {x:V} {b:Bool} {r:R} {rd:List Nat} {res:Result Value} (hv:ao P w I β hp v x)
  (hr:res= .ok (if ok then .tuple #[v,.bool b] else v) w) (h:(D7 ok x b).run C hp=some (r,rd)):di P res w I β hp B M w0 r:=by
 unfold D7 at h
 obtain rfl:=aR h
 cases ok with
 | false=>exact .same S hr hv
 | true=>
  refine .same S hr (.bq rfl fun j u y hu hy=> ?_)
  match j,hu,hy with
  | 0,hu,hy=>simp at hu hy;subst hu;subst hy;exact hv
  | 1,hu,hy=>simp at hu hy;subst hu;subst hy;exact .bool
  | j+2,hu,hy=>simp at hy
theorem aag (S:aF P w I β hp B M w0) {t kt vt:TypeId} (ht:lS P t=some (kt,vt)) {m k:Value} {mx kx:V} {ok:Bool} {r:R} {rd:List Nat} (hm:ao P w I β hp m mx) (hk:ao P w I β hp k kx)
  (h:(IL P t mx kx ok).run C hp=some (r,rd)):di P ((Instr.lookup t m k ok).run P w) w I β hp B M w0 r:=by
 unfold IL at h
 rw[ht] at h
 simp only at h
 cases hz:D6 P vt with
 | none=>rw[hz] at h;cases h
 | some z=>
  rw[hz] at h
  obtain ⟨hc,h'⟩:=aH h
  clear h
  have h:=h'
  clear h'
  simp only[aP] at hc
  obtain ⟨kL,AR,E2⟩:=hc
  have hu:=JX ht
  have xo:=hk.P0 kL
  have K:=JU kL
  obtain ⟨l,hl⟩:=E0 kL xo
  obtain ⟨zv,P2,P4⟩:=aaf hz w
  cases mx<;>simp only at h<;>first|(cases h;done)|skip
  ·rename_i t' id
   obtain ⟨l7,h'⟩:=aH h
   clear h
   have h:=h'
   clear h'
   rw[a9] at l7
   subst l7
   obtain ⟨l2,h'⟩:=run_get h
   clear h
   have h:=h'
   clear h'
   cases ab:hp id with
   | none=>rw[ab] at h;cases h
   | some blk=>
    rw[ab] at h
    cases blk<;>simp only at h<;>first|(cases h;done)|skip
    rename_i t2 es
    obtain ⟨l7,h'⟩:=aH h
    clear h
    have h:=h'
    clear h'
    rw[a9] at l7
    subst l7
    cases hm with
    | iE hd=>rw[ab] at hd;cases hd
    | @cG _ _ b aL hd hb=>
     rw[ab] at hd
     cases hd
     have hr:=S.h.rel id _ ab
     cases hr with
     | @map _ P5 P6 _ b' clock E gb aB hh hs hI hx hn=>
      rw[hb] at aB;cases aB
      rw[hu] at gb;cases gb
      rcases PX hs hx hn kL xo w with ⟨h1,_,h3,h4,_⟩|⟨j,e,k',y,h1,_,_,_,_,_,h6,h7,h3,h4,_⟩
      ·rw[h3,h4,Az E2] at h
       refine JY S (jy.JW AR E2 P4) ?_ h
       unfold Instr.lookup
       simp only[Sem.run_bind,run_underlying hu,Result.andThen_ok,Go.MapKept.run_getObj_map hh,Sem.run_pure,K.check w E.isEmpty hl,h1,P2]
      ·rw[h3,h4,Az h6] at h
       refine JY S (jy.JW AR h6 h7) ?_ h
       unfold Instr.lookup
       simp only[Sem.run_bind,run_underlying hu,Result.andThen_ok,Go.MapKept.run_getObj_map hh,Sem.run_pure,K.check w E.isEmpty hl,h1]
  ·rename_i t'
   obtain ⟨l7,h⟩:=aH h
   cases hm
   rw[Az E2] at h
   refine JY S (jy.JW AR E2 P4) ?_ h
   have hf:(Instr.findKey kt k []).run P w= .ok none w:=by
    rcases K.find w hl [] (by simp) with ⟨h1,_⟩|⟨j,e,_,U,_⟩
    ·exact h1
    ·simp at U
   unfold Instr.lookup
   simp[run_underlying hu,K.check w true hl,hf,P2]
theorem aah (S:aF P w I β hp B M w0) {t:TypeId} {nb:Nat} {r:R} {rd:List Nat} (h:(Rd.aC (lS P t).isSome (jv nb (.map t []) (.cG t nb) [])).run C hp=some (r,rd)):
  di P ((Instr.makeMap t none).run P w) w I β hp B M w0 r:=by
 obtain ⟨ht,h⟩:=aH h
 obtain ⟨hn,rfl⟩:=nG h
 obtain ⟨⟨kt,vt⟩,ht⟩:=zO.1 ht
 have hu:=JX ht
 have c6: ¬I w.heap.size:=fun h=>Nat.lt_irrefl _ (S.h.jP _ h)
 have e8:(w.alloc (.map #[] 0)).heap[w.heap.size]? =some (.map #[] 0):=heap_alloc_new w _
 obtain ⟨a1,a2⟩:=Aw S (w':=w.alloc (.map #[] 0)) (blk:= .map t []) (b:=w.heap.size) hn (fun aD blk' h ho=>Nat.lt_irrefl _ (S.h.lt h ho)) c6
  (fun b' _ aO=>heap_alloc_old w _ b' aO) (by simp) ⟨rfl,rfl⟩ (.inr S.size) (fun b' h=>(dv (h.flat (by simp))).symm)
  (fun _=> .map hu rfl e8 rfl c6 (fun j e x he _=>by simp at he) (by simp))
 exact ⟨_,_,_,_,Go.RowKit.run_makeMap t w,a1,a2,.cG (da _ _ _) (da _ _ _)⟩
theorem P7 (S:aF P w I β hp B M w0) {t kt vt:TypeId} (ht:lS P t=some (kt,vt)) {m k v:Value} {mx kx vx:V} {r:R} {rd:List Nat} (hm:ao P w I β hp m mx) (hk:ao P w I β hp k kx) (hv:ao P w I β hp v vx)
  (h:(D8 P t mx kx vx).run C hp=some (r,rd)):pR P ((Instr.mapUpdate t m k v).run P w) w I β hp B M w0 r:=by
 unfold D8 at h
 rw[ht] at h
 obtain ⟨hc,h'⟩:=aH h
 clear h
 have h:=h'
 clear h'
 simp only[aP] at hc
 obtain ⟨kL,AR,uL⟩:=hc
 have hu:=JX ht
 have xo:=hk.P0 kL
 have w9:=ao.aae AR uL hv
 have K:=JU kL
 obtain ⟨l,hl⟩:=E0 kL xo
 cases mx<;>simp only at h<;>first|(cases h;done)|skip
 rename_i t' id
 obtain ⟨l7,h'⟩:=aH h
 clear h
 have h:=h'
 clear h'
 rw[a9] at l7
 subst l7
 obtain ⟨l2,h'⟩:=run_get h
 clear h
 have h:=h'
 clear h'
 cases ab:hp id with
 | none=>rw[ab] at h;cases h
 | some blk=>
  rw[ab] at h
  cases blk<;>simp only at h<;>first|(cases h;done)|skip
  rename_i t2 es
  obtain ⟨l7,h'⟩:=aH h
  clear h
  have h:=h'
  clear h'
  rw[a9] at l7
  subst l7
  obtain rfl:=aR h
  cases hm with
  | iE hd=>rw[ab] at hd;cases hd
  | @cG _ _ b aL hd hb=>
   rw[ab] at hd
   cases hd
   have hr:=S.h.rel id _ ab
   cases hr with
   | @map _ P5 P6 _ b' clock E gb aB hh hs hI hx hn=>
    rw[hb] at aB;cases aB
    rw[hu] at gb;cases gb
    have aO:b<w.heap.size:=(iv.1 hh).1
    have fin: ∀(E':Array MapEntry) (AS:Nat),(Instr.mapUpdate t (.map (some b)) k v).run P w= .ok () {w with heap:=w.heap.setIfInBounds b (.map E' AS)}→E'.size=(iR kx vx es).length→
      (∀(j:Nat) (e:MapEntry) (x:V),E'[j]? =some e→(iR kx vx es)[j]? =some x→El P kt vt e x)→E'.toList.Pairwise (fun a b=>a.key≠b.key)→
      pR P ((Instr.mapUpdate t (.map (some b)) k v).run P w) w I β hp B M w0 ⟨.undef,[(id,.map t (iR kx vx es))]⟩:=by
     intro E' AS db JR cL JZ
     have e8:({w with heap:=w.heap.setIfInBounds b (.map E' AS)}:World).heap[b]? =some (.map E' AS):=by simp[aO]
     obtain ⟨a1,a2⟩:=Ey S (w':={w with heap:=w.heap.setIfInBounds b (.map E' AS)}) (blk':= .map t (iR kx vx es)) ab (by simp) rfl hb hI (by simp)
      (fun b' aB=>by simp[Array.getElem?_setIfInBounds,Ne.symm aB]) (by simp only[bsize,e8,hh]) (by simp) ⟨rfl,rfl⟩ (fun _=> .map hu rfl e8 JR hI cL JZ)
     exact ⟨_,I,β,db,a1,a2,rfl⟩
    rcases PX hs hx hn kL xo w with ⟨h1,U,_,_,h5⟩|⟨j,e,k',y,h1,hE,P8,jB,aai,aaj,_,_,_,_,h5⟩
    ·have e5:=h5 vx
     refine fin (E.push {key:=k,val:=v,born:=clock}) (clock+1) ?_ (by rw[e5];simp[hs]) (fun j e x he qX=> ?_) ?_
     ·unfold Instr.mapUpdate
      simp only[Sem.run_bind,run_underlying hu,Result.andThen_ok,Go.MapKept.run_getObj_map hh,K.check w false hl,h1,Go.MapKept.run_setObj_map _ hh]
     ·rw[e5] at qX
      rw[Array.getElem?_push] at he
      split at he
      ·rename_i hj
       rw[iQ (by omega),hj,hs,Nat.sub_self] at qX
       simp at he qX
       subst he;subst qX
       exact ⟨kx,vx,rfl,kL,xo,uL,w9⟩
      ·have hj:j<E.size:=(iv.1 he).1
       rw[iP (by omega)] at qX
       exact hx j e x he qX
     ·rw[Array.toList_push,List.pairwise_append]
      refine ⟨hn,by simp,fun a ha b' aB=> ?_⟩
      simp only[eC] at aB
      subst aB
      exact U a ha
    ·have e5:=h5 vx
     have hj:j<E.size:=(iv.1 hE).1
     refine fin (E.modify j fun e=>{e with key:=k,val:=v}) clock ?_ (by rw[e5];simp[hs]) (fun i e' x he gJ=> ?_) ?_
     ·have bX:=K.stays w hl
      unfold Instr.mapUpdate
      simp only[Sem.run_bind,run_underlying hu,Result.andThen_ok,Go.MapKept.run_getObj_map hh,K.check w false hl,h1]
      simp only[hE,Option.map_some,Option.getD_some,P8,bX,Result.andThen_ok,Go.MapKept.run_setObj_map _ hh]
     ·rw[e5] at gJ
      rw[zP] at he
      rw[List.getElem?_set] at gJ
      split at he
      ·rename_i uM
       subst uM
       rw[aj rfl,aj (by omega)] at gJ
       rw[hE] at he
       simp at he gJ
       subst he;subst gJ
       exact ⟨k',vx,rfl,aai,aaj,uL,w9⟩
      ·rename_i uM
       rw[ai uM] at gJ
       exact hx i e' x he gJ
     ·have nK: ∀i (h1:i<(E.modify j fun e=>{e with key:=k,val:=v}).toList.length) (U:i<E.toList.length),((E.modify j fun e=>{e with key:=k,val:=v}).toList[i]).key=(E.toList[i]).key:=by
       intro i h1 U
       simp only[Array.getElem_toList,Array.getElem_modify]
       split
       ·rename_i uM
        subst uM
        have:=(iv.1 hE).2
        rw[this,P8]
       ·rfl
      rw[DR] at hn⊢
      intro i i' h1 U jd
      have g1:i<E.toList.length:=by simpa using h1
      have g2:i'<E.toList.length:=by simpa using U
      rw[nK i h1 g1,nK i' U g2]
      exact hn i i' g1 g2 jd
theorem aak (S:aF P w I β hp B M w0) {t ty kt vt:TypeId} {v:Value} {x:V} {r:R} {rd:List Nat} (hu:P.underlying t=some (.map kt vt)) (hv:ao P w I β hp v x)
  (h:(D9 x).run C hp=some (r,rd)):di P ((Builtin.len_ #[t] ty #[v]).run P w) w I β hp B M w0 r:=by
 unfold D9 at h
 cases x<;>simp only at h<;>first|(cases h;done)|skip
 ·rename_i t' id
  obtain ⟨l2,h'⟩:=run_get h
  clear h
  have h:=h'
  clear h'
  cases ab:hp id with
  | none=>rw[ab] at h;cases h
  | some blk=>
   rw[ab] at h
   cases blk<;>simp only at h<;>first|(cases h;done)|skip
   rename_i t2 es
   obtain rfl:=aR h
   cases hv with
   | iE hd=>rw[ab] at hd;cases hd
   | @cG _ _ b aL hd hb=>
    rw[ab] at hd
    cases hd
    have hr:=S.h.rel id _ ab
    cases hr with
    | @map _ P5 P6 _ b' clock E gb aB hh hs hI hx hn=>
     rw[hb] at aB;cases aB
     refine .same S (v:= .int .i64 E.size) (by simp[Builtin.len_,run_underlying hu,Go.MapKept.run_getObj_map hh,goInt]) ?_
     rw[hs]
     exact .int
 ·obtain rfl:=aR h
  cases hv
  exact .same S (v:= .int .i64 0) (by simp[Builtin.len_,run_underlying hu,goInt]) .int
theorem ao.J0 {v:Value} {t:TypeId} (h:ao P w I β hp v (.dJ t)):v= .map none:=by cases h;rfl
theorem ao.aal {v:Value} {t t':TypeId} {id:Nat} {es:List V} (h:ao P w I β hp v (.cG t id)) (ab:hp id=some (.map t' es)): ∃b,v= .map (some b):=by
 cases h with
 | iE h=>rw[ab] at h;cases h
 | cG h hb=>exact ⟨_,rfl⟩
theorem P9 (S:aF P w I β hp B M w0) {op:BinOp} {t:TypeId} {a:Option Nat} {r:R} {rd:List Nat} (x y:Operand)
  (h:(D3 P op t a.isNone).run C hp=some (r,rd)):di P ((do eqGuard op t x y (.map a) (.map none);binOp op t (.map a) (.map none)).run P w) w I β hp B M w0 r:=by
 unfold D3 at h
 split at h
 case h_2=>cases h
 rename_i kt vt hu
 have he:(Op.equal t (.map a) (.map none)).run P w= .ok a.isNone w:=by
  show (Op.equalIn (9999+1) t (.map a) (.map none)).run P w=_
  rw[Op.equalIn]
  cases a<;>simp[Sem.run_bind,run_underlying hu,Result.andThen_ok,Sem.run_pure]
 cases op<;>simp only at h<;>first|(cases h;done)|skip
 ·obtain rfl:=aR h
  exact .same S (by simp[eqGuard,binOp,he]) .bool
 ·obtain rfl:=aR h
  exact .same S (by simp[eqGuard,binOp,he]) .bool
end
end Go.AM
namespace Go.AM
section
variable {P:Program} {w w':World} {I I':Nat→Prop} {β β':Nat→Option Nat} {hp hp':Nat→Option an} {C:ae} {B:Nat} {M:Nat→Prop} {w0:Start}
theorem aam {e:TypeId} (he:P.underlying e=some (.int .u8)) (hc:P.cellsOf e=1) (s:ByteArray): ∀(i j:Nat) (x:V) (t':TypeId),(s.data.toList.map dK)[i]? =some x→(bc P e)[j]? =some t'→j<P.cellsOf e→
  ∃u,(Lib.strCells s)[i*P.cellsOf e+j]? =some u∧Pure P w I t' u (bU P e x j):=by
 intro i j x t' hx ht hj
 have nL:bP P e=false:=by simp[bP,he]
 obtain rfl:j=0:=by omega
 simp only[bc,nL,cond_false,List.getElem?_cons_zero,eh] at ht
 subst ht
 rw[fI] at hx
 cases hb:s.data.toList[i]? with
 | none=>rw[hb] at hx;cases hx
 | some b=>
  rw[hb] at hx
  cases hx
  refine ⟨.int .u8 b.toNat,?_,?_⟩
  ·rw[hc,np,Nat.add_zero]
   simp only[Lib.strCells,fI,hb,Option.map_some]
  ·simp only[bU,nL,cond_false]
   exact .int he
theorem aan (w:World) (t u ty e:TypeId) (i:TypeInfo) (z:Value) (ht:P.underlying t=some (.slice e)) (hu:P.underlying u=some .string) (hi:P.info? e=some i) (hz:i.zero=some z)
  (s:ByteArray) (h0:0<s.size) (EW:(s.size:Int)≤9223372036854775807) (EX:s.size*i.bytes≤281474976710656) (a0:Option Addr):
  (Builtin.append_ #[t,u] ty #[.slice a0 0 0,.string s]).run P w=
   .ok (.slice (some ⟨w.heap.size,0,none⟩) s.size (grownCap w s.size 0 e))
    (w.drew.alloc (.cells (s.data.map (fun b=>Value.int .u8 b.toNat)++Builtin.zeroCells z.cells (grownCap w s.size 0 e-s.size)) e)):=by
 cases a0 with
 | none=>exact run_append_nil_string w t u ty e i z ht hu hi hz s h0 EW EX
 | some b=>
  rw[←run_append_nil_string w t u ty e i z ht hu hi hz s h0 EW EX]
  have hn:s.size≠0:=by omega
  have aao: ¬(9223372036854775807<(s.size:Int)):=by omega
  have aap: ¬(281474976710656<Builtin.nextslicecap s.size 0*i.bytes):=by rw[nextslicecap_zero h0];omega
  simp[Builtin.append_,run_underlying ht,run_underlying hu,sizeOf,typeInfo,zeroValue,hi,hz,Builtin.lenOf,Builtin.firstCells,hn,aao,aap,Question.forced,newRow,grownCap,loadCells,loadCellsFrom]
theorem Qa (S:aF P w I β hp B M w0) {t u ty e:TypeId} {nb:Nat} {x:ByteArray} {xs:List V} {i:TypeInfo} {z:Value} (hu:P.underlying t=some (.slice e)) (oU:P.underlying u=some .string) (au:c7 P e=true) (hn:hp nb=none)
 (hi:P.info? e=some i) (hz:i.zero=some z) (h3:i.size=P.cellsOf e) (h4:z.cells.size=P.cellsOf e) (xp:i.size=1) (mK:P.bytesOf e=i.bytes) (eb:xs.length*P.bytesOf e≤b6) (mO:xs.length=x.size) (kI:(Lib.strCells x).length=x.size)
 (c8: ∀(i j:Nat) (y:V) (t':TypeId),xs[i]? =some y→(bc P e)[j]? =some t'→j<P.cellsOf e→∃u,(Lib.strCells x)[i*P.cellsOf e+j]? =some u∧Pure P w I t' u (bU P e y j)):
 ∀a0,∃v w' β',(Builtin.append_ #[t,u] ty #[.slice a0 0 0,.string x]).run P w= .ok v w'∧Le P w I β hp w' I β' (aK hp nb (some (.arr e xs false)))∧aF P w' I β' (aK hp nb (some (.arr e xs false))) B M w0∧
  ao P w' I β' (aK hp nb (some (.arr e xs false))) v (.whole e nb):=by
 intro a0
 have uI:=wW au
 have hlen:xs.length≤2^45:=by
  have:xs.length*1≤xs.length*P.bytesOf e:=tU _ uI
  simp only[b6] at eb
  omega
 by_cases h0:x.size=0
 ·have gN:xs=[]:=lL (by omega)
  subst gN
  obtain ⟨a1,a2⟩:=Ev S e hn
  have hf:=Lib.run_firstCells_string (P:=P) w 1 x
  rw[h0] at hf
  have ra:Lib.strCells x=[]:=lL (by omega)
  exact ⟨.slice a0 0 0,_,_,by cases a0<;>simp[storeCells,ra,Builtin.append_,run_underlying hu,run_underlying oU,sizeOf,typeInfo,hi,xp,Builtin.lenOf,h0,hf],a1,a2,.dO (da _ _ _) (da _ _ _)⟩
 ·have db:=aan (P:=P) w t u ty e i z hu oU hi hz x (by omega) (by omega) (by rw[←mK,←mO];simp only[b6] at eb;omega) a0
  have e1:(x.data.map fun b=>Value.int .u8 b.toNat)=(Lib.strCells x).toArray:=by
   apply Array.ext'
   simp[Lib.strCells]
  rw[e1,←mO] at db
  have pW:=grownCap_ge w xs.length 0 e
  have uJ:grownCap w xs.length 0 e≤maxLen:=grownCap_le_maxLen w xs.length 0 e (by simp only[maxLen];omega)
  obtain ⟨n1,n2,n3⟩:=xk S.drew (nb:=nb) (cap:=grownCap w xs.length 0 e) (es:=xs) (C0:=(Lib.strCells x).toArray++Builtin.zeroCells z.cells (grownCap w xs.length 0 e-xs.length)) au hn
   (by
    have:(Lib.strCells x).length=xs.length*P.cellsOf e:=by rw[kI,mO,←h3,xp,np]
    simp only[DP,qz,size_zeroCells,h4,this,←dF];congr 1;omega) pW uJ
   (fun i' j y t' hy ht hj=>by
    obtain ⟨u,gb,hp⟩:=c8 i' j y t' hy ht hj
    have aO:=(bD.1 gb).1
    refine ⟨u,?_,Pure.drew hp⟩
    rw[Array.getElem?_append_left (by simpa using aO)]
    simpa using gb)
  exact ⟨_,_,_,db,(Le.drew w I β hp).trans n1,n2,n3⟩
theorem aaq (S:aF P w I β hp B M w0) {t u ty e:TypeId} {nb:Nat} {s:Value} {sv:V} {x:ByteArray} {r:R} {rd:List Nat} (hu:P.underlying t=some (.slice e)) (oU:P.underlying u=some .string) (he:P.underlying e=some (.int .u8)) (hs:ao P w I β hp s sv)
  (h:(wJ P nb e sv (.list e (x.data.toList.map dK))).run C hp=some (r,rd)):di P ((Builtin.append_ #[t,u] ty #[s,.string x]).run P w) w I β hp B M w0 r:=by
 unfold wJ at h
 obtain ⟨au,h⟩:=aH h
 simp only[sB] at h
 obtain ⟨_,h⟩:=aH h
 have nL:bP P e=false:=by simp[bP,he]
 have dQ:P.cellsOf e=1:=by rw[←(kF au).1,Ar nL];rfl
 obtain ⟨i,z,hi,hz,h3,h4,_⟩:=kJ au
 have xp:i.size=1:=by rw[h3,dQ]
 have uI:=wW au
 have mK:P.bytesOf e=i.bytes:=by simp[Program.bytesOf,hi]
 have E3:=aam (P:=P) (w:=w) (I:=I) he dQ x
 have mO:(x.data.toList.map dK).length=x.size:=by simp
 have kI:(Lib.strCells x).length=x.size:=Lib.strCells_length x
 have h1:=Lib.strCells_oneCell x
 generalize gN:x.data.toList.map dK=xs at*
 cases sv with
 | nilS e'=>
  obtain ⟨hc,h⟩:=aH h
  simp only[aP,a9,dh] at hc
  obtain ⟨hn,rfl⟩:=nG h
  obtain ⟨a0,rfl⟩: ∃a0,s= .slice a0 0 0:=by cases hs;exact ⟨_,rfl⟩
  obtain ⟨v,w',β',a1,a2,a3,a4⟩:=Qa S hu oU au hn hi hz h3 h4 xp mK hc.2 mO kI E3 _
  exact ⟨v,w',I,β',a1,a2,a3,a4⟩
 | whole e' id=>
  obtain ⟨l,h⟩:=run_get h
  cases ab:hp id with
  | none=>rw[ab] at h;cases h
  | some blk=>
   rw[ab] at h
   cases blk with
   | dead=>cases h
   | var _=>cases h
   | nest _ _ _=>cases h
   | map _ _=>cases h
   | arr dM es fz=>
    cases fz with
    | true=>cases h
    | false=>
     obtain ⟨hc,h⟩:=aH h
     obtain ⟨hn,rfl⟩:=nG h
     simp only[aP,a9,dh] at hc
     obtain ⟨JI,JJ,eb⟩:=hc
     subst JI
     subst JJ
     have bH:nb≠id:=fun e=>by rw[e,ab] at hn;cases hn
     obtain ⟨k1,k2⟩:=Ew S ab
     have kK:aK hp id (some an.dead) nb=none:=by rw[ey _ _ bH];exact hn
     cases hs with
     | eu hd=>rw[ab] at hd;cases hd
     | eG hd=>rw[ab] at hd;cases hd
     | dO hd hb=>
      rw[ab] at hd
      cases hd
      simp only[List.length_nil,gY] at eb
      obtain ⟨v,w',β',a1,a2,a3,a4⟩:=Qa k2 hu oU au kK hi hz h3 h4 xp mK eb mO kI E3 _
      exact ⟨v,w',I,β',a1,k1.trans a2,a3,a4⟩
     | @whole _ _ aL nw b cap hd hb bh cp hm=>
      rw[ab] at hd
      cases hd
      have hr:=S.h.rel id _ ab
      cases hr with
      | dP aB=>rw[aB] at hb;cases hb
      | @arr _ _ _ b' Ca _ aB hh pY hf ew mL=>
       rw[hb] at aB
       cases aB
       have hlen:es.length+xs.length≤2^45:=by
        have:(es.length+xs.length)*1≤(es.length+xs.length)*P.bytesOf e:=tU _ uI
        simp only[b6] at eb
        omega
       rw[nB hh] at bh
       have qV: ∀aD blk',aK hp id (some an.dead) aD=some blk'→¬bE P w (β aD) blk' b:=by
        intro aD blk' h1 U
        by_cases jd:aD=id
        ·subst jd;rw[da] at h1;cases h1;exact U.alive rfl
        ·rw[ey _ _ jd] at h1
         exact jd (S.h.inj aD id blk' _ b h1 ab U (.root (by simp) hb))
       have JK:=S.h.sJ id _ b ab (by simp) hb
       have l8:es.length*P.cellsOf e≤Ca.toList.length:=by simpa using pY
       have Qb:(Lib.strCells x).length=xs.length*P.cellsOf e:=by rw[kI,mO,dQ,np]
       by_cases sS:es.length+xs.length≤cap
       ·have AN:es.length*P.cellsOf e+(Lib.strCells x).length≤Ca.size:=by rw[Qb,←dF,←bh];exact dL _ sS
        have db:=Lib.run_append_room_string (P:=P) w t u ty e i hu oU hi xp b es.length cap Ca hh x (by rw[←mO];exact sS) (by rw[←kI];rw[dQ,np] at AN;exact AN)
        have c8:=EU (P:=P) (w:=w) (I:=I) (n:=es.length) (c:=Ca.toList) rfl (fun i j y t' a b c=>by
         obtain ⟨v,hv,hp⟩:=mL i j y t' a b c
         exact ⟨v,by simpa using hv,hp⟩) E3 l8 (Ca.toList.drop (es.length*P.cellsOf e+(Lib.strCells x).length))
        generalize xg:(Ca.toList.take es.length++Lib.strCells x++Ca.toList.drop (es.length+x.size)).toArray=C' at db
        have oS:C'.size=Ca.size:=by
         rw[dQ,np] at AN
         rw[←xg];simp;omega
        have Qc:(w.setRow b C').heap[b]? =some (.cells C' e (0,0)):=setRow_heap w b Ca C' e _ hh
        obtain ⟨a1,a2⟩:=Aw k2 (blk:= .arr e (es++xs) false) (w':=w.setRow b C') kK qV (ew rfl) (fun b' h _=>setRow_other w b b' _ h) (by simp) ⟨rfl,rfl⟩ JK
         (fun b' h=>(dv (h.flat (by simp))).symm) (fun hle=> .arr au rfl Qc (by rw[oS,←bh];exact dL _ (by simpa using sS)) (fun h=>by cases h) (fun _=>ew rfl) fun i j y t' a b c=>by
          obtain ⟨v,hv,hp⟩:=c8 i j y t' a b c
          refine ⟨v,?_,hp.mono hle.dC hle.cy⟩
          rw[←xg,nn]
          rw[dQ] at hv⊢
          simpa[kI] using hv)
        refine ⟨_,_,_,_,db,k1.trans a1,a2,?_⟩
        have a3:=ao.whole (P:=P) (w:=w.setRow b C') (I:=I) (β:=aK β nb (some b)) (hp:=aK (aK hp id (some .dead)) nb (some (.arr e (es++xs) false))) (cap:=cap) (b:=b) (es:=es++xs) (fz:=false) (id:=nb) (e:=e) (da _ _ _) (da _ _ _) (by rw[nB Qc,oS,bh]) (by simpa using sS) hm
        rw[b9,mO] at a3
        exact a3
       ·have hold: ∀(j:Nat) v,(Ca.toList.take (es.length*P.cellsOf e))[j]? =some v→w.cell? ((⟨b,0,none⟩:Addr).add j)=some v:=by
         intro j v hj
         have cz:=(bD.1 hj).1
         have gv:j<es.length*P.cellsOf e:=by rw[ff] at cz;omega
         rw[fe gv] at hj
         rw[nE,cell?_cells hh,gY]
         simpa using hj
        have db:=Lib.run_append_grow_string (P:=P) w t u ty e i z hu oU hi hz ⟨b,0,none⟩ es.length cap (Ca.toList.take (es.length*P.cellsOf e)) (by rw[h3];simp;omega) hold x (by omega) (by omega)
         (growslice_fits (by omega) (by rw[←mK,←mO];simp only[b6] at eb;omega))
        rw[←mO] at db
        have pW:=grownCap_ge w (es.length+xs.length) cap e
        have uJ:grownCap w (es.length+xs.length) cap e≤maxLen:=grownCap_le_maxLen w _ cap e (by simp only[maxLen];omega)
        have c8:=EU (P:=P) (w:=w) (I:=I) (n:=es.length) (c:=Ca.toList) rfl (fun i j y t' a b c=>by
         obtain ⟨v,hv,hp⟩:=mL i j y t' a b c
         exact ⟨v,by simpa using hv,hp⟩) E3 l8 (Builtin.zeroCells z.cells (grownCap w (es.length+xs.length) cap e-(es.length+xs.length))).toList
        obtain ⟨n1,n2,n3⟩:=xk k2.drew (nb:=nb) (cap:=grownCap w (es.length+xs.length) cap e) (es:=es++xs)
         (C0:=(Ca.toList.take (es.length*P.cellsOf e)).toArray++(Lib.strCells x).toArray++Builtin.zeroCells z.cells (grownCap w (es.length+xs.length) cap e-(es.length+xs.length))) au kK
         (by
          have e1:(Ca.toList.take (es.length*P.cellsOf e)).length=es.length*P.cellsOf e:=by simp;omega
          simp only[DP,qz,size_zeroCells,h4,Qb,e1,←dF];congr 1;omega) (by simpa using pW) uJ
         (fun i j y t' a b c=>by
          obtain ⟨v,hv,hp⟩:=c8 i j y t' a b c
          refine ⟨v,?_,Pure.drew hp⟩
          rw[←sk]
          simpa using hv)
        rw[b9] at n3
        exact ⟨_,_,_,_,db,(k1.trans (Le.drew w I β _)).trans n1,n2,n3⟩
 | _=>cases h
end
section
variable {P:Program} {w w':World} {I I':Nat→Prop} {β β':Nat→Option Nat} {hp hp':Nat→Option an} {C:ae} {B:Nat} {M:Nat→Prop} {w0:Start}
theorem Qd: ∀(ns:List Int) (s:ByteArray),(ns.foldl (fun r n=>r.push (UInt8.ofNat n.toNat)) s).data.toList=s.data.toList++ns.map fun n=>UInt8.ofNat n.toNat
 | [],s=>by simp
 | n::ns,s=>by
  simp only[List.foldl_cons,Qd ns,cJ]
  simp[ByteArray.push]
theorem J1 {e:TypeId} {u:Value} {x:V} (he:P.underlying e=some (.int .u8)) (hp:Pure P w I e u x):u= .int .u8 x.toInt:=by
 cases hp with
 | int hp'=>rw[he] at hp';cases hp';rfl
 | bool hp'=>rw[he] at hp';cases hp'
 | str hp'=>rw[he] at hp';cases hp'
 | nil hp'=>rw[he] at hp';cases hp'
 | emp hp'=>rw[he] at hp';cases hp'
 | list _ hp'=>rw[he] at hp';cases hp'
theorem aar (S:aF P w I β hp B M w0) {src dst e:TypeId} {v:Value} {x:V} {r:R} {rd:List Nat} (hs:P.underlying src=some (.slice e)) (he:P.underlying e=some (.int .u8)) (hd:P.underlying dst=some .string)
  (hv:ao P w I β hp v x) (h:(Rd.aC (c7 P e) (sB e x fun es=> .ret ⟨.str (lb es),[]⟩)).run C hp=some (r,rd)):di P ((convert src dst v).run P w) w I β hp B M w0 r:=by
 obtain ⟨au,h⟩:=aH h
 obtain ⟨xs,hx,l,h⟩:=ET S.h.rel au hv h
 obtain rfl:=aR h
 have nL:bP P e=false:=by simp[bP,he]
 have h1:P.cellsOf e=1:=by rw[←(kF au).1,Ar nL];rfl
 rcases hx with ⟨⟨a,rfl⟩,rfl⟩|⟨a,c,news,hr⟩
 ·refine .same S (v:= .string .empty) ?_ (.str (by simp[lb]))
  rw[run_convert_bytes_string w src dst e a 0 0 hs he hd]
  cases a<;>simp[Conv.bytesToString,loadCells,loadCellsFrom]
 ·have EV:news=(xs.map V.toInt).map (Value.int .u8):=by
   apply List.ext_getElem?
   intro j
   by_cases hj:j<xs.length
   ·obtain ⟨u,hu,hp⟩:=hr.el j 0 xs[j] e (bG hj) (by simp[bc,nL]) (by omega)
    rw[h1] at hu
    simp only[bU,nL,cond_false] at hp
    have gb:news[j]? =some u:=by simpa using hu
    rw[gb]
    have:=J1 he hp
    simp[hj,←this]
   ·have hl:news.length=xs.length:=by rw[hr.len,h1];simp
    rw[zL (by omega),zL (by simp;omega)]
  have J2:=run_loadCells_list (P:=P) w a news hr.cell
  have hl:news.length=xs.length:=by rw[hr.len,h1];simp
  rw[hl] at J2
  rw[EV] at J2
  refine .same S (v:= .string ((xs.map V.toInt).foldl (fun r n=>r.push (UInt8.ofNat n.toNat)) ByteArray.empty)) ?_ (.str ?_)
  ·rw[hr.val,run_convert_bytes_string w src dst e _ _ _ hs he hd]
   exact run_bytesToString w a xs.length c (xs.map V.toInt) J2
  ·rw[Qd]
   simp[lb]
theorem ao.E4 {v:Value} (h:ao P w I β hp v .dB):v= .pointer none:=by cases h;rfl
section
variable (w:World)
theorem aas (t e:TypeId) (a:Addr) (h:P.underlying t=some (.pointer e)):(binOp .eql t (.pointer (some a)) (.pointer none)).run P w= .ok (.bool false) w:=by
 have h0: ∀d:Nat,(Op.equalIn (d+1) t (.pointer (some a)) (.pointer none)).run P w= .ok false w:=fun d=>by simp[Op.equalIn,run_underlying h]
 simp only[binOp]
 simp[Op.equal,Op.maxDepth,h0 9999]
theorem aat (t e:TypeId) (a:Addr) (h:P.underlying t=some (.pointer e)):(binOp .neq t (.pointer (some a)) (.pointer none)).run P w= .ok (.bool (!false)) w:=by
 have h0: ∀d:Nat,(Op.equalIn (d+1) t (.pointer (some a)) (.pointer none)).run P w= .ok false w:=fun d=>by simp[Op.equalIn,run_underlying h]
 simp only[binOp]
 simp[Op.equal,Op.maxDepth,h0 9999]
theorem aau (t e:TypeId) (a:Addr) (h:P.underlying t=some (.pointer e)):(binOp .eql t (.pointer none) (.pointer (some a))).run P w= .ok (.bool false) w:=by
 have h0: ∀d:Nat,(Op.equalIn (d+1) t (.pointer none) (.pointer (some a))).run P w= .ok false w:=fun d=>by simp[Op.equalIn,run_underlying h]
 simp only[binOp]
 simp[Op.equal,Op.maxDepth,h0 9999]
theorem aav (t e:TypeId) (a:Addr) (h:P.underlying t=some (.pointer e)):(binOp .neq t (.pointer none) (.pointer (some a))).run P w= .ok (.bool (!false)) w:=by
 have h0: ∀d:Nat,(Op.equalIn (d+1) t (.pointer none) (.pointer (some a))).run P w= .ok false w:=fun d=>by simp[Op.equalIn,run_underlying h]
 simp only[binOp]
 simp[Op.equal,Op.maxDepth,h0 9999]
theorem aaw (t e:TypeId) (h:P.underlying t=some (.pointer e)):(binOp .eql t (.pointer none) (.pointer none)).run P w= .ok (.bool true) w:=by
 have h0: ∀d:Nat,(Op.equalIn (d+1) t (.pointer none) (.pointer none)).run P w= .ok true w:=fun d=>by simp[Op.equalIn,run_underlying h]
 simp only[binOp]
 simp[Op.equal,Op.maxDepth,h0 9999]
theorem aax (t e:TypeId) (h:P.underlying t=some (.pointer e)):(binOp .neq t (.pointer none) (.pointer none)).run P w= .ok (.bool (!true)) w:=by
 have h0: ∀d:Nat,(Op.equalIn (d+1) t (.pointer none) (.pointer none)).run P w= .ok true w:=fun d=>by simp[Op.equalIn,run_underlying h]
 simp only[binOp]
 simp[Op.equal,Op.maxDepth,h0 9999]
end
theorem E5 (S:aF P w I β hp B M w0) {op:BinOp} {t:TypeId} {b:Bool} {x y:Operand} {v1 v2:Value} {r:R} {rd:List Nat} (h:(ptrEq P op t b).run C hp=some (r,rd)) (hg:(eqGuard op t x y v1 v2).run P w= .ok () w)
  (he: ∀e j,P.underlying t=some (.pointer e)→P.info? e=some j→(binOp .eql t v1 v2).run P w= .ok (.bool b) w∧(binOp .neq t v1 v2).run P w= .ok (.bool (!b)) w):
  di P ((do eqGuard op t x y v1 v2;binOp op t v1 v2:Sem Value).run P w) w I β hp B M w0 r:=by
 unfold ptrEq at h
 cases hu:P.underlying t with
 | none=>rw[hu] at h;cases h
 | some d=>
  rw[hu] at h
  cases d<;>simp only at h<;>first|(cases h;done)|skip
  rename_i e
  obtain ⟨h1,U⟩:=aH h
  obtain ⟨j,hj⟩:=zO.1 h1
  obtain ⟨k1,k2⟩:=he e j hu hj
  cases op<;>simp only at U<;>first|(cases U;done)|skip
  ·obtain rfl:=aR U
   exact .same S (by simp only[Sem.run_bind,hg,Result.andThen_ok,k1]) .bool
  ·obtain rfl:=aR U
   exact .same S (by simp only[Sem.run_bind,hg,Result.andThen_ok,k2]) .bool
theorem aay {b n:Nat}:(∀b',b'≠b→(w.freeze ⟨b,0,none⟩ n).heap[b']? =w.heap[b']?)∧bsize (w.freeze ⟨b,0,none⟩ n) b=bsize w b∧w.heap.size≤(w.freeze ⟨b,0,none⟩ n).heap.size∧(w.freeze ⟨b,0,none⟩ n).os=w.os∧(w.freeze ⟨b,0,none⟩ n).output=w.output:=by
 unfold World.freeze
 split
 ·exact ⟨fun _ _=>rfl,rfl,cg _,rfl,rfl⟩
 ·refine ⟨fun b' hb=> ?_,?_,by simp,rfl,rfl⟩
  ·simp only[zP]
   rw[ai (fun e=>hb e.symm)]
  ·simp only[bsize,zP,cW]
   cases w.heap[b]? with
   | none=>rfl
   | some o=>cases o<;>rfl
theorem aaz {e:TypeId} (hb:isByte P e=true):P.underlying e=some (.int .u8):=by
 unfold isByte at hb
 split at hb
 ·assumption
 ·cases hb
theorem aaA (S:aF P w I β hp B M w0) {ts:Array TypeId} {ty e:TypeId} {v:Value} {id:Nat} {es:List V} {fz:Bool} (hv:ao P w I β hp v (.whole e id)) (ab:hp id=some (.arr e es fz)) (h0:0<es.length):
  di P ((Builtin.unsafeSliceData_ ts ty #[v]).run P w) w I β hp B M w0 ⟨.ptr id 0 0,[]⟩:=by
 cases hv with
 | eu h=>rw[ab] at h;cases h
 | dO h _=>rw[ab] at h;cases h;simp at h0
 | eG h _ _ _ _=>rw[ab] at h;cases h
 | @whole _ _ aL nw b cap h hb cp hle hm=>
  rw[ab] at h;cases h
  refine .same S (Lib.run_unsafeSliceData_row w ts ty ⟨b,0,none⟩ es.length cap (by omega)) ?_
  have:=ao.ptr (P:=P) (w:=w) (I:=I) (β:=β) (i:=0) (c:=0) ab (by simp) hb
  simpa using this
theorem aaB (S:aF P w I β hp B M w0) {t u ty e:TypeId} {vx:Value} {id:Nat} {n:Int} {es:List V} (hu:P.underlying t=some (.pointer e)) (hb:isByte P e=true) (hv:ao P w I β hp vx (.ptr id 0 0))
  (ab:hp id=some (.arr e es false)) (h0:0<n) (hn:n≤es.length) (hm:n.toNat≤sA) (lZ:(es.take n.toNat).all wP=true):di P ((Builtin.unsafeString_ #[t,u] ty #[vx,.int .i64 n]).run P w) w I β hp B M w0 ⟨.str (lb (es.take n.toNat)),[(id,.dead)]⟩:=by
 obtain ⟨b,J3,rfl⟩:=hv.hU ab (by simp)
 have he:P.underlying e=some (.int .u8):=by
  unfold isByte at hb
  split at hb
  ·assumption
  ·cases hb
 have nL:bP P e=false:=by simp[bP,he]
 have hr:=S.h.rel id _ ab
 rw[J3] at hr
 cases hr with
 | dP aB=>cases aB
 | @arr _ _ _ b1 Ca au l8 hh hs hI c6 c8=>
  cases l8
  have h1:P.cellsOf e=1:=by rw[←(kF au).1,Ar nL];rfl
  have aO:=S.YR ab (by simp) J3
  have hl:(lb (es.take n.toNat)).length=n.toNat:=by simp[lb];omega
  have JZ:n=((lb (es.take n.toNat)).length:Nat):=by rw[hl];omega
  have db:=Lib.run_unsafeString_row (P:=P) w t u ty e hu h1 b Ca.size (by simp[World.shape?,hh]) (lb (es.take n.toNat)) (fun h=>by rw[h] at hl;simp at hl;omega) (by rw[hl];rw[h1] at hs;omega) (by rw[hl];unfold sA at hm;omega) (fun j x hx=>by
   have hj:j<n.toNat:=by
    have:=(bD.1 hx).1
    rw[hl] at this;exact this
   have iG:j<es.length:=by omega
   simp only[lb,fI,fe hj,bG iG,Option.map_some,eh] at hx
   obtain ⟨v,xl,bu⟩:=c8 j 0 es[j] e (bG iG) (by simp[bc,nL]) (by omega)
   rw[h1] at xl
   simp only[bU,nL,cond_false] at bu
   have:=J1 he bu
   have hr:=fH.1 lZ es[j] (jJ (by rw[fe hj];exact bG iG))
   simp only[wP,aP,eg] at hr
   have pS:(x.toNat:Int)=es[j].toInt:=by
    rw[←hx]
    have:es[j].toInt.toNat<256:=by omega
    simp only[UInt8.toNat_ofNat']
    omega
   rw[nE,cell?_cells hh,pS]
   rw[show 0+j=j*1+0 by omega,xl,this])
  obtain ⟨f1,f2,f3,f4,f5⟩:=aay (w:=w) (b:=b) (n:=n.toNat)
  obtain ⟨k1,k2⟩:=Ey (w':=w.freeze ⟨b,0,none⟩ n.toNat) S ab (by simp) (blk':= .dead) (by trivial) J3 (c6 rfl) (by simp) f1 f2 f3 ⟨f4,f5⟩ (fun _=> .dead)
  rw[←JZ,hl] at db
  refine ⟨.string ⟨(lb (es.take n.toNat)).toArray⟩,_,I,β,?_,k1,k2,.str ?_⟩
  ·simpa using db
  ·rfl
def J4:Op→Bool
 | .call {callee:= .value (.func _),..}=>true
 | .call {callee:= .value (.tmp _),..}=>true
 | .defer _=>true
 | _=>false
theorem pP.val {o:Oper} {a:Act} {s:Sem Value} {r:R} (he:execOp a.eval o=(do Pure.pure (Next.value (←s)))) (h:di P (s.run P w) w I β hp B M w0 r):pP P ((execOp a.eval o).run P w) w I β hp B M w0 r:=by
 rw[he];exact h.op
theorem aaC {A:cS} (S:aF P w I β hp B M w0) (hg:gE P A.aE w I) {a:Act} {sl:Nat→V} (hs:lj P w I β hp a sl) {ix nb:Nat} {o:Oper} (J5:J4 o.op=false) {r:R} {rd:List Nat}
  (h:(fL P A sl ix nb o).run C hp=some (r,rd)):pP P ((execOp a.eval o).run P w) w I β hp B M w0 r:=by
 obtain ⟨dst,op,ty,pos,after,guard⟩:=o
 cases op<;>simp only[fL] at h<;>first|(cases h;done)|skip
 case move x=>
  obtain rfl:=aR h
  exact ⟨_,w,I,β,.inl (by simp[execOp]),Le.refl w I β hp,S,hs.ev hg ty x⟩
 case assign x=>
  obtain rfl:=aR h
  exact ⟨_,w,I,β,.inl (by simp[execOp]),Le.refl w I β hp,S,hs.ev hg ty x⟩
 case pick c x y=>
  have hc:=hs.ev hg ty c
  cases uG:aT P A.aE ty sl c<;>rw[uG] at h hc<;>simp only at h<;>first|(cases h;done)|skip
  rename_i t
  have aaD:=hc.kG
  have hx:=hs.ev hg ty x
  have hy:=hs.ev hg ty y
  have fin: ∀z:V,ao P w I β hp (if t then a.eval x else a.eval y) z→pP P ((execOp a.eval ⟨dst,.pick c x y,ty,pos,after,guard⟩).run P w) w I β hp B M w0 ⟨z,[]⟩:=by
   intro z hz
   exact ⟨_,w,I,β,.inl (by simp[execOp,aaD,asBool]),Le.refl w I β hp,S,hz⟩
  cases Qe:gone (aT P A.aE ty sl x) with
  | true=>
   rw[Qe] at h
   obtain ⟨h1,h⟩:=aH h
   obtain rfl:=aR h
   have:t=false:=by simpa using h1
   subst this
   refine fin _ ?_
   simpa using hy
  | false=>
   rw[Qe] at h
   simp only[cond_false] at h
   cases E6:gone (aT P A.aE ty sl y) with
   | true=>
    rw[E6] at h
    obtain ⟨h1,h⟩:=aH h
    obtain rfl:=aR h
    subst h1
    refine fin _ ?_
    simpa using hx
   | false=>
    rw[E6] at h
    obtain rfl:=aR h
    exact fin _ (O1 hx hy)
 case makeFunc fn x y=>
  cases fn<;>simp only[fL] at h<;>first|(cases h;done)|skip
  rename_i f
  obtain rfl:=aR h
  refine ⟨.func (.func f) (x.map a.eval) (y.map a.eval),w,I,β,.inl (by simp[execOp,Instr.makeFunc]),Le.refl w I β hp,S,.fn (by simp) (fun j v z hj hz=> ?_) (by simp) (fun j v z hj hz=> ?_)⟩
  ·rw[Array.getElem?_map] at hj
   rw[fI,sk] at hz
   cases hx:x[j]? with
   | none=>rw[hx] at hj;cases hj
   | some o1=>
    rw[hx] at hj hz
    cases hj
    cases hz
    exact hs.ev hg ty o1
  ·rw[Array.getElem?_map] at hj
   rw[fI,sk] at hz
   cases hx:y[j]? with
   | none=>rw[hx] at hj;cases hj
   | some o1=>
    rw[hx] at hj hz
    cases hj
    cases hz
    exact hs.ev hg ty o1
 case defer c=>cases J5
 case makeMap t res=>
  cases res with
  | some x=>cases h
  | none=>exact .val rfl (aah S h)
 case lookup t m k ok=>
  cases ht:lS P t with
  | none=>rw[ht] at h;cases h
  | some q=>
   obtain ⟨kt,vt⟩:=q
   rw[ht] at h
   exact .val (s:=Instr.lookup t (a.eval m) (a.eval k) ok) rfl (aag S ht (hs.ev hg t m) (hs.ev hg kt k) h)
 case mapUpdate t m k x=>
  cases ht:lS P t with
  | none=>rw[ht] at h;cases h
  | some q=>
   obtain ⟨kt,vt⟩:=q
   rw[ht] at h
   have:=P7 S ht (hs.ev hg t m) (hs.ev hg kt k) (hs.ev hg vt x) h
   exact this.op
 case insert t m k x=>
  cases ht:lS P t with
  | none=>rw[ht] at h;cases h
  | some q=>
   obtain ⟨kt,vt⟩:=q
   rw[ht] at h
   have:=P7 S ht (hs.ev hg t m) (hs.ev hg kt k) (hs.ev hg vt x) h
   exact this.op
 case alloc e=>
  exact .val rfl (Zx S h)
 case box e x=>
  exact .val rfl (Zy S (hs.ev hg e x) h)
 case build t ps=>exact .val rfl (ZA S hs hg h)
 case buildSlice t len ps=>
  cases hu:P.underlying t with
  | none=>rw[hu] at h;cases h
  | some d=>
   rw[hu] at h
   cases d<;>simp only at h<;>first|(cases h;done)|skip
   exact .val rfl (ZI S hs hg hu h)
 case load t x=>exact .val rfl (Y7 S (hs.ev hg ty x) h)
 case store t x y=>
  have:=Zs S (hs.ev hg ty x) (hs.ev hg t y) h
  exact this.op
 case nilCheck x=>
  have hx:=hs.ev hg ty x
  cases fw:aT P A.aE ty sl x<;>rw[fw] at h hx<;>simp only at h<;>first|(cases h;done)|skip
  ·obtain ⟨⟨blk,ab,hd⟩,l,h⟩:=w5 h
   obtain rfl:=aR h
   have cL:=hx
   obtain ⟨b,hb,he⟩:=hx.hU ab hd
   rw[he] at cL
   exact ⟨_,w,I,β,.inl (by simp only[execOp,he];rfl),Le.refl w I β hp,S,cL⟩
  ·obtain rfl:=aR h
   have cL:=hx
   obtain ⟨b,o,he,_⟩:=hx.EB
   rw[he] at cL
   exact ⟨_,w,I,β,.inl (by simp only[execOp,he];rfl),Le.refl w I β hp,S,cL⟩
  ·obtain ⟨e0,es,ar,l,ab,h1,U,h3,h⟩:=oM h
   obtain rfl:=aR h
   have cL:=hx
   obtain ⟨b,o,he,_⟩:=hx.OZ ab h1 U h3
   rw[he] at cL
   exact ⟨_,w,I,β,.inl (by simp only[execOp,he];rfl),Le.refl w I β hp,S,cL⟩
 case binOp op t x y yt=>
  have hx:=hs.ev hg t x
  have hy:=hs.ev hg t y
  refine .val (s:=do eqGuard op t x y (a.eval x) (a.eval y);binOp op t (a.eval x) (a.eval y)) rfl ?_
  cases fw:aT P A.aE t sl x<;>cases sU:aT P A.aE t sl y<;>rw[fw,sU] at h<;>rw[fw] at hx<;>rw[sU] at hy<;>first|(simp only[kz] at h;cases h;done)|skip
  ·rw[hx.dZ,hy.dZ]
   have:=YX S h
   simpa[YU] using this
  ·rw[hx.kG,hy.kG]
   have:=YZ S h
   simpa[YV] using this
  ·obtain ⟨s1,e1,l1⟩:=hx.mH
   obtain ⟨s2,e2,l2⟩:=hy.mH
   rw[e1,e2]
   rw[←l1,←l2] at h
   have:=Y0 (t:=t) S h
   simpa[YW] using this
  ·obtain ⟨cs,e1,h1,U⟩:=hx.ll
   obtain ⟨ds,e2,h3,h4⟩:=hy.ll
   rw[e1,e2]
   exact Y1 S h1 h3 U h4 h
  ·
   simp only[kz] at h
   obtain ⟨h1,U⟩:=aH h
   clear h
   simp only[aP,a9] at h1
   obtain ⟨rfl,rfl,rfl⟩:=h1
   obtain ⟨⟨blk,ab,hd⟩,l,h⟩:=w5 U
   obtain ⟨b,hb,e1⟩:=hx.hU ab hd
   obtain ⟨b',aB,e2⟩:=hy.hU ab hd
   rw[hb] at aB;cases aB
   rw[e1,e2]
   exact E5 S h (by cases op<;>simp[eqGuard]) fun e j he hj=>⟨run_eql_ptr_same w _ he hj,Lib.run_neq_ptr_same w _ he hj⟩
  ·simp only[kz] at h
   obtain ⟨⟨blk,ab,hd⟩,l,h⟩:=w5 h
   obtain ⟨b,_,e1⟩:=hx.hU ab hd
   rw[e1,hy.E4]
   exact E5 S h (by cases op<;>simp[eqGuard]) fun e j he hj=>⟨aas w t e _ he,aat w t e _ he⟩
  ·simp only[kz] at h
   obtain ⟨⟨blk,ab,hd⟩,l,h⟩:=w5 h
   obtain ⟨b,_,e1⟩:=hy.hU ab hd
   rw[e1,hx.E4]
   exact E5 S h (by cases op<;>simp[eqGuard]) fun e j he hj=>⟨aau w t e _ he,aav w t e _ he⟩
  ·simp only[kz] at h
   rw[hx.E4,hy.E4]
   exact E5 S h (by cases op<;>simp[eqGuard]) fun e j he hj=>⟨aaw w t e he,aax w t e he⟩
  ·
   simp only[kz] at h
   obtain ⟨l,h⟩:=run_get h
   split at h
   ·rename_i t2 es ab
    obtain ⟨b,hb⟩:=hx.aal ab
    rw[hy.J0,hb]
    exact P9 (a:=some b) S x y h
   ·cases h
  ·simp only[kz] at h
   rw[hx.J0,hy.J0]
   exact P9 (a:=none) S x y h
 case unOp op t x=>exact .val rfl (Y2 S (hs.ev hg ty x) h)
 case convert src dst x=>
  have hx:=hs.ev hg ty x
  refine .val (s:=convert src dst (a.eval x)) rfl ?_
  cases iY:P.underlying src with
  | none=>rw[iY] at h;cases h
  | some d1=>
   cases nM:P.underlying dst with
   | none=>rw[iY,nM] at h;cases d1<;>cases h
   | some d2=>
    rw[iY,nM] at h
    have iw: ∀{b:Nat} {T:TypeId} {cs:List V} {id:Nat},hp id=some (.var T cs)→β id=some b→w.shape? b=some (T,cs.length):=by
     intro b T cs id ab hb
     have hr:=S.h.rel id _ ab
     rw[hb] at hr
     cases hr with
     | var aB hh bh _ _ _=>cases aB;simp[World.shape?,hh,bh]
    cases d1<;>(try (cases d2<;>cases h;done))
    ·cases d2<;>(try (cases h;done))
     rename_i k1 k2
     cases fw:aT P A.aE ty sl x<;>rw[fw] at h hx<;>simp only at h<;>first|(cases h;done)|skip
     obtain rfl:=aR h
     rw[hx.dZ]
     exact .same S (by simp[convert,run_underlying iY,run_underlying nM,Conv.intToInt]) .int
    ·cases d2<;>(try (cases h;done))
     rename_i u
     cases fw:aT P A.aE ty sl x<;>rw[fw] at h hx<;>simp only at h<;>first|(cases h;done)|skip
     rename_i id i c
     obtain ⟨l,h1⟩:=run_get h
     cases ab:hp id with
     | none=>rw[ab] at h1;cases h1
     | some blk=>
      rw[ab] at h1
      cases blk<;>simp only at h1<;>first|(cases h1;done)|skip
      rename_i T cs
      obtain ⟨U,h3⟩:=aH h1
      simp only[aP,a9] at U
      obtain ⟨rfl,h4,h5⟩:=U
      obtain ⟨b,hb,e1⟩:=hx.hU ab (by simp)
      obtain rfl:=aR h3
      obtain ⟨j,hj⟩:=zO.1 h4
      have cL:=hx
      rw[e1] at cL⊢
      exact .same S (Lib.run_from_unsafe w _ iY nM hj (iw ab hb) (by simpa using h5)) cL
    ·cases d2<;>(try (cases h;done))
     rename_i t
     cases fw:aT P A.aE ty sl x<;>rw[fw] at h hx<;>simp only at h<;>first|(cases h;done)|skip
     rename_i id i c
     obtain ⟨l,h1⟩:=run_get h
     cases ab:hp id with
     | none=>rw[ab] at h1;cases h1
     | some blk=>
      rw[ab] at h1
      cases blk<;>simp only at h1<;>first|(cases h1;done)|skip
      rename_i T cs
      obtain ⟨U,h3⟩:=aH h1
      simp only[aP,a9,ko] at U
      obtain ⟨rfl,h4,h5⟩:=U
      obtain ⟨b,hb,e1⟩:=hx.hU ab (by simp)
      obtain rfl:=aR h3
      cases hj:P.info? t with
      | none=>rw[hj] at h5;cases h5
      | some j=>
       rw[hj] at h5
       simp only[mw] at h5
       have h6:j.size≠0:=fun e=>by rw[e] at h5;cases h5
       have cL:=hx
       rw[e1] at cL⊢
       exact .same S (Lib.run_to_unsafe w _ iY nM hj h6 (iw ab hb) (by simpa using h4)) cL
    ·rename_i e
     cases d2<;>(try (cases h;done))
     simp only at h
     cases he:P.underlying e with
     | none=>rw[he] at h;cases h
     | some d3=>
      rw[he] at h
      cases d3<;>(try (cases h;done))
      rename_i k
      cases k<;>(try (cases h;done))
      exact aar S iY he nM hx h
 case fieldAddr s x f=>exact .val rfl (Y3 S (hs.ev hg ty x) h)
 case field s x f=>exact .val rfl (Z0 S (hs.ev hg ty x) h)
 case indexAddr t x y=>exact .val rfl (Z9 S (hs.ev hg ty x) (hs.ev hg 0 y) h)
 case index t x y=>
  have hx:=hs.ev hg ty x
  have hy:=hs.ev hg 0 y
  refine .val (s:=Instr.index t (a.eval x) (a.eval y)) rfl ?_
  cases hu:P.underlying t with
  | none=>rw[hu] at h;cases h
  | some d=>
   rw[hu] at h
   cases d<;>(try (cases h;done))
   cases fw:aT P A.aE ty sl x<;>rw[fw] at h hx<;>(try (cases h;done))
   cases sU:aT P A.aE 0 sl y<;>rw[sU] at h hy<;>(try (cases h;done))
   obtain ⟨s,e1,l1⟩:=hx.mH
   rw[e1,hy.dZ]
   exact Z2 S hu l1 h
 case slice t x lo hi mx=>
  cases mx with
  | some m=>
   simp only at h
   refine .val (s:=Instr.sliceAt t (a.eval x) (lo.map a.eval) (hi.map a.eval) (some (a.eval m))) (by simp[execOp]) (Z7 S (hs.ev hg ty x) (fun hy=> ?_) (fun y hy=> ?_) (fun y hy=> ?_) h)
   ·cases lo with
    | none=>rfl
    | some l=>cases hy
   ·cases hi with
    | none=>cases hy
    | some l=>cases hy;exact ⟨_,rfl,hs.ev hg 0 l⟩
   ·cases hy;exact ⟨_,rfl,hs.ev hg 0 m⟩
  | none=>
   simp only at h
   have plain:(Ea P t (aT P A.aE ty sl x) (lo.map (aT P A.aE 0 sl)) (hi.map (aT P A.aE 0 sl))).run C hp=some (r,rd)→pP P ((execOp a.eval ⟨dst,.slice t x lo hi none,ty,pos,after,guard⟩).run P w) w I β hp B M w0 r:=by
    intro h
    refine .val (s:=Instr.sliceAt t (a.eval x) (lo.map a.eval) (hi.map a.eval) none) (by simp[execOp]) (Z6 S (hs.ev hg ty x) (fun y hy=> ?_) (fun y hy=> ?_) (fun hy=> ?_) (fun hy=> ?_) h)
    ·cases lo with
     | none=>cases hy
     | some l=>cases hy;exact ⟨_,rfl,hs.ev hg 0 l⟩
    ·cases hi with
     | none=>cases hy
     | some l=>cases hy;exact ⟨_,rfl,hs.ev hg 0 l⟩
    ·cases lo with
     | none=>rfl
     | some l=>cases hy
    ·cases hi with
     | none=>rfl
     | some l=>cases hy
   have tr:(Eb P nb t (aT P A.aE ty sl x) (lo.map (aT P A.aE 0 sl)) (hi.map (aT P A.aE 0 sl))).run C hp=some (r,rd)→pP P ((execOp a.eval ⟨dst,.slice t x lo hi none,ty,pos,after,guard⟩).run P w) w I β hp B M w0 r:=by
    intro h
    refine .val (s:=Instr.sliceAt t (a.eval x) (lo.map a.eval) (hi.map a.eval) none) (by simp[execOp]) (aab S (hs.ev hg ty x) (fun y hy=> ?_) (fun hy=> ?_) h)
    ·cases hi with
     | none=>cases hy
     | some l=>cases hy;exact ⟨_,rfl,hs.ev hg 0 l⟩
    ·cases lo with
     | none=>rfl
     | some l=>cases hy
   cases dst with
   | none=>exact plain h
   | some d=>
    simp only at h
    cases Qf:ku A.wF d with
    | true=>rw[Qf] at h;exact tr h
    | false=>rw[Qf] at h;exact plain h
 case extract x i=>
  have hx:=hs.ev hg ty x
  cases fw:aT P A.aE ty sl x<;>rw[fw] at h hx<;>simp only at h<;>first|(cases h;done)|skip
  exact .val (s:=Instr.extract (a.eval x) i) rfl (Z1 S hx h)
 case makeSlice t l c=>
  have hl:=hs.ev hg 0 l
  have hc:=hs.ev hg 0 c
  refine .val (s:=Instr.makeSlice t (a.eval l) (a.eval c)) rfl ?_
  cases hu:P.underlying t with
  | none=>rw[hu] at h;cases h
  | some d=>
   rw[hu] at h
   cases d<;>(try (cases h;done))
   cases J6:aT P A.aE 0 sl l<;>rw[J6] at h hl<;>(try (cases h;done))
   cases uG:aT P A.aE 0 sl c<;>rw[uG] at h hc<;>(try (cases h;done))
   rw[hl.dZ,hc.dZ]
   cases dst with
   | none=>exact PE S hu h
   | some d=>
    simp only at h
    cases hg:ku A.wF d with
    | true=>rw[hg] at h;exact ZK S hu h
    | false=>rw[hg] at h;exact PE S hu h
 case call c=>
  obtain ⟨callee,args,argTypes⟩:=c
  cases callee with
  | invoke r m=>cases h
  | value f=>
   cases f with
   | func f=>cases J5
   | tmp f=>cases J5
   | _=>cases h
  | builtin b=>
   have one: ∀{x:Operand},args.toList=[x]→args= #[x]:=fun h=>by rw[←Array.toArray_toList (xs:=args),h]
   have rn: ∀(s:Array TypeId→TypeId→Array Value→Sem Value),builtin b argTypes ty (args.map fun| .const _=>true|_=>false) (args.map a.eval)=(do Pure.pure (Next.value (←s argTypes ty (args.map a.eval))))→
     execOp a.eval ⟨dst,.call ⟨.builtin b,args,argTypes⟩,ty,pos,after,guard⟩=(do Pure.pure (Next.value (←s argTypes ty (args.map a.eval)))):=by
    intro s hb
    simp only[execOp,resolve,pure_bind,invoke]
    exact hb
   cases b<;>(try (cases h;done))
   case append=>
    simp only at h
    cases ha:args.toList with
    | nil=>rw[ha] at h;cases h
    | cons x l=>
     cases l with
     | nil=>rw[ha] at h;cases h
     | cons y l2=>
      cases l2 with
      | cons _ _=>rw[ha] at h;cases h
      | nil=>
       cases dD:argTypes.toList with
       | nil=>rw[ha,dD] at h;cases h
       | cons t l3=>
        cases l3 with
        | nil=>rw[ha,dD] at h;cases h
        | cons u l4=>
         cases l4 with
         | cons _ _=>rw[ha,dD] at h;cases h
         | nil=>
          rw[ha,dD] at h
          simp only at h
          have e1:args= #[x,y]:=by rw[←Array.toArray_toList (xs:=args),ha]
          have e2:argTypes= #[t,u]:=by rw[←Array.toArray_toList (xs:=argTypes),dD]
          cases hu:P.underlying t with
          | none=>rw[hu] at h;cases h
          | some d=>
           rw[hu] at h
           cases d<;>(try (cases h;done))
           cases hc:Nat.beq t u with
           | true=>
            rw[hc] at h
            rw[a9] at hc
            subst hc
            have:=ZN (ty:=ty) S hu (hs.ev hg t x) (hs.ev hg t y) h
            refine .val (rn Builtin.append_ rfl) ?_
            rw[e1,e2]
            simpa using this
           | false=>
            rw[hc] at h
            simp only[cond_false] at h
            have hy:=hs.ev hg u y
            cases oU:P.underlying u with
            | none=>rw[oU] at h;cases h
            | some du=>
             rw[oU] at h
             cases du<;>(try (cases h;done))
             cases sU:aT P A.aE u sl y<;>rw[sU] at h hy<;>(try (cases h;done))
             simp only at h
             obtain ⟨hb,h⟩:=aH h
             obtain ⟨s1,q1,q2⟩:=hy.mH
             subst q2
             have:=aaq (ty:=ty) S hu oU (aaz hb) (hs.ev hg t x) h
             refine .val (rn Builtin.append_ rfl) ?_
             rw[e1,e2]
             simpa[q1] using this
   case len=>
    simp only at h
    cases ha:args.toList with
    | nil=>rw[ha] at h;cases h
    | cons x l=>
     cases l with
     | cons _ _=>rw[ha] at h;cases h
     | nil=>
      cases dD:argTypes.toList with
      | nil=>rw[ha,dD] at h;cases h
      | cons t l3=>
       cases l3 with
       | cons _ _=>rw[ha,dD] at h;cases h
       | nil=>
        rw[ha,dD] at h
        simp only at h
        have e1:args= #[x]:=by rw[←Array.toArray_toList (xs:=args),ha]
        have e2:argTypes= #[t]:=by rw[←Array.toArray_toList (xs:=argTypes),dD]
        have hx:=hs.ev hg ty x
        refine .val (rn Builtin.len_ rfl) ?_
        rw[e1,e2]
        cases hu:P.underlying t with
        | none=>rw[hu] at h;cases h
        | some d=>
         rw[hu] at h
         cases d<;>(try (cases h;done))
         ·cases fw:aT P A.aE ty sl x<;>rw[fw] at h hx<;>(try (cases h;done))
          have:=O2 (t:=t) (ty:=ty) S hx (fun l hl=>hu) (fun hn=>absurd rfl (hn _)) h
          simpa using this
         ·have U:(∀l,aT P A.aE ty sl x≠ .str l)∧(D5 P (aT P A.aE ty sl x)).run C hp=some (r,rd):=by
           cases fw:aT P A.aE ty sl x<;>rw[fw] at h<;>first|(cases h;done)|exact ⟨fun l=>by simp,h⟩
          have:=O2 (t:=t) (ty:=ty) S hx (fun l hl=>absurd hl (U.1 l)) (fun _=>⟨_,hu⟩) U.2
          simpa using this
         ·have U:(D9 (aT P A.aE ty sl x)).run C hp=some (r,rd):=by
           cases fw:aT P A.aE ty sl x<;>rw[fw] at h<;>exact h
          have:=aak (t:=t) (ty:=ty) S hu hx U
          simpa using this
   case unsafeSliceData=>
    simp only at h
    cases ha:args.toList with
    | nil=>rw[ha] at h;cases h
    | cons x l=>
     cases l with
     | cons _ _=>rw[ha] at h;cases h
     | nil=>
      rw[ha] at h
      simp only at h
      have e1:args= #[x]:=by rw[←Array.toArray_toList (xs:=args),ha]
      have hx:=hs.ev hg ty x
      refine .val (rn Builtin.unsafeSliceData_ rfl) ?_
      rw[e1]
      cases fw:aT P A.aE ty sl x<;>rw[fw] at h hx<;>simp only at h<;>first|(cases h;done)|skip
      rename_i e id
      obtain ⟨l2,h1⟩:=run_get h
      cases ab:hp id with
      | none=>rw[ab] at h1;cases h1
      | some blk=>
       rw[ab] at h1
       cases blk<;>simp only at h1<;>first|(cases h1;done)|skip
       rename_i e' es fz
       obtain ⟨U,h3⟩:=aH h1
       simp only[aP,a9,ko] at U
       obtain ⟨rfl,h4⟩:=U
       obtain rfl:=aR h3
       have:=aaA (ts:=argTypes) (ty:=ty) S hx ab h4
       simpa using this
   case unsafeString=>
    simp only at h
    cases ha:args.toList with
    | nil=>rw[ha] at h;cases h
    | cons x l=>
     cases l with
     | nil=>rw[ha] at h;cases h
     | cons y l2=>
      cases l2 with
      | cons _ _=>rw[ha] at h;cases h
      | nil=>
       cases dD:argTypes.toList with
       | nil=>rw[ha,dD] at h;cases h
       | cons t l3=>
        cases l3 with
        | nil=>rw[ha,dD] at h;cases h
        | cons u l4=>
         cases l4 with
         | cons _ _=>rw[ha,dD] at h;cases h
         | nil=>
          rw[ha,dD] at h
          simp only at h
          have e1:args= #[x,y]:=by rw[←Array.toArray_toList (xs:=args),ha]
          have e2:argTypes= #[t,u]:=by rw[←Array.toArray_toList (xs:=argTypes),dD]
          have hx:=hs.ev hg ty x
          have hy:=hs.ev hg ty y
          cases hu:P.underlying t with
          | none=>rw[hu] at h;cases h
          | some d=>
           rw[hu] at h
           cases d<;>(try (cases h;done))
           rename_i e
           cases fw:aT P A.aE ty sl x<;>rw[fw] at h hx<;>(try (cases h;done))
           cases sU:aT P A.aE ty sl y<;>rw[sU] at h hy<;>(try (cases h;done))
           rename_i id i c k n
           cases k<;>(try (cases h;done))
           simp only at h
           obtain ⟨l2,h1⟩:=run_get h
           cases ab:hp id with
           | none=>rw[ab] at h1;cases h1
           | some blk=>
            rw[ab] at h1
            cases blk<;>simp only at h1<;>first|(cases h1;done)|skip
            rename_i e' es fz
            cases fz<;>simp only at h1<;>first|(cases h1;done)|skip
            obtain ⟨U,h3⟩:=aH h1
            simp only[aP,a9,dh,eg] at U
            obtain ⟨rfl,h4,rfl,rfl,h5,h6,h7,h8⟩:=U
            obtain rfl:=aR h3
            have:=aaB (u:=u) (ty:=ty) S hu h4 hx ab h5 h6 h7 h8
            refine .val (rn Builtin.unsafeString_ rfl) ?_
            rw[e1,e2]
            simpa[hy.dZ] using this
   case copy=>
    simp only at h
    cases ha:args.toList with
    | nil=>rw[ha] at h;cases h
    | cons x l=>
     cases l with
     | nil=>rw[ha] at h;cases h
     | cons y l2=>
      cases l2 with
      | cons _ _=>rw[ha] at h;cases h
      | nil=>
       cases dD:argTypes.toList with
       | nil=>rw[ha,dD] at h;cases h
       | cons t l3=>
        cases l3 with
        | nil=>rw[ha,dD] at h;cases h
        | cons u l4=>
         cases l4 with
         | cons _ _=>rw[ha,dD] at h;cases h
         | nil=>
          rw[ha,dD] at h
          simp only at h
          have e1:args= #[x,y]:=by rw[←Array.toArray_toList (xs:=args),ha]
          have e2:argTypes= #[t,u]:=by rw[←Array.toArray_toList (xs:=argTypes),dD]
          cases hu:P.underlying t with
          | none=>rw[hu] at h;cases h
          | some d=>
           rw[hu] at h
           cases d<;>(try (cases h;done))
           have:=ZU (u:=u) (ty:=ty) S hu (hs.ev hg t x) (hs.ev hg u y) h
           refine .val (rn Builtin.copy_ rfl) ?_
           rw[e1,e2]
           simpa using this
   case clear=>
    simp only at h
    cases ha:args.toList with
    | nil=>rw[ha] at h;cases h
    | cons x l=>
     cases l with
     | cons _ _=>rw[ha] at h;cases h
     | nil=>
      cases dD:argTypes.toList with
      | nil=>rw[ha,dD] at h;cases h
      | cons t l3=>
       cases l3 with
       | cons _ _=>rw[ha,dD] at h;cases h
       | nil=>
        rw[ha,dD] at h
        simp only at h
        have e1:args= #[x]:=by rw[←Array.toArray_toList (xs:=args),ha]
        have e2:argTypes= #[t]:=by rw[←Array.toArray_toList (xs:=argTypes),dD]
        cases hu:P.underlying t with
        | none=>rw[hu] at h;cases h
        | some d=>
         rw[hu] at h
         cases d<;>(try (cases h;done))
         have:=ZV (ty:=ty) S hu (hs.ev hg t x) h
         refine .val (rn Builtin.clear_ rfl) ?_
         rw[e1,e2]
         simpa using this
   case max=>
    simp only at h
    cases ha:args.toList with
    | nil=>rw[ha] at h;cases h
    | cons x l=>
     rw[ha] at h
     simp only at h
     have:=JN S true (vs:=l.map a.eval) (xs:=l.map (aT P A.aE ty sl)) (hs.ev hg ty x) (by simp) (fun j u y hu hy=>by
      simp only[fI] at hu hy
      cases hl:l[j]? with
      | none=>rw[hl] at hu;cases hu
      | some z=>rw[hl] at hu hy;cases hu;cases hy;exact hs.ev hg ty z) h
     refine .val (rn Builtin.max_ rfl) ?_
     simpa[Builtin.max_,ha] using this
   case min=>
    simp only at h
    cases ha:args.toList with
    | nil=>rw[ha] at h;cases h
    | cons x l=>
     rw[ha] at h
     simp only at h
     have:=JN S false (vs:=l.map a.eval) (xs:=l.map (aT P A.aE ty sl)) (hs.ev hg ty x) (by simp) (fun j u y hu hy=>by
      simp only[fI] at hu hy
      cases hl:l[j]? with
      | none=>rw[hl] at hu;cases hu
      | some z=>rw[hl] at hu hy;cases hu;cases hy;exact hs.ev hg ty z) h
     refine .val (rn Builtin.min_ rfl) ?_
     simpa[Builtin.min_,ha] using this
end
section
variable {P:Program} {A:cS} {w w':World} {I I' I2:Nat→Prop} {μ β β':Nat→Option Nat} {hp hp':Nat→Option an} {C:ae} {B:Nat} {M:Nat→Prop} {w0:Start}
theorem xq: ∀{l m:List Nat},eE.oH l m=true→l=m
 | [],[],_=>rfl
 | [],_::_,h=>by cases h
 | _::_,[],h=>by cases h
 | a::l,b::m,h=>by
  simp only[eE.oH,aP,a9] at h
  rw[h.1,xq h.2]
@[simp] theorem Qg (n:Nat):ld (er n)=n:=by simp[ld,er,V.toInt]
theorem E7: ∀(path:List (Nat × Nat)) (rest:List V),Ab (path.map (·.2)) ((path.map fun p=>er p.1)++rest)=path
 | [],_=>rfl
 | p::l,rest=>by
  simp only[cJ,List.cons_append,Ab,V.nth,Qg,la,jt,E7 l rest]
theorem E8 {l:LS} {x:V} {ds:List V} (h:eE l x=some ds):ds.length=l.size∧(l= .qF∨∀rest,iS l (ds++rest)=x):=by
 cases l with
 | qF=>simp only[eE,eh] at h;subst h;exact ⟨rfl,.inl rfl⟩
 | int k=>
  cases x<;>simp only[eE] at h<;>first|(cases h;done)|skip
  rename_i k' n
  by_cases hk:k=k'
  ·subst hk
   simp only[sh,cond_true,eh] at h
   subst h
   exact ⟨rfl,.inr fun _=>rfl⟩
  ·simp[hk] at h
 | bool=>
  cases x<;>simp only[eE] at h<;>first|(cases h;done)|skip
  cases h
  exact ⟨rfl,.inr fun _=>rfl⟩
 | str=>
  cases x<;>simp only[eE] at h<;>first|(cases h;done)|skip
  cases h
  exact ⟨rfl,.inr fun _=>rfl⟩
 | list e=>
  cases x<;>simp only[eE] at h<;>first|(cases h;done)|skip
  rename_i e' es
  cases hb:Nat.beq e e' with
  | false=>rw[hb] at h;cases h
  | true=>
   rw[hb] at h
   rw[a9] at hb
   subst hb
   cases h
   exact ⟨rfl,.inr fun _=>rfl⟩
 | whole e j=>
  cases x<;>simp only[eE] at h<;>first|(cases h;done)|skip
  rename_i e' id
  cases hb:(Nat.beq e e'&&Nat.beq j id) with
  | false=>rw[hb] at h;cases h
  | true=>
   rw[hb] at h
   simp only[aP,a9] at hb
   obtain ⟨rfl,rfl⟩:=hb
   cases h
   exact ⟨rfl,.inr fun _=>rfl⟩
 | sub e j=>
  cases x<;>simp only[eE] at h<;>first|(cases h;done)|skip
  rename_i e' id o n
  cases hb:(Nat.beq e e'&&Nat.beq j id) with
  | false=>rw[hb] at h;cases h
  | true=>
   rw[hb] at h
   simp only[aP,a9] at hb
   obtain ⟨rfl,rfl⟩:=hb
   cases h
   exact ⟨rfl,.inr fun _=>by simp[iS,V.nth]⟩
 | ptr j=>
  cases x<;>simp only[eE] at h<;>first|(cases h;done)|skip
  rename_i id i c
  cases hb:(Nat.beq j id) with
  | false=>rw[hb] at h;cases h
  | true=>
   rw[hb] at h
   rw[a9] at hb
   subst hb
   cases h
   exact ⟨rfl,.inr fun _=>by simp[iS,V.nth]⟩
 | nr j i c=>
  cases x<;>simp only[eE] at h<;>first|(cases h;done)|skip
  rename_i id i' c'
  cases hb:(Nat.beq j id&&(Nat.beq i i'&&Nat.beq c c')) with
  | false=>rw[hb] at h;cases h
  | true=>
   rw[hb] at h
   simp only[aP,a9] at hb
   obtain ⟨rfl,rfl,rfl⟩:=hb
   cases h
   exact ⟨rfl,.inr fun _=>rfl⟩
 | nilS e=>
  cases x<;>simp only[eE] at h<;>first|(cases h;done)|skip
  rename_i e'
  cases hb:Nat.beq e e' with
  | false=>rw[hb] at h;cases h
  | true=>
   rw[hb] at h
   rw[a9] at hb
   subst hb
   cases h
   exact ⟨rfl,.inr fun _=>rfl⟩
 | dB=>
  cases x<;>simp only[eE] at h<;>first|(cases h;done)|skip
  cases h
  exact ⟨rfl,.inr fun _=>rfl⟩
 | cG e j=>
  cases x<;>simp only[eE] at h<;>first|(cases h;done)|skip
  rename_i e' id
  cases hb:(Nat.beq e e'&&Nat.beq j id) with
  | false=>rw[hb] at h;cases h
  | true=>
   rw[hb] at h
   simp only[aP,a9] at hb
   obtain ⟨rfl,rfl⟩:=hb
   cases h
   exact ⟨rfl,.inr fun _=>rfl⟩
 | dJ e=>
  cases x<;>simp only[eE] at h<;>first|(cases h;done)|skip
  rename_i e'
  cases hb:Nat.beq e e' with
  | false=>rw[hb] at h;cases h
  | true=>
   rw[hb] at h
   rw[a9] at hb
   subst hb
   cases h
   exact ⟨rfl,.inr fun _=>rfl⟩
 | DZ k n=>
  cases x<;>simp only[eE] at h<;>first|(cases h;done)|skip
  rename_i k' m
  cases hb:(decide (k=k')&&decide (m=n)) with
  | false=>rw[hb] at h;cases h
  | true=>
   rw[hb] at h
   simp only[aP,eg] at hb
   obtain ⟨rfl,rfl⟩:=hb
   cases h
   exact ⟨rfl,.inr fun _=>rfl⟩
 | wE b=>
  cases x<;>simp only[eE] at h<;>first|(cases h;done)|skip
  rename_i c
  cases hb:decide (b=c) with
  | false=>rw[hb] at h;cases h
  | true=>
   rw[hb] at h
   obtain rfl:=gm hb
   cases h
   exact ⟨rfl,.inr fun _=>rfl⟩
 | row e j cs=>
  cases x<;>simp only[eE] at h<;>first|(cases h;done)|skip
  rename_i e' id ver path
  cases hb:(Nat.beq e e'&&(Nat.beq j id&&(Nat.beq ver 0&&eE.oH cs (path.map (·.2))))) with
  | false=>rw[hb] at h;cases h
  | true=>
   rw[hb] at h
   simp only[aP,a9] at hb
   obtain ⟨rfl,rfl,rfl,oP⟩:=hb
   have:=xq oP
   subst this
   cases h
   exact ⟨by simp[LS.size],.inr fun rest=>by simp only[iS,E7]⟩
 | cR j cs c=>
  cases x<;>simp only[eE] at h<;>first|(cases h;done)|skip
  rename_i id ver path i c'
  cases hb:(Nat.beq j id&&(Nat.beq ver 0&&(Nat.beq c c'&&eE.oH cs (path.map (·.2))))) with
  | false=>rw[hb] at h;cases h
  | true=>
   rw[hb] at h
   simp only[aP,a9] at hb
   obtain ⟨rfl,rfl,rfl,oP⟩:=hb
   have:=xq oP
   subst this
   cases h
   exact ⟨by simp[LS.size],.inr fun rest=>by simp only[iS,List.cons_append,V.nth,Qg,la,jt,E7]⟩
def LS.below (n:Nat) (x:V):Prop:= ∀id∈eF x,id<n
def Qh:V→Prop
 | .agg _=>False
 | .bq _=>False
 | .fn .. =>False
 | .pref .. =>False
 | _=>True
theorem uN {c:Bool} {a d:List V} (h:(bif c then some a else none)=some d):c=true:=by
 cases c with
 | true=>rfl
 | false=>cases h
theorem aaE {l:LS} {x:V} {ds:List V} {n:Nat} (h:eE l x=some ds) (hl:l≠ .qF) (au:l.ok n=true):Qh x∧LS.below n x:=by
 cases l<;>cases x<;>simp only[eE] at h<;>first|(cases h;done)|(exact absurd rfl hl)|skip
 all_goals refine ⟨trivial,fun id ab=> ?_⟩
 all_goals simp only[eF,eC,List.not_mem_nil] at ab
 all_goals subst ab
 all_goals simp only[LS.ok,ko] at au
 all_goals
  have hb:=uN h
  simp only[aP,a9] at hb
  omega
theorem ao.aaF {v:Value} {x:V} (h:ao P w I β hp v x) (hx:Qh x) (hs: ∀id∈eF x,hp' id=hp id∧β' id=β id):ao P w I β' hp' v x:=by
 have one: ∀{id},id∈eF x→hp' id=hp id∧β' id=β id:=fun h=>hs _ h
 cases h with
 | undef=>exact .undef
 | int=>exact .int
 | bool=>exact .bool
 | str h=>exact .str h
 | list h=>exact .list h
 | nilS=>exact .nilS
 | agg=>exact hx.elim
 | bq=>exact hx.elim
 | dB=>exact .dB
 | fn=>exact hx.elim
 | pref=>exact hx.elim
 | eu h=>exact .eu ((one (by simp[eF])).1.trans h)
 | gp h=>exact .gp ((one (by simp[eF])).1.trans h)
 | kD h=>exact .kD ((one (by simp[eF])).1.trans h)
 | dO h hb=>exact .dO ((one (by simp[eF])).1.trans h) ((one (by simp[eF])).2.trans hb)
 | whole h hb a b c=>exact .whole ((one (by simp[eF])).1.trans h) ((one (by simp[eF])).2.trans hb) a b c
 | eG h hb a b c=>exact .eG ((one (by simp[eF])).1.trans h) ((one (by simp[eF])).2.trans hb) a b c
 | ga h hb=>exact .ga ((one (by simp[eF])).1.trans h) ((one (by simp[eF])).2.trans hb)
 | sub h hb a b c=>exact .sub ((one (by simp[eF])).1.trans h) ((one (by simp[eF])).2.trans hb) a b c
 | ptr h hd hb=>exact .ptr ((one (by simp[eF])).1.trans h) hd ((one (by simp[eF])).2.trans hb)
 | jN h ri=>exact .jN ((one (by simp[eF])).1.trans h) ri
 | jO h ri=>exact .jO ((one (by simp[eF])).1.trans h) ri
 | row h hb a b c d=>exact .row ((one (by simp[eF])).1.trans h) ((one (by simp[eF])).2.trans hb) a b c d
 | cR h hb a b c d e=>exact .cR ((one (by simp[eF])).1.trans h) ((one (by simp[eF])).2.trans hb) a b c d e
 | dJ=>exact .dJ
 | iE h=>exact .iE ((one (by simp[eF])).1.trans h)
 | cG h hb=>exact .cG ((one (by simp[eF])).1.trans h) ((one (by simp[eF])).2.trans hb)
theorem nO {a b:List V} {n:Nat} (h:a.length=n):(a++b).drop n=b:=by subst h;simp
def AT (n:Nat) (β:Nat→Option Nat) (hp:Nat→Option an) (β':Nat→Option Nat) (hp':Nat→Option an):Prop:= ∀id,id<n→hp' id=hp id∧β' id=β id
theorem Qi {l:LS} {x:V} {ds:List V} {n:Nat} {v:Value} (h:eE l x=some ds) (au:l.ok n=true) (jf:AT n β hp β' hp') (hv:ao P w I β hp v x) (rest:List V):
  ao P w I β' hp' v (iS l (ds++rest)):=by
 rcases (E8 h).2 with e|e
 ·subst e;exact .undef
 ·rw[e rest]
  by_cases hu:l= .qF
  ·subst hu
   have:x= .undef:=(e rest).symm
   subst this
   exact .undef
  ·obtain ⟨h1,U⟩:=aaE h hu au
   exact hv.aaF h1 fun id ab=>jf id (U id ab)
theorem AU {n:Nat} (jf:AT n β hp β' hp'): ∀{ls:List LS} {xs:List V} {ds:List V},pK ls xs=some ds→ls.all (LS.ok n)=true→
  ds.length=kA ls∧(∀rest,(iy ls (ds++rest)).length=xs.length)∧
  ∀(rest:List V) (j:Nat) (v:Value) (y:V),(∀x,xs[j]? =some x→ao P w I β hp v x)→(iy ls (ds++rest))[j]? =some y→ao P w I β' hp' v y
 | [],[],ds,h,_=>by cases h;exact ⟨rfl,fun _=>rfl,fun rest j v y _ hy=>by simp[iy] at hy⟩
 | [],_::_,ds,h,_=>by cases h
 | _::_,[],ds,h,_=>by cases h
 | l::ls,x::xs,ds,h,au=>by
  simp only[pK] at h
  obtain ⟨a,h1,h⟩:=bind_some h
  obtain ⟨b,U,h⟩:=bind_some h
  cases h
  simp only[List.all_cons,aP] at au
  obtain ⟨i1,i2,i3⟩:=AU jf U au.2
  have cA:=(E8 h1).1
  have hd: ∀rest,(a++b++rest).drop l.size=b++rest:=fun rest=>by rw[cF];exact nO cA
  refine ⟨by simp only[b9,kA];omega,fun rest=>by simp only[iy,List.length_cons,hd,i2],fun rest j v y hv hy=> ?_⟩
  simp only[iy,hd] at hy
  cases j with
  | zero=>
   simp at hy
   subst hy
   exact Qi h1 au.1 jf (hv x rfl) _
  | succ j=>exact i3 rest j v y (fun x hx=>hv x (by simpa using hx)) (by simpa using hy)
theorem J7: ∀{ls:List LS} {xs:List V} {ds:List V},pK ls xs=some ds→ls.all LS.plain=true→ds.length=kA ls∧∀rest,iy ls (ds++rest)=xs
 | [],[],ds,h,_=>by cases h;exact ⟨rfl,fun _=>rfl⟩
 | [],_::_,ds,h,_=>by cases h
 | _::_,[],ds,h,_=>by cases h
 | l::ls,x::xs,ds,h,au=>by
  simp only[pK] at h
  obtain ⟨a,h1,h⟩:=bind_some h
  obtain ⟨b,U,h⟩:=bind_some h
  cases h
  simp only[List.all_cons,aP] at au
  obtain ⟨i1,i2⟩:=J7 U au.2
  obtain ⟨cA,hm⟩:=E8 h1
  refine ⟨by simp only[b9,kA];omega,fun rest=> ?_⟩
  simp only[iy]
  rw[show (a++b++rest).drop l.size=b++rest by rw[cF];exact nO cA,i2,cF]
  rcases hm with e|e
  ·subst e;cases au.1
  ·rw[e]
theorem J8 {n:Nat} (jf:AT n β hp β' hp') {s:VS} {x:V} {ds:List V} (h:pL s x=some ds) (au:s.ok n=true):
  ds.length=s.size∧∀(rest:List V) (v:Value),ao P w I β hp v x→ao P w I β' hp' v (lg s (ds++rest)):=by
 cases s with
 | one l=>exact ⟨(E8 h).1,fun rest v hv=>Qi h au jf hv rest⟩
 | agg ls=>
  cases x<;>simp only[pL] at h<;>first|(cases h;done)|skip
  rename_i xs
  obtain ⟨i1,i2,i3⟩:=AU (P:=P) (w:=w) (I:=I) jf h au
  refine ⟨i1,fun rest v hv=> ?_⟩
  obtain ⟨cs,rfl,e1,e2⟩:=hv.ll
  exact .agg (by rw[i2];exact e1) fun j v y hj hy=>i3 rest j v y (fun x hx=>e2 j v x hj hx) hy
 | bq ls=>
  cases x<;>simp only[pL] at h<;>first|(cases h;done)|skip
  rename_i xs
  obtain ⟨i1,i2,i3⟩:=AU (P:=P) (w:=w) (I:=I) jf h au
  refine ⟨i1,fun rest v hv=> ?_⟩
  obtain ⟨cs,rfl,e1,e2⟩:=hv.uy
  exact .bq (by rw[i2];exact e1) fun j v y hj hy=>i3 rest j v y (fun x hx=>e2 j v x hj hx) hy
 | fn f a b=>
  cases x<;>simp only[pL] at h<;>first|(cases h;done)|skip
  rename_i f' xs ys
  cases hb:Nat.beq f f' with
  | false=>rw[hb] at h;cases h
  | true=>
   rw[hb] at h
   rw[a9] at hb
   subst hb
   simp only[cond_true] at h
   obtain ⟨p,h1,h⟩:=bind_some h
   obtain ⟨q,U,h⟩:=bind_some h
   cases h
   simp only[VS.ok,aP] at au
   obtain ⟨i1,i2,i3⟩:=AU (P:=P) (w:=w) (I:=I) jf h1 au.1
   obtain ⟨j1,j2,j3⟩:=AU (P:=P) (w:=w) (I:=I) jf U au.2
   refine ⟨by simp only[b9,VS.size];omega,fun rest v hv=> ?_⟩
   cases hv with
   | fn a1 a2 b1 b2=>
    simp only[lg]
    rw[show (p++q++rest).drop (kA a)=q++rest by rw[cF];exact nO i1,cF]
    exact .fn (by rw[i2];exact a1) (fun j v y hj hy=>i3 _ j v y (fun x hx=>a2 j v x hj hx) hy) (by rw[j2];exact b1) (fun j v y hj hy=>j3 _ j v y (fun x hx=>b2 j v x hj hx) hy)
 | pref ts ls=>
  cases x<;>simp only[pL] at h<;>first|(cases h;done)|skip
  rename_i wM xs
  cases hb:eE.oH ts wM with
  | false=>rw[hb] at h;cases h
  | true=>
   rw[hb] at h
   have:=xq hb
   subst this
   simp only[cond_true] at h
   refine ⟨?_,fun rest v hv=> ?_⟩
   ·exact (J7 h au).1
   ·simp only[lg]
    rw[(J7 h au).2]
    cases hv with
    | pref hl hI hc=>exact .pref hl hI hc
theorem AV {n:Nat} (jf:AT n β hp β' hp'): ∀{ls:List VS} {xs:List V} {ds:List V},qx ls xs=some ds→ls.all (VS.ok n)=true→
  ds.length=sD ls∧(∀rest,(fK ls (ds++rest)).length=xs.length)∧
  ∀(rest:List V) (j:Nat) (v:Value) (y:V),(∀x,xs[j]? =some x→ao P w I β hp v x)→(fK ls (ds++rest))[j]? =some y→ao P w I β' hp' v y
 | [],[],ds,h,_=>by cases h;exact ⟨rfl,fun _=>rfl,fun rest j v y _ hy=>by simp[fK] at hy⟩
 | [],_::_,ds,h,_=>by cases h
 | _::_,[],ds,h,_=>by cases h
 | l::ls,x::xs,ds,h,au=>by
  simp only[qx] at h
  obtain ⟨a,h1,h⟩:=bind_some h
  obtain ⟨b,U,h⟩:=bind_some h
  cases h
  simp only[List.all_cons,aP] at au
  obtain ⟨i1,i2,i3⟩:=AV jf U au.2
  obtain ⟨cA,xl⟩:=J8 (P:=P) (w:=w) (I:=I) jf h1 au.1
  have hd: ∀rest,(a++b++rest).drop l.size=b++rest:=fun rest=>by rw[cF];exact nO cA
  refine ⟨by simp only[b9,sD];omega,fun rest=>by simp only[fK,List.length_cons,hd,i2],fun rest j v y hv hy=> ?_⟩
  simp only[fK,hd] at hy
  cases j with
  | zero=>
   simp at hy
   subst hy
   exact xl _ v (hv x rfl)
  | succ j=>exact i3 rest j v y (fun x hx=>hv x (by simpa using hx)) (by simpa using hy)
end
section
variable {P:Program} {A:cS} {w w':World} {I I' I2:Nat→Prop} {μ β β':Nat→Option Nat} {hp hp' hp0:Nat→Option an} {C:ae} {B:Nat} {M:Nat→Prop} {w0:Start}
theorem ic: ∀{l:List an} {j:Nat},jL l j=l[j]?
 | [],j=>by simp[jL]
 | b::l,0=>rfl
 | b::l,j+1=>by simp only[jL,ic,List.getElem?_cons_succ]
theorem J9 {sl:Nat→V} {k:Nat} {y:V}: ∀{l:List (Nat × VS)} {ds:List V},z9 sl l=some ds→(∀p∈l,∀d,pL p.2 (sl p.1)=some d→d.length=p.2.size)→
  ds.length=oI l∧∀rest,dN (fq l (ds++rest)) k=some y→∃s d gy,(k,s)∈l∧pL s (sl k)=some d∧y=lg s (d++gy)
 | [],ds,h,_=>by cases h;exact ⟨rfl,fun rest h=>by cases h⟩
 | (q,s)::l,ds,h,hz=>by
  simp only[z9] at h
  obtain ⟨a,h1,h⟩:=bind_some h
  obtain ⟨b,U,h⟩:=bind_some h
  cases h
  obtain ⟨i1,i2⟩:=J9 (k:=k) (y:=y) U fun p hp=>hz p (lM _ hp)
  have cA:=hz (q,s) (sm ..) a h1
  refine ⟨by simp only[b9,oI];simp only at cA;omega,fun rest hl=> ?_⟩
  simp only[fq,dN] at hl
  rw[show (a++b++rest).drop s.size=b++rest by rw[cF];exact nO cA] at hl
  cases hb:Nat.beq k q with
  | true=>
   rw[hb] at hl
   rw[a9] at hb
   subst hb
   cases hl
   exact ⟨s,a,b++rest,sm ..,h1,by rw[cF]⟩
  | false=>
   rw[hb] at hl
   obtain ⟨s',d,gy,m1,m2,m3⟩:=i2 rest hl
   exact ⟨s',d,gy,lM _ m1,m2,m3⟩
theorem Ka {α:Type} {c:Bool} {x:Option α} {a:α} (h:(bif c then x else none)=some a):c=true∧x=some a:=by
 cases c with
 | true=>exact ⟨rfl,h⟩
 | false=>cases h
theorem aaG {n:Nat} {b:BS} {o:Option an} {ds:List V} (h:lf b o=some ds) (au:b.ok n=true):ds.length=b.size:=by
 cases b with
 | dead=>cases o<;>(cases h;rfl)
 | var T0 ls=>
  cases o with
  | none=>cases h
  | some blk=>
   cases blk<;>simp only[lf] at h<;>first|(cases h;done)|skip
   exact (AV (P:=default) (w:=default) (I:=fun _=>False) (β:=fun _=>none) (hp:=fun _=>none) (fun _ _=>⟨rfl,rfl⟩) (Ka h).2 au).1
 | arr e fz=>
  cases o with
  | none=>cases h
  | some blk=>
   cases blk<;>simp only[lf] at h<;>first|(cases h;done)|skip
   rw[uN h] at h
   cases h
   rfl
 | nest e=>
  cases o with
  | none=>cases h
  | some blk=>
   cases blk<;>simp only[lf] at h<;>first|(cases h;done)|skip
   rw[uN h] at h
   cases h
   rfl
 | map t=>
  cases o with
  | none=>cases h
  | some blk=>
   cases blk<;>simp only[lf] at h<;>first|(cases h;done)|skip
   rw[uN h] at h
   cases h
   rfl
theorem Qj {n:Nat}: ∀{l:List BS} {j:Nat} {ds:List V},Aa hp j l=some ds→l.all (BS.ok n)=true→
  (∀rest,(eP l (ds++rest)).length=l.length)∧∀(rest:List V) (i:Nat) (blk:an),(eP l (ds++rest))[i]? =some blk→∃b d gy,l[i]? =some b∧b.ok n=true∧lf b (hp (j+i))=some d∧blk=fX b (d++gy)
 | [],j,ds,h,_=>by cases h;exact ⟨fun _=>rfl,fun rest i blk hb=>by simp[eP] at hb⟩
 | b::l,j,ds,h,au=>by
  simp only[Aa] at h
  obtain ⟨a,h1,h⟩:=bind_some h
  obtain ⟨c,U,h⟩:=bind_some h
  cases h
  simp only[List.all_cons,aP] at au
  obtain ⟨i1,i2⟩:=Qj U au.2
  have cA:=aaG h1 au.1
  have hd: ∀rest,(a++c++rest).drop b.size=c++rest:=fun rest=>by rw[cF];exact nO cA
  refine ⟨fun rest=>by simp only[eP,List.length_cons,hd,i1],fun rest i blk hb=> ?_⟩
  simp only[eP,hd] at hb
  cases i with
  | zero=>
   simp at hb
   exact ⟨b,a,c++rest,rfl,au.1,h1,by rw[←hb]⟩
  | succ i=>
   obtain ⟨b',d,gy,m1,m2,m3,m4⟩:=i2 rest i blk (by simpa using hb)
   exact ⟨b',d,gy,by simpa using m1,m2,by rw[show j+(i+1)=j+1+i by omega];exact m3,m4⟩
theorem aaH {n:Nat} {b:BS} {blk:an} {ds rest:List V} (h:lf b (some blk)=some ds) (au:b.ok n=true):
  blk.le (fX b (ds++rest))∧(fX b (ds++rest)= .dead∨fX b (ds++rest)=blk∨∃T ls cs,b= .var T ls∧blk= .var T cs∧qx ls cs=some ds∧fX b (ds++rest)= .var T (fK ls (ds++rest))):=by
 cases b with
 | dead=>exact ⟨by cases blk<;>trivial,.inl rfl⟩
 | var T0 ls=>
  cases blk<;>simp only[lf] at h<;>first|(cases h;done)|skip
  obtain ⟨hT,h0⟩:=Ka h
  clear h
  rw[a9] at hT
  subst hT
  exact ⟨rfl,.inr (.inr ⟨_,_,_,rfl,rfl,h0,rfl⟩)⟩
 | arr e fz=>
  cases blk<;>simp only[lf] at h<;>first|(cases h;done)|skip
  rename_i e' es nw
  have hb:=uN h
  simp only[aP,a9,sn] at hb
  obtain ⟨rfl,rfl⟩:=hb
  simp only[jI,zQ,Bool.and_self,cond_true,eh] at h
  subst h
  exact ⟨⟨rfl,rfl⟩,.inr (.inl rfl)⟩
 | nest e=>
  cases blk<;>simp only[lf] at h<;>first|(cases h;done)|skip
  rename_i e' es ar
  have hb:=uN h
  simp only[aP,a9] at hb
  obtain ⟨rfl,hv⟩:=hb
  have:=xq hv
  subst this
  simp only[jI,my] at h
  cases h
  exact ⟨⟨rfl,rfl,rfl,fun _=>cg _⟩,.inr (.inl rfl)⟩
 | map t=>
  cases blk<;>simp only[lf] at h<;>first|(cases h;done)|skip
  rename_i t' es
  have hb:=uN h
  rw[a9] at hb
  subst hb
  simp only[jI,cond_true,eh] at h
  subst h
  exact ⟨rfl,.inr (.inl rfl)⟩
theorem Qk {m:Nat} {S:Shape} {st:St} {ds:List V} (h:jM m S st=some ds):
  S.ok=true∧m≤S.bj.length∧∃a b,z9 st.sl S.bZ=some a∧Aa st.hp 0 S.bj=some b∧ds=a++b:=by
 unfold jM at h
 cases hc:(S.ok&&Nat.ble m S.bj.length) with
 | false=>rw[hc] at h;cases h
 | true=>
  rw[hc] at h
  simp only[cond_true] at h
  simp only[aP,dh] at hc
  obtain ⟨a,h1,h⟩:=bind_some h
  obtain ⟨b,U,h⟩:=bind_some h
  cases h
  exact ⟨hc.1,hc.2,a,b,h1,U,rfl⟩
theorem reshape {m:Nat} {S:Shape} {st:St} {ds:List V} (h:jM m S st=some ds) (hS:aF P w I β st.hp B M w0):
  aF P w I β (bw S ds).hp B M w0∧(∀(k:Nat) (v:Value),ao P w I β st.hp v (st.sl k)→ao P w I β (bw S ds).hp v ((bw S ds).sl k))∧
  (∀(μ:Nat→Option Nat) (hp0:Nat→Option an),(∀id blk,hp0 id=some blk→id<m)→Le P w0.w w0.I μ hp0 w I β st.hp→Le P w0.w w0.I μ hp0 w I β (bw S ds).hp)∧
  ∀j blk',(bw S ds).hp j=some blk'→blk'≠ .dead→∃blk,st.hp j=some blk∧blk.le blk'∧∀o b,bE P w o blk' b→bE P w o blk b:=by
 obtain ⟨au,hm,a,b,h1,U,rfl⟩:=Qk h
 unfold Shape.ok at au
 rw[aP] at au
 obtain ⟨Ql,JP⟩:=au
 have bh: ∀p∈S.bZ,∀d,pL p.2 (st.sl p.1)=some d→d.length=p.2.size:=fun p hp d hd=>
  (J8 (P:=P) (w:=w) (I:=I) (β:=β) (hp:=st.hp) (fun _ _=>⟨rfl,rfl⟩) hd (fH.1 Ql p hp)).1
 have cA:a.length=oI S.bZ:=(J9 (k:=0) (y:= .undef) h1 bh).1
 have EZ:(bw S (a++b)).hp=jL (eP S.bj (b++[])):=by
  simp only[bw,mk,c9]
  rw[nO cA]
 obtain ⟨bl,bg⟩:=Qj U JP
 have get: ∀j blk',(bw S (a++b)).hp j=some blk'→j<S.bj.length∧∃bs d gy,bs.ok S.bj.length=true∧lf bs (st.hp j)=some d∧blk'=fX bs (d++gy):=by
  intro j blk' hj
  rw[EZ,ic] at hj
  obtain ⟨bs,d,gy,m1,m2,m3,m4⟩:=bg [] j blk' hj
  rw[gY] at m3
  exact ⟨(bD.1 m1).1,bs,d,gy,m2,m3,m4⟩
 have have': ∀j,j<S.bj.length→∃blk',(bw S (a++b)).hp j=some blk':=by
  intro j hj
  rw[EZ,ic]
  exact ⟨_,bG (by rw[bl];exact hj)⟩
 generalize gu:(bw S (a++b)).hp=uO at*
 let bu:Nat→Option an:=fun id=>if id<S.bj.length then uO id else st.hp id
 have back: ∀j blk',uO j=some blk'→blk'≠ .dead→∃blk,st.hp j=some blk∧blk.le blk'∧(blk'=blk∨∃T ls cs d gy,ls.all (VS.ok S.bj.length)=true∧blk= .var T cs∧qx ls cs=some d∧blk'= .var T (fK ls (d++gy))):=by
  intro j blk' hj hd
  obtain ⟨cz,bs,d,gy,m1,m2,m3⟩:=get j blk' hj
  cases bX:st.hp j with
  | none=>
   rw[bX] at m2
   cases bs<;>simp only[lf] at m2<;>first|(cases m2;done)|skip
   exact absurd m3 hd
  | some blk=>
   rw[bX] at m2
   obtain ⟨n1,n2⟩:=aaH (rest:=gy) m2 m1
   rw[←m3] at n1 n2
   refine ⟨blk,rfl,n1,?_⟩
   rcases n2 with e|e|⟨T,ls,cs,e1,e2,e3,e4⟩
   ·exact absurd e hd
   ·exact .inl e
   ·subst e1
    exact .inr ⟨T,ls,cs,d,gy,m1,e2,e3,e4⟩
 have le1: ∀j blk,st.hp j=some blk→j<S.bj.length→∃blk',uO j=some blk'∧blk.le blk':=by
  intro j blk hj cz
  obtain ⟨blk',aB⟩:=have' j cz
  refine ⟨blk',aB,?_⟩
  by_cases hd:blk'= .dead
  ·subst hd;cases blk<;>trivial
  ·obtain ⟨ch,e1,e2,_⟩:=back j blk' aB hd
   rw[hj] at e1;cases e1
   exact e2
 have aaI: ∀j e es ar e' aL vers',st.hp j=some (.nest e es ar)→uO j=some (.nest e' aL vers')→e'=e∧aL=es∧vers'=ar:=by
  intro j e es ar e' aL vers' hj gM
  obtain ⟨blk,e1,_,e3⟩:=back j _ gM (by simp)
  rw[hj] at e1;cases e1
  rcases e3 with e3|⟨_,_,_,_,_,_,e3,_⟩
  ·cases e3;exact ⟨rfl,rfl,rfl⟩
  ·cases e3
 have hle:Le P w I β st.hp w I β bu:=by
  refine ⟨fun _ h=>h,fun _ _=>rfl,fun id blk ab=> ?_,fun _ _ _ _ _ _ _ _=>rfl,Le.sK (fun _ _ _ _ _ _=>rfl) fun id e es ar e' aL vers' ab bL=> ?_⟩
  ·by_cases hl:id<S.bj.length
   ·obtain ⟨blk',e1,e2⟩:=le1 id blk ab hl
    exact ⟨blk',by simp only[bu,aj hl];exact e1,e2,fun _=>rfl⟩
   ·exact ⟨blk,by simp only[bu,ai hl];exact ab,an.le_refl _,fun _=>rfl⟩
  ·by_cases hl:id<S.bj.length
   ·simp only[bu,aj hl] at bL
    exact aaI _ _ _ _ _ _ _ ab bL
   ·simp only[bu,ai hl] at bL
    rw[ab] at bL;cases bL
    exact ⟨rfl,rfl,rfl⟩
 have jf:AT S.bj.length β bu β uO:=fun id ab=>⟨by simp only[bu,aj ab],rfl⟩
 have xe: ∀j blk' blk o b,uO j=some blk'→st.hp j=some blk→bE P w o blk' b→bE P w o blk b:=by
  intro j blk' blk o b gM hj ho
  obtain ⟨ch,e1,_,e3⟩:=back j blk' gM ho.alive
  rw[hj] at e1;cases e1
  rcases e3 with e3|⟨T,ls,cs,d,gy,_,e3,_,e5⟩
  ·subst e3;exact ho
  ·subst e3;subst e5
   exact .root (by simp) (ho.flat (by simp))
 refine ⟨⟨⟨fun j blk' hj=> ?_,fun j1 j2 b1 b2 b' e1 e2 o1 o2=> ?_,fun j blk b' hj ho=> ?_,hS.h.jP⟩,hS.cy,hS.size,hS.new,hS.io⟩,fun k v hv=> ?_,fun μ hp0 aO hE=> ?_,fun j blk' hj hd=> ?_⟩
 ·by_cases hd:blk'= .dead
  ·subst hd;exact .dead
  ·obtain ⟨blk,e1,_,e3⟩:=back j blk' hj hd
   have hr:=hS.h.rel j blk e1
   generalize β j=o at hr
   rcases e3 with e3|⟨T0,ls,cs,d,gy,q1,e3,e4,e5⟩
   ·subst e3
    cases hr with
    | @var xs b' Ca T hb hh hs c6 hx gr=>
     obtain ⟨cz,bs,d,gy,m1,m2,m3⟩:=get j _ hj
     rw[e1] at m2
     cases bs<;>simp only[lf] at m2<;>first|(cases m2;done)|skip
     ·rename_i T0 ls
      simp only[fX] at m3
      obtain ⟨hT,m2⟩:=Ka m2
      obtain ⟨i1,i2,i3⟩:=AV (P:=P) (w:=w) (I:=I) jf m2 m1
      injection m3 with m4 m3
      rw[m3]
      exact .var hb hh (by rw[i2];exact hs) c6 (fun i v y hi hy=>i3 gy i v y (fun x cL=>(hx i v x hi cL).mono hle) hy) gr
     ·simp only[fX] at m3
      cases m3
    | dP hb=>exact .dP hb
    | arr a1 a2 a3 a4 a5 a6 a7=>exact .arr a1 a2 a3 a4 a5 a6 a7
    | dead=>exact absurd rfl hd
    | nest a1 a2 a3=>exact .nest a1 a2 a3
    | map a1 a2 a3 a4 a5 a6 a7=>exact .map a1 a2 a3 a4 a5 a6 a7
   ·subst e3
    subst e5
    cases hr with
    | @var xs b' Ca T hb hh hs c6 hx gr=>
     obtain ⟨i1,i2,i3⟩:=AV (P:=P) (w:=w) (I:=I) jf e4 q1
     exact .var hb hh (by rw[i2];exact hs) c6 (fun i v y hi hy=>i3 gy i v y (fun x cL=>(hx i v x hi cL).mono hle) hy) gr
 ·obtain ⟨c1,x1,_,_⟩:=back j1 b1 e1 o1.alive
  obtain ⟨c2,x2,_,_⟩:=back j2 b2 e2 o2.alive
  exact hS.h.inj j1 j2 c1 c2 b' x1 x2 (xe _ _ _ _ _ e1 x1 o1) (xe _ _ _ _ _ e2 x2 o2)
 ·obtain ⟨c1,x1,_,_⟩:=back j blk hj ho.alive
  exact hS.h.own j c1 b' x1 (xe _ _ _ _ _ hj x1 ho)
 ·change ao P w I β uO v (jw (fq S.bZ (a++b)) k)
  unfold jw
  cases Kb:dN (fq S.bZ (a++b)) k with
  | none=>exact .undef
  | some y=>
   obtain ⟨s,d,gy,n1,n2,n3⟩:=(J9 h1 bh).2 b Kb
   simp only[Option.getD_some,n3]
   exact (J8 (P:=P) (w:=w) (I:=I) jf n2 (fH.1 Ql _ n1)).2 gy v (hv.mono hle)
 ·have h3:=hE.trans hle
  refine ⟨h3.dC,h3.cy,fun id blk ab=> ?_,fun id blk blk' b' ab bL hd hb=> ?_,fun id e es ar e' aL vers' b2 q i c t v e1 l ab bL=> ?_⟩
  ·have hl:=aO id blk ab
   obtain ⟨blk',k1,k2,k3⟩:=h3.blk id blk ab
   simp only[bu,aj (show id<S.bj.length by omega)] at k1
   exact ⟨blk',k1,k2,k3⟩
  ·have hl:=aO id blk ab
   exact h3.size id blk blk' b' ab (by simp only[bu,aj (show id<S.bj.length by omega)];exact bL) hd hb
  ·have hl:=aO id _ ab
   exact h3.row id e es ar e' aL vers' b2 q i c t v e1 l ab (by simp only[bu,aj (show id<S.bj.length by omega)];exact bL)
 ·obtain ⟨blk,e1,e2,_⟩:=back j blk' hj hd
  exact ⟨blk,e1,e2,fun o b' ho=>xe _ _ _ _ _ hj e1 ho⟩
end
section
variable {P:Program} {A:cS} {w w':World} {I I' I2:Nat→Prop} {μ β β':Nat→Option Nat} {hp hp' hp0:Nat→Option an} {C:ae} {B:Nat} {M:Nat→Prop} {w0:Start}
inductive ek (P:Program) (w:World) (β:Nat→Option Nat) (hp:Nat→Option an):Place→Option Nat→an→Prop
 | var {id:Nat} {T:TypeId} {cs Kc:List V}:hp id=some (.var T cs)→ek P w β hp (.blk id) (β id) (.var T Kc)
 | arr {id:Nat} {e:TypeId} {es:List V}:hp id=some (.arr e es false)→ek P w β hp (.blk id) (β id) (.arr e es false)
 | nest {id:Nat} {e:TypeId} {es:List V} {ar:List Nat}:hp id=some (.nest e es ar)→ek P w β hp (.blk id) (β id) (.nest e es [0,0,0])
 | row {id ver b b':Nat} {path:Path} {e0 e':TypeId} {es l:List V} {ar:List Nat}:hp id=some (.nest e0 es ar)→β id=some b→At P w b e0 es path b' e' l→z8 P e'=true→
   0<path.length→path.length≤ar.length→bK ar (path.length-1)=ver→0<l.length→ek P w β hp (.row id ver path) (some b') (.arr e' l false)
 | map {id:Nat} {t:TypeId} {es:List V}:hp id=some (.map t es)→ek P w β hp (.blk id) (β id) (.map t es)
def AW (P:Program) (w:World) (β:Nat→Option Nat) (hp:Nat→Option an) (ρ:List Place) (μ:Nat→Option Nat) (hp0:Nat→Option an):Prop:=
 ∀j p,et ρ j=some p→∃blk,hp0 j=some blk∧ek P w β hp p (μ j) blk
theorem oV: ∀{l m:List Place} {j:Nat} {p:Place},et l j=some p→et (l++m) j=some p
 | [],m,j,p,h=>by cases h
 | a::l,m,0,p,h=>h
 | a::l,m,j+1,p,h=>oV (l:=l) h
theorem ma: ∀{l:List Place} {j:Nat},et l j=l[j]?
 | [],j=>by simp[et]
 | a::l,0=>rfl
 | a::l,j+1=>by simp only[et,ma,List.getElem?_cons_succ]
structure Ext (P:Program) (w:World) (I:Nat→Prop) (β:Nat→Option Nat) (hp:Nat→Option an) (h h':Hand) (d:List V) (u:List (Nat × an)):Prop where
 ds:h'.ds=h.ds++d
 upd:h'.upd=h.upd++u
 E9: ∀q∈u,Aq hp q
 pl: ∃m,h'.pl=h.pl++m
 nodup:(h.pl.map Place.id).Nodup→(h'.pl.map Place.id).Nodup
theorem Ext.refl (h:Hand):Ext P w I β hp h h [] []:=⟨by simp,by simp,by simp,⟨[],by simp⟩,id⟩
theorem Ext.trans {h1 U h3:Hand} {d1 d2:List V} {u1 u2:List (Nat × an)} (a:Ext P w I β hp h1 U d1 u1) (b:Ext P w I β hp U h3 d2 u2):Ext P w I β hp h1 h3 (d1++d2) (u1++u2):=by
 obtain ⟨m1,e1⟩:=a.pl
 obtain ⟨m2,e2⟩:=b.pl
 exact ⟨by rw[b.ds,a.ds,cF],by rw[b.upd,a.upd,cF],fun q hq=>(eN.1 hq).elim (a.E9 q) (b.E9 q),⟨m1++m2,by rw[e2,e1,cF]⟩,fun h=>b.nodup (a.nodup h)⟩
theorem Ext.look {h h':Hand} {d:List V} {u:List (Nat × an)} (a:Ext P w I β hp h h' d u) {j:Nat} {p:Place} (hj:et h.pl j=some p):et h'.pl j=some p:=by
 obtain ⟨m,e⟩:=a.pl
 rw[e]
 exact oV hj
theorem Ext.leaf (h:Hand) (x:V):Ext P w I β hp h {h with ds:=h.ds++[x]} [x] []:=⟨rfl,by simp,by simp,⟨[],by simp⟩,id⟩
theorem aaJ {α:Type} {ρ:List Place} {j:Nat} {p:Place} {k:List Place→Rd α} {r:α} {rd:List Nat} (h:(unify ρ j p k).run C hp=some (r,rd)) (hb: ∃id,p= .blk id∨∃ver path,p= .row id ver path):
  ∃jU,(k jU).run C hp=some (r,rd)∧(∃m,jU=ρ++m)∧et jU j=some p∧((ρ.map Place.id).Nodup→(jU.map Place.id).Nodup):=by
 unfold unify at h
 cases hc:Nat.blt j ρ.length with
 | true=>
  rw[hc] at h
  obtain ⟨h1,U⟩:=aH h
  refine ⟨ρ,U,⟨[],by simp⟩,?_,id⟩
  unfold OP at h1
  split at h1
  ·rename_i a b he
   rw[a9] at h1
   subst h1
   exact he
  ·cases h1
 | false=>
  rw[hc] at h
  obtain ⟨h1,U⟩:=aH h
  simp only[aP,a9,mw] at h1
  obtain ⟨rfl,h3⟩:=h1
  refine ⟨ρ++[p],U,⟨[p],rfl⟩,?_,fun hn=> ?_⟩
  ·rw[ma];simp
  ·rw[eD,wA]
   refine ⟨hn,by simp,fun a ha b hb=> ?_⟩
   simp only[cJ,fT,eC] at hb
   subst hb
   intro e
   subst e
   rw[xb ha] at h3
   cases h3
theorem uP {α:Type} {h:Hand} {j:Nat} {p:Place} {k:List Place→Rd α} {r:α} {rd:List Nat} (hr:(unify h.pl j p k).run C hp=some (r,rd)) (ds:List V):
  ∃jU,(k jU).run C hp=some (r,rd)∧et jU j=some p∧Ext P w I β hp h {h with pl:=jU,ds:=h.ds++ds} ds []:=by
 obtain ⟨jU,a,b,c,d⟩:=aaJ hr (by cases p with|blk id=>exact ⟨id,.inl rfl⟩|row id ver path=>exact ⟨id,.inr ⟨ver,path,rfl⟩⟩)
 exact ⟨jU,a,c,⟨rfl,by simp,by simp,b,d⟩⟩
theorem aaK {o:Option Nat} {blk:an} {e:TypeId} {id j:Nat} {v:Value} (hv:ao P w I β hp v (.whole e id)) (hl:ek P w β hp (.blk id) o blk) (hj:hp0 j=some blk) (jV:μ j=o):ao P w I' μ hp0 v (.whole e j):=by
 cases hl with
 | var h=>
  cases hv with
  | eu U=>rw[h] at U;cases U
  | dO U=>rw[h] at U;cases U
  | whole U=>rw[h] at U;cases U
  | eG U=>rw[h] at U;cases U
 | arr h=>
  cases hv with
  | eu U=>rw[h] at U;cases U
  | dO U hb=>rw[h] at U;cases U;exact .dO hj (jV.trans hb)
  | whole U hb a b c=>rw[h] at U;cases U;exact .whole hj (jV.trans hb) a b c
  | eG U=>rw[h] at U;cases U
 | nest h=>
  cases hv with
  | eu U=>rw[h] at U;cases U
  | dO U=>rw[h] at U;cases U
  | whole U=>rw[h] at U;cases U
  | eG U hb a b c=>rw[h] at U;cases U;exact .eG hj (jV.trans hb) a b c
 | map h=>
  cases hv with
  | eu U=>rw[h] at U;cases U
  | dO U=>rw[h] at U;cases U
  | whole U=>rw[h] at U;cases U
  | eG U=>rw[h] at U;cases U
theorem aaL {o:Option Nat} {blk:an} {t:TypeId} {id j:Nat} {v:Value} (hv:ao P w I β hp v (.cG t id)) (hl:ek P w β hp (.blk id) o blk) (hj:hp0 j=some blk) (jV:μ j=o):ao P w I' μ hp0 v (.cG t j):=by
 cases hv with
 | iE U=>cases hl<;>(rename_i h;rw[h] at U;cases U)
 | cG U hb=>
  cases hl<;>(rename_i h;rw[h] at U;cases U)
  exact .cG hj (jV.trans hb)
theorem aaM {o:Option Nat} {blk:an} {e:TypeId} {id off n j:Nat} {v:Value} (hv:ao P w I β hp v (.sub e id off n)) (hl:ek P w β hp (.blk id) o blk) (hj:hp0 j=some blk) (jV:μ j=o):ao P w I' μ hp0 v (.sub e j off n):=by
 cases hl with
 | var h=>
  cases hv with
  | gp U=>rw[h] at U;cases U
  | ga U=>rw[h] at U;cases U
  | sub U=>rw[h] at U;cases U
 | arr h=>
  cases hv with
  | gp U=>rw[h] at U;cases U
  | ga U hb=>rw[h] at U;cases U;exact .ga hj (jV.trans hb)
  | sub U hb a b c=>rw[h] at U;cases U;exact .sub hj (jV.trans hb) a b c
 | nest h=>
  cases hv with
  | gp U=>rw[h] at U;cases U
  | ga U=>rw[h] at U;cases U
  | sub U=>rw[h] at U;cases U
 | map h=>
  cases hv with
  | gp U=>rw[h] at U;cases U
  | ga U=>rw[h] at U;cases U
  | sub U=>rw[h] at U;cases U
theorem Qm {o:Option Nat} {blk:an} {id i c j:Nat} {v:Value} (hv:ao P w I β hp v (.ptr id i c)) (hl:ek P w β hp (.blk id) o blk) (hj:hp0 j=some blk) (jV:μ j=o):ao P w I' μ hp0 v (.ptr j i c):=by
 cases hl with
 | @var _ T0 cs Kc h=>
  obtain ⟨b,hb,rfl⟩:=hv.hU h (by simp)
  exact ao.ptr (blk:= .var T0 Kc) hj (by simp) (jV.trans hb)
 | @arr _ e es h=>
  obtain ⟨b,hb,rfl⟩:=hv.hU h (by simp)
  exact ao.ptr (blk:= .arr e es false) hj (by simp) (jV.trans hb)
 | @nest _ e es ar h=>
  obtain ⟨b,hb,rfl⟩:=hv.hU h (by simp)
  exact ao.ptr (blk:= .nest e es [0,0,0]) hj (by simp) (jV.trans hb)
 | @map _ t es h=>
  obtain ⟨b,hb,rfl⟩:=hv.hU h (by simp)
  exact ao.ptr (blk:= .map t es) hj (by simp) (jV.trans hb)
theorem aaN (cU: ∀id blk,hp id=some blk→ei P w I β hp (β id) blk) {id b i c:Nat} {e0 t:TypeId} {es l:List V} {ar:List Nat} {q:Path} {e:TypeId} {v:Value} (ab:hp id=some (.nest e0 es ar)) (hb:β id=some b)
  (ht:P.underlying t=some (.slice e)) (hc:mF P w b e0 es q i c t v (.list e l)) (hl:0<l.length): ∃b1 cap,v= .slice (some ⟨b1,0,none⟩) l.length cap∧cap*P.cellsOf e=bsize w b1∧l.length≤cap∧cap≤maxLen∧At P w b e0 es (q++[(i,c)]) b1 e l:=by
 obtain ⟨b2,e1,m,Ca,T,f,x,n1,n2,n3,n4,n5,n6⟩:=hc
 have hr:=cU _ _ ab
 cases hr with
 | nest aB hr hn=>
  rw[hb] at aB;cases aB
  have hR:=hr _ _ _ _ n1
  obtain ⟨Au,c1,c2,c3⟩:=hR.cells
  rw[n2] at c1
  cases c1
  have ux:c<P.cellsOf e1:=by rw[←fN hR.ok];exact (bD.1 n4).1
  obtain ⟨v',d1,d2⟩:=c3 i c x t n3 n4 ux
  rw[n6] at d1
  cases d1
  rw[n5] at d2
  generalize hy:V.list e l=y at d2
  cases d2 with
  | fZ a p=>unfold fW at a;rw[ht] at a;cases a
  | emp hu ha=>cases hy;simp at hl
  | row hu jQ bh cp oN=>
   cases hy
   exact ⟨_,_,rfl,bh,cp,oN,n1.snoc n2 n3 n4 ht n5 jQ n6⟩
theorem aaO (S:aF P w I β hp B M w0) {o:Option Nat} {blk:an} {e:TypeId} {id ver j:Nat} {path:Path} {v:Value} (hv:ao P w I β hp v (.row e id ver path)) (hl:ek P w β hp (.row id ver path) o blk) (hj:hp0 j=some blk) (jV:μ j=o):ao P w I' μ hp0 v (.whole e j):=by
 cases hl with
 | row h hb ha hf h1 U h3 h4=>
  obtain ⟨b2,q,i,c,t,l2,rfl,jb,ht,hc⟩:=hv.OX h h1 U h3
  rw[hb] at jb;cases jb
  obtain ⟨p1,p2⟩:=Je ha
  have iX:=hc
  obtain ⟨b3,e3,m3,Ca,T,f,x,n1,n2,n3,n4,n5,n6⟩:=iX
  obtain ⟨q1,q2⟩:=Er n1 n3 n4 ht n5
  rw[p1] at q1
  rw[p2] at q2
  cases q1
  cases q2
  obtain ⟨b1,cap,rfl,m1,m2,m4,m5⟩:=aaN S.h.rel h hb ht hc h4
  have:=aaP ha m5
  subst this
  exact .whole hj jV m1 m2 m4
where
 aaP {b b1 b2:Nat} {e e1 e2:TypeId} {es l l2:List V} {q:Path} (h:At P w b e es q b1 e1 l) (U:At P w b e es q b2 e2 l2):b2=b1:=(h.fun U).1
theorem Qn (S:aF P w I β hp B M w0) {α:Type} {l:LS} {x:V} {h:Hand} {k:Hand→Rd α} {r:α} {rd:List Nat} {v:Value} (hr:(Ed P l x h k).run C hp=some (r,rd)) (hv:ao P w I β hp v x):
  ∃h' e9 d u,(k h').run C hp=some (r,e9)∧Ext P w I β hp h h' d u∧d.length=l.size∧
   ∀(I':Nat→Prop) (μ:Nat→Option Nat) (hp0:Nat→Option an),(∀b,I b→I' b)→(∀q∈u,∀b,sL P w β hp q.1 b→I' b)→∀ρ m,ρ=h'.pl++m→AW P w β hp ρ μ hp0→∀rest,ao P w I' μ hp0 v (iS l (d++rest)):=by
 have plain: ∀{x':V} {jC:List Nat},(k {h with ds:=h.ds++[x']}).run C hp=some (r,jC)→l.size=1→(∀I' μ hp0 rest,ao P w I' μ hp0 v (iS l ([x']++rest)))→∃h' e9 d u,(k h').run C hp=some (r,e9)∧Ext P w I β hp h h' d u∧d.length=l.size∧
   ∀(I':Nat→Prop) (μ:Nat→Option Nat) (hp0:Nat→Option an),(∀b,I b→I' b)→(∀q∈u,∀b,sL P w β hp q.1 b→I' b)→∀ρ m,ρ=h'.pl++m→AW P w β hp ρ μ hp0→∀rest,ao P w I' μ hp0 v (iS l (d++rest)):=
  fun hk hs hx=>⟨_,_,_,_,hk,Ext.leaf h _,hs.symm,fun I' μ hp0 _ _ _ _ _ _ rest=>hx I' μ hp0 rest⟩
 have nH: ∀{jC:List Nat},(k h).run C hp=some (r,jC)→l.size=0→(∀I' μ hp0 rest,ao P w I' μ hp0 v (iS l rest))→∃h' e9 d u,(k h').run C hp=some (r,e9)∧Ext P w I β hp h h' d u∧d.length=l.size∧
   ∀(I':Nat→Prop) (μ:Nat→Option Nat) (hp0:Nat→Option an),(∀b,I b→I' b)→(∀q∈u,∀b,sL P w β hp q.1 b→I' b)→∀ρ m,ρ=h'.pl++m→AW P w β hp ρ μ hp0→∀rest,ao P w I' μ hp0 v (iS l (d++rest)):=
  fun hk hs hx=>⟨_,_,_,_,hk,Ext.refl h,by simp[hs],fun I' μ hp0 _ _ _ _ _ _ rest=>hx I' μ hp0 rest⟩
 unfold Ed at hr
 cases l with
 | qF=>exact nH hr rfl fun _ _ _ _=> .undef
 | int kd=>
  cases x<;>simp only at hr<;>first|(cases hr;done)|skip
  obtain ⟨h1,U⟩:=aH hr
  simp only[eg] at h1
  subst h1
  obtain rfl:=hv.dZ
  exact plain U rfl fun _ _ _ _=> .int
 | bool=>
  cases x<;>simp only at hr<;>first|(cases hr;done)|skip
  obtain rfl:=hv.kG
  exact plain hr rfl fun _ _ _ _=> .bool
 | str=>
  cases x<;>simp only at hr<;>first|(cases hr;done)|skip
  obtain ⟨s,rfl,hl⟩:=hv.mH
  exact plain hr rfl fun _ _ _ _=> .str hl
 | nilS e=>
  cases x<;>simp only at hr<;>first|(cases hr;done)|skip
  obtain ⟨h1,U⟩:=aH hr
  cases hv with
  | nilS=>exact nH U rfl fun _ _ _ _=> .nilS
 | dB=>
  cases x<;>simp only at hr<;>first|(cases hr;done)|skip
  cases hv with
  | dB=>exact nH hr rfl fun _ _ _ _=> .dB
 | row e j cs=>
  cases x<;>simp only at hr<;>first|(cases hr;done)|skip
  rename_i e' id ver path
  obtain ⟨e0,es,ar,l0,ab,p1,p2,p3,hr⟩:=oM hr
  obtain ⟨h1,U⟩:=aH hr
  simp only[aP,a9,dh] at h1
  obtain ⟨rfl,oP,hp3⟩:=h1
  have:=xq oP
  subst this
  obtain ⟨jU,a,b,c⟩:=uP (P:=P) (w:=w) (I:=I) (β:=β) U (path.map fun p=>er p.1)
  refine ⟨_,_,path.map fun p=>er p.1,[],a,c,by simp[LS.size],fun I' μ hp0 i1 i2 ρ m dH dp rest=> ?_⟩
  obtain ⟨blk,k1,k2⟩:=dp j _ (by rw[dH];exact oV b)
  obtain ⟨bb,q,i,cc,t,l,rfl,hb,ht,hc⟩:=hv.OX ab p1 p2 p3
  have qW:blk= .nest e0 es [0,0,0]∧μ j=β id:=by
   generalize μ j=o at k2
   cases k2 with
   | var h=>rw[ab] at h;cases h
   | arr h=>rw[ab] at h;cases h
   | map h=>rw[ab] at h;cases h
   | nest h=>rw[ab] at h;cases h;exact ⟨rfl,rfl⟩
  obtain ⟨rfl,jV⟩:=qW
  simp only[iS,E7]
  have hq:q.length<3:=by rw[b9,List.length_singleton] at hp3;omega
  refine .row k1 (jV.trans hb) (by simpa using hq) ?_ ht hc
  match q.length,hq with
  | 0,_=>rfl
  | 1,_=>rfl
  | 2,_=>rfl
 | cR j cs c=>cases hr
 | DZ k n=>cases hr
 | wE b=>cases hr
 | dJ t=>
  cases x<;>simp only at hr<;>first|(cases hr;done)|skip
  obtain ⟨h1,U⟩:=aH hr
  cases hv with
  | dJ=>exact nH U rfl fun _ _ _ _=> .dJ
 | cG t j=>
  cases x<;>simp only at hr<;>first|(cases hr;done)|skip
  rename_i t' id
  obtain ⟨h1,U⟩:=aH hr
  rw[a9] at h1
  subst h1
  obtain ⟨jU,a,b,c⟩:=uP (P:=P) (w:=w) (I:=I) (β:=β) U []
  refine ⟨_,_,[],[],a,by simpa using c,rfl,fun I' μ hp0 i1 i2 ρ m dH dp rest=> ?_⟩
  obtain ⟨blk,k1,k2⟩:=dp j _ (by rw[dH];exact oV b)
  exact aaL hv k2 k1 rfl
 | list e=>
  obtain ⟨⟨y,u⟩,l1,l2,h1,U⟩:=lk hr
  cases y<;>simp only at U<;>first|(cases U;done)|skip
  rename_i e' es
  obtain ⟨h3,h4⟩:=aH U
  rw[a9] at h3
  subst h3
  obtain ⟨p1,p2⟩:=Et S.h.rel h1 hv
  exact ⟨_,_,[.list e es],u,h4,⟨rfl,rfl,p1,⟨[],by simp⟩,id⟩,rfl,fun I' μ hp0 i1 i2 _ _ _ _ rest=> .list (p2 I' i1 i2)⟩
 | whole e j=>
  cases x<;>simp only at hr<;>first|(cases hr;done)|skip
  ·rename_i e' id
   obtain ⟨h1,U⟩:=aH hr
   rw[a9] at h1
   subst h1
   obtain ⟨jU,a,b,c⟩:=uP (P:=P) (w:=w) (I:=I) (β:=β) U []
   refine ⟨_,_,[],[],a,by simpa using c,rfl,fun I' μ hp0 i1 i2 ρ m dH dp rest=> ?_⟩
   obtain ⟨blk,k1,k2⟩:=dp j _ (by rw[dH];exact oV b)
   exact aaK hv k2 k1 rfl
  ·rename_i e' id ver path
   obtain ⟨h1,U⟩:=aH hr
   rw[a9] at h1
   subst h1
   obtain ⟨jU,a,b,c⟩:=uP (P:=P) (w:=w) (I:=I) (β:=β) U []
   refine ⟨_,_,[],[],a,by simpa using c,rfl,fun I' μ hp0 i1 i2 ρ m dH dp rest=> ?_⟩
   obtain ⟨blk,k1,k2⟩:=dp j _ (by rw[dH];exact oV b)
   exact aaO S hv k2 k1 rfl
 | sub e j=>
  cases x<;>simp only at hr<;>first|(cases hr;done)|skip
  rename_i e' id o n
  obtain ⟨h1,U⟩:=aH hr
  rw[a9] at h1
  subst h1
  obtain ⟨jU,a,b,c⟩:=uP (P:=P) (w:=w) (I:=I) (β:=β) U [er o,er n]
  refine ⟨_,_,[er o,er n],[],a,c,rfl,fun I' μ hp0 i1 i2 ρ m dH dp rest=> ?_⟩
  obtain ⟨blk,k1,k2⟩:=dp j _ (by rw[dH];exact oV b)
  simpa[iS,V.nth] using aaM (I':=I') hv k2 k1 rfl
 | ptr j=>
  cases x<;>simp only at hr<;>first|(cases hr;done)|skip
  rename_i id i c
  obtain ⟨jU,a,b,c'⟩:=uP (P:=P) (w:=w) (I:=I) (β:=β) hr [er i,er c]
  refine ⟨_,_,[er i,er c],[],a,c',rfl,fun I' μ hp0 i1 i2 ρ m dH dp rest=> ?_⟩
  obtain ⟨blk,k1,k2⟩:=dp j _ (by rw[dH];exact oV b)
  simpa[iS,V.nth] using Qm (I':=I') hv k2 k1 rfl
 | nr j i c=>
  cases x<;>simp only at hr<;>first|(cases hr;done)|skip
  rename_i id i' c'
  obtain ⟨h1,U⟩:=aH hr
  simp only[aP,a9] at h1
  obtain ⟨rfl,rfl⟩:=h1
  obtain ⟨jU,a,b,c'⟩:=uP (P:=P) (w:=w) (I:=I) (β:=β) U []
  refine ⟨_,_,[],[],a,by simpa using c',rfl,fun I' μ hp0 i1 i2 ρ m dH dp rest=> ?_⟩
  obtain ⟨blk,k1,k2⟩:=dp j _ (by rw[dH];exact oV b)
  exact Qm hv k2 k1 rfl
end
section
variable {P:Program} {A:cS} {w w':World} {I I' I2:Nat→Prop} {μ β β':Nat→Option Nat} {hp hp' hp0:Nat→Option an} {C:ae} {B:Nat} {M:Nat→Prop} {w0:Start}
def mP (P:Program) (w:World) (I:Nat→Prop) (β:Nat→Option Nat) (hp:Nat→Option an) (h':Hand) (u:List (Nat × an)) (K:(Nat→Prop)→(Nat→Option Nat)→(Nat→Option an)→Prop):Prop:=
 ∀(I':Nat→Prop) (μ:Nat→Option Nat) (hp0:Nat→Option an),(∀b,I b→I' b)→(∀q∈u,∀b,sL P w β hp q.1 b→I' b)→∀ρ m,ρ=h'.pl++m→AW P w β hp ρ μ hp0→K I' μ hp0
theorem mP.AX {h h':Hand} {d:List V} {u u':List (Nat × an)} {K:(Nat→Prop)→(Nat→Option Nat)→(Nat→Option an)→Prop} (t:mP P w I β hp h u K) (e:Ext P w I β hp h h' d u'):mP P w I β hp h' (u++u') K:=by
 obtain ⟨m1,e1⟩:=e.pl
 exact fun I' μ hp0 i1 i2 ρ m dH dp=>t I' μ hp0 i1 (fun q hq=>i2 q (eN.2 (.inl hq))) ρ (m1++m) (by rw[dH,e1,cF]) dp
theorem mP.more {h:Hand} {u u':List (Nat × an)} {K:(Nat→Prop)→(Nat→Option Nat)→(Nat→Option an)→Prop} (t:mP P w I β hp h u K):mP P w I β hp h (u'++u) K:=
 fun I' μ hp0 i1 i2 ρ m dH dp=>t I' μ hp0 i1 (fun q hq=>i2 q (eN.2 (.inr hq))) ρ m dH dp
theorem Fb (S:aF P w I β hp B M w0) {α:Type}: ∀{ls:List LS} {xs:List V} {h:Hand} {k:Hand→Rd α} {r:α} {rd:List Nat} {vs:List Value},(wO P ls xs h k).run C hp=some (r,rd)→vs.length=xs.length→
  (∀(j:Nat) v x,vs[j]? =some v→xs[j]? =some x→ao P w I β hp v x)→
  ∃h' e9 d u,(k h').run C hp=some (r,e9)∧Ext P w I β hp h h' d u∧d.length=kA ls∧ls.length=xs.length∧
   mP P w I β hp h' u fun I' μ hp0=> ∀rest,(iy ls (d++rest)).length=xs.length∧∀(j:Nat) v y,vs[j]? =some v→(iy ls (d++rest))[j]? =some y→ao P w I' μ hp0 v y
 | [],[],h,k,r,rd,vs,hr,hl,hv=>⟨h,rd,[],[],hr,Ext.refl h,rfl,rfl,fun I' μ hp0 _ _ _ _ _ _ rest=>⟨rfl,fun j v y _ hy=>by simp[iy] at hy⟩⟩
 | [],_::_,h,k,r,rd,vs,hr,hl,hv=>by cases hr
 | _::_,[],h,k,r,rd,vs,hr,hl,hv=>by cases hr
 | l::ls,x::xs,h,k,r,rd,vs,hr,hl,hv=>by
  cases vs with
  | nil=>simp at hl
  | cons v vs=>
   simp only[wO] at hr
   obtain ⟨h1,jC,d1,u1,a1,a2,a3,a4⟩:=Qn S hr (hv 0 v x rfl rfl)
   obtain ⟨U,sV,d2,u2,b1,b2,b3,b5,b4⟩:=Fb S a1 (by simpa using hl) (vs:=vs) (fun j v x hj hx=>hv (j+1) v x (by simpa using hj) (by simpa using hx))
   have a4':mP P w I β hp h1 u1 fun I' μ hp0=> ∀rest,ao P w I' μ hp0 v (iS l (d1++rest)):=a4
   refine ⟨U,sV,d1++d2,u1++u2,b1,a2.trans b2,by simp only[b9,kA];omega,by simp[b5],fun I' μ hp0 i1 i2 ρ m dH dp rest=> ?_⟩
   have k1:=(a4'.AX b2) I' μ hp0 i1 i2 ρ m dH dp (d2++rest)
   obtain ⟨k2,k3⟩:=b4.more I' μ hp0 i1 i2 ρ m dH dp rest
   simp only[iy]
   rw[show (d1++d2++rest).drop l.size=d2++rest by rw[cF];exact nO a3,cF]
   refine ⟨by simp[k2],fun j v' y hj hy=> ?_⟩
   cases j with
   | zero=>simp at hj hy;subst hj;subst hy;exact k1
   | succ j=>exact k3 j v' y (by simpa using hj) (by simpa using hy)
theorem aaQ (S:aF P w I β hp B M w0) {α:Type} {s:VS} {x:V} {h:Hand} {k:Hand→Rd α} {r:α} {rd:List Nat} {v:Value} (hr:(Ac P s x h k).run C hp=some (r,rd)) (hv:ao P w I β hp v x):
  ∃h' e9 d u,(k h').run C hp=some (r,e9)∧Ext P w I β hp h h' d u∧d.length=s.size∧
   mP P w I β hp h' u fun I' μ hp0=> ∀rest,ao P w I' μ hp0 v (lg s (d++rest)):=by
 cases s with
 | one l=>
  simp only[Ac] at hr
  obtain ⟨h1,jC,d1,u1,a1,a2,a3,a4⟩:=Qn S hr hv
  exact ⟨h1,jC,d1,u1,a1,a2,a3,a4⟩
 | agg ls=>
  cases x<;>simp only[Ac] at hr<;>first|(cases hr;done)|skip
  rename_i xs
  obtain ⟨cs,rfl,e1,e2⟩:=hv.ll
  obtain ⟨h1,jC,d1,u1,a1,a2,a3,a5,a4⟩:=Fb S hr (vs:=cs.toList) (by simpa using e1) (fun j v x hj hx=>e2 j v x (by simpa using hj) hx)
  refine ⟨h1,jC,d1,u1,a1,a2,a3,fun I' μ hp0 i1 i2 ρ m dH dp rest=> ?_⟩
  obtain ⟨k1,k2⟩:=a4 I' μ hp0 i1 i2 ρ m dH dp rest
  exact .agg (by rw[k1];exact e1) fun j v y hj hy=>k2 j v y (by simpa using hj) hy
 | bq ls=>cases x<;>cases hr
 | pref ts ls=>cases x<;>cases hr
 | fn f a b=>
  cases x<;>simp only[Ac] at hr<;>first|(cases hr;done)|skip
  rename_i f' xs ys
  obtain ⟨hc,uQ⟩:=aH hr
  clear hr
  rw[a9] at hc
  subst hc
  cases hv with
  | @fn _ fs cs _ _ q1 q2 q3 q4=>
   obtain ⟨h1,jC,d1,u1,a1,a2,a3,a5,a4⟩:=Fb S uQ (vs:=fs.toList) (by simpa using q1) (fun j v x hj hx=>q2 j v x (by simpa using hj) hx)
   obtain ⟨U,sV,d2,u2,b1,b2,b3,b5,b4⟩:=Fb S a1 (vs:=cs.toList) (by simpa using q3) (fun j v x hj hx=>q4 j v x (by simpa using hj) hx)
   refine ⟨U,sV,d1++d2,u1++u2,b1,a2.trans b2,by simp only[b9,VS.size];omega,fun I' μ hp0 i1 i2 ρ m dH dp rest=> ?_⟩
   obtain ⟨k1,k2⟩:=(a4.AX b2) I' μ hp0 i1 i2 ρ m dH dp (d2++rest)
   obtain ⟨k3,k4⟩:=b4.more I' μ hp0 i1 i2 ρ m dH dp rest
   simp only[lg]
   rw[show (d1++d2++rest).drop (kA a)=d2++rest by rw[cF];exact nO a3,cF]
   exact .fn (by rw[k1];exact q1) (fun j v y hj hy=>k2 j v y (by simpa using hj) hy) (by rw[k3];exact q3) (fun j v y hj hy=>k4 j v y (by simpa using hj) hy)
theorem Kd (S:aF P w I β hp B M w0) {α:Type}: ∀{ls:List VS} {xs:List V} {h:Hand} {k:Hand→Rd α} {r:α} {rd:List Nat} {vs:List Value},(Ad P ls xs h k).run C hp=some (r,rd)→vs.length=xs.length→
  (∀(j:Nat) v x,vs[j]? =some v→xs[j]? =some x→ao P w I β hp v x)→
  ∃h' e9 d u,(k h').run C hp=some (r,e9)∧Ext P w I β hp h h' d u∧d.length=sD ls∧ls.length=xs.length∧
   mP P w I β hp h' u fun I' μ hp0=> ∀rest,(fK ls (d++rest)).length=xs.length∧∀(j:Nat) v y,vs[j]? =some v→(fK ls (d++rest))[j]? =some y→ao P w I' μ hp0 v y
 | [],[],h,k,r,rd,vs,hr,hl,hv=>⟨h,rd,[],[],hr,Ext.refl h,rfl,rfl,fun I' μ hp0 _ _ _ _ _ _ rest=>⟨rfl,fun j v y _ hy=>by simp[fK] at hy⟩⟩
 | [],_::_,h,k,r,rd,vs,hr,hl,hv=>by cases hr
 | _::_,[],h,k,r,rd,vs,hr,hl,hv=>by cases hr
 | l::ls,x::xs,h,k,r,rd,vs,hr,hl,hv=>by
  cases vs with
  | nil=>simp at hl
  | cons v vs=>
   simp only[Ad] at hr
   obtain ⟨h1,jC,d1,u1,a1,a2,a3,a4⟩:=aaQ S hr (hv 0 v x rfl rfl)
   obtain ⟨U,sV,d2,u2,b1,b2,b3,b5,b4⟩:=Kd S a1 (by simpa using hl) (vs:=vs) (fun j v x hj hx=>hv (j+1) v x (by simpa using hj) (by simpa using hx))
   refine ⟨U,sV,d1++d2,u1++u2,b1,a2.trans b2,by simp only[b9,sD];omega,by simp[b5],fun I' μ hp0 i1 i2 ρ m dH dp rest=> ?_⟩
   have k1:=(a4.AX b2) I' μ hp0 i1 i2 ρ m dH dp (d2++rest)
   obtain ⟨k2,k3⟩:=b4.more I' μ hp0 i1 i2 ρ m dH dp rest
   simp only[fK]
   rw[show (d1++d2++rest).drop l.size=d2++rest by rw[cF];exact nO a3,cF]
   refine ⟨by simp[k2],fun j v' y hj hy=> ?_⟩
   cases j with
   | zero=>simp at hj hy;subst hj;subst hy;exact k1
   | succ j=>exact k3 j v' y (by simpa using hj) (by simpa using hy)
def Fc:List BS→Nat
 | []=>0
 | b::l=>b.size+Fc l
theorem Qo: ∀{b:Nat} {e e':TypeId} {es:List V} {v:V},(∀q b' e' m,At P w b e es q b' e' m→jx P w I b' e' m)→∀(path:Path),ky P e path=some e'→mB P e es path=some v→0<v.toList.length→
  ∃b1,At P w b e es path b1 e' v.toList
 | b,e,e',es,v,cO,[],ht,hv,hl=>by
  simp only[ky,eh] at ht
  simp only[mB,eh] at hv
  subst ht;subst hv
  exact ⟨b,.here⟩
 | b,e,e',es,v,cO,(i,c)::q,ht,hv,hl=>by
  simp only[ky] at ht
  simp only[mB] at hv
  obtain ⟨x,hx,hv⟩:=bind_some hv
  cases Ke:(ky.zZ P e)[c]? with
  | none=>rw[Ke] at ht;cases ht
  | some t=>
   rw[Ke] at ht
   simp only at ht
   have Fe:(bc P e)[c]? =some t:=Ke
   cases hu:P.underlying t with
   | none=>rw[hu] at ht;cases ht
   | some d=>
    rw[hu] at ht
    cases d<;>simp only at ht<;>first|(cases ht;done)|skip
    rename_i e1
    rw[nC Fe] at hv
    have hR:=cO _ _ _ _ .here
    obtain ⟨Ca,c1,c2,c3⟩:=hR.cells
    have ux:c<P.cellsOf e:=by rw[←fN hR.ok];exact (bD.1 Fe).1
    obtain ⟨u,d1,d2⟩:=c3 i c x t hx Fe ux
    rw[d2.sN] at hv
    generalize hy:bU P e x c=y at d2 hv
    cases d2 with
    | fZ a p=>unfold fW at a;rw[hu] at a;cases a
    | @emp e2 a cap mN ha=>
     rw[hu] at mN;cases mN
     simp only at hv
     cases q with
     | nil=>simp only[mB,eh] at hv;subst hv;simp[V.toList] at hl
     | cons a q=>simp[mB] at hv
    | @row e2 cm b2 cap mN jQ bh cp oN=>
     rw[hu] at mN;cases mN
     simp only at hv
     have cT: ∀{q b' e' aL},At P w b2 e1 cm q b' e' aL→At P w b e es ((i,c)::q) b' e' aL:=fun h=> .step c1 hx Fe hu hy jQ d1 h
     obtain ⟨b1,l8⟩:=Qo (fun q b' e' m h=>cO _ _ _ _ (cT h)) q ht hv hl
     exact ⟨b1,cT l8⟩
theorem Qp (S:aF P w I β hp B M w0) {α:Type}: ∀{bs:List BS} {j:Nat} {h:Hand} {k:Hand→Rd α} {r:α} {rd:List Nat},(qH P bs j h k).run C hp=some (r,rd)→
  ∃h' e9 d u,(k h').run C hp=some (r,e9)∧Ext P w I β hp h h' d u∧d.length=Fc bs∧
   ∀rest,(eP bs (d++rest)).length=bs.length∧∃o:Nat→Option Nat,
    (∀(i:Nat) blk,(eP bs (d++rest))[i]? =some blk→∃p,et h'.pl (j+i)=some p∧ek P w β hp p (o i) blk)∧
    mP P w I β hp h' u fun I' μ hp0=> ∀(i:Nat) blk,(eP bs (d++rest))[i]? =some blk→(∀b,bE P w (o i) blk b→¬I' b)→ei P w I' μ hp0 (o i) blk
 | [],j,h,k,r,rd,hr=>⟨h,rd,[],[],hr,Ext.refl h,rfl,fun rest=>⟨rfl,fun _=>none,fun i blk hb=>by simp[eP] at hb,fun I' μ hp0 _ _ _ _ _ _ i blk hb=>by simp[eP] at hb⟩⟩
 | b::bs,j,h,k,r,rd,hr=>by
  simp only[qH] at hr
  have fin: ∀{h1:Hand} {jC:List Nat} {d1:List V} {u1:List (Nat × an)} {o1:Option Nat} {p:Place},(qH P bs (j+1) h1 k).run C hp=some (r,jC)→Ext P w I β hp h h1 d1 u1→d1.length=b.size→et h.pl j=some p→
    (∀rest,ek P w β hp p o1 (fX b (d1++rest)))→(∀rest,mP P w I β hp h1 u1 fun I' μ hp0=>(∀bb,bE P w o1 (fX b (d1++rest)) bb→¬I' bb)→ei P w I' μ hp0 o1 (fX b (d1++rest)))→
    ∃h' e9 d u,(k h').run C hp=some (r,e9)∧Ext P w I β hp h h' d u∧d.length=Fc (b::bs)∧
     ∀rest,(eP (b::bs) (d++rest)).length=(b::bs).length∧∃o:Nat→Option Nat,
      (∀(i:Nat) blk,(eP (b::bs) (d++rest))[i]? =some blk→∃p,et h'.pl (j+i)=some p∧ek P w β hp p (o i) blk)∧
      mP P w I β hp h' u fun I' μ hp0=> ∀(i:Nat) blk,(eP (b::bs) (d++rest))[i]? =some blk→(∀b,bE P w (o i) blk b→¬I' b)→ei P w I' μ hp0 (o i) blk:=by
   intro h1 jC d1 u1 o1 p hk he hd bu hl ht
   obtain ⟨U,sV,d2,u2,b1,b2,b3,b4⟩:=Qp S hk
   refine ⟨U,sV,d1++d2,u1++u2,b1,he.trans b2,by simp only[b9,Fc];omega,fun rest=> ?_⟩
   obtain ⟨c1,o,c2,c3⟩:=b4 rest
   simp only[eP]
   rw[show (d1++d2++rest).drop b.size=d2++rest by rw[cF];exact nO hd,cF]
   refine ⟨by simp[c1],fun i=>match i with|0=>o1|i+1=>o i,fun i blk hb=> ?_,fun I' μ hp0 i1 i2 ρ m dH dp i blk hb c6=> ?_⟩
   ·cases i with
    | zero=>
     simp at hb
     subst hb
     exact ⟨p,b2.look (he.look bu),hl _⟩
    | succ i=>
     obtain ⟨q,e1,e2⟩:=c2 i blk (by simpa using hb)
     exact ⟨q,by rw[show j+(i+1)=j+1+i by omega];exact e1,e2⟩
   ·cases i with
    | zero=>
     simp at hb
     subst hb
     exact ((ht _).AX b2) I' μ hp0 i1 i2 ρ m dH dp c6
    | succ i=>exact c3.more I' μ hp0 i1 i2 ρ m dH dp i blk (by simpa using hb) c6
  cases bu:et h.pl j with
  | none=>rw[bu] at hr;cases hr
  | some p=>
   rw[bu] at hr
   cases p with
   | blk id=>
    obtain ⟨l1,hr⟩:=run_get hr
    cases ab:hp id with
    | none=>rw[ab] at hr;cases hr
    | some blk=>
     rw[ab] at hr
     cases blk with
     | dead=>cases hr
     | var T0 cs=>
      cases b<;>simp only at hr<;>first|(cases hr;done)|skip
      rename_i T1 ss
      obtain ⟨hT,hr1⟩:=aH hr
      clear hr
      rw[a9] at hT
      subst hT
      have cU:=S.h.rel id _ ab
      generalize ho:β id=o at cU
      cases cU with
      | @var _ bb Ca T hb hh hs hI hx gr=>
       obtain ⟨h1,jC,d1,u1,a1,a2,a3,a5,a4⟩:=Kd S hr1 (vs:=Ca.toList) (by simpa using hs) (fun j v x hj cL=>hx j v x (by simpa using hj) cL)
       refine fin (o1:=β id) a1 a2 a3 bu (fun rest=> .var ab) fun rest I' μ hp0 i1 i2 ρ m dH dp c6=> ?_
       obtain ⟨k1,k2⟩:=a4 I' μ hp0 i1 i2 ρ m dH dp rest
       exact .var (ho.trans hb) hh (by rw[k1];exact hs) (c6 _ (.root (by simp[fX]) (ho.trans hb))) (fun i v y hi hy=>k2 i v y (by simpa using hi) hy) gr
     | arr e' es fz=>
      cases fz with
      | true=>cases hr
      | false=>
       cases b with
       | arr e fz=>
        cases fz with
        | true=>cases hr
        | false=>
         obtain ⟨hc,uQ⟩:=aH hr
         clear hr
         rw[a9] at hc
         subst hc
         refine fin (d1:=[.list e es]) (o1:=β id) uQ (Ext.leaf h _) rfl bu (fun rest=>ek.arr ab) fun rest I' μ hp0 i1 i2 ρ m dH dp c6=> ?_
         change ei P w I' μ hp0 (β id) (.arr e es false)
         have cU:=S.h.rel id _ ab
         generalize ho:β id=o at cU c6⊢
         cases cU with
         | dP hb=>exact .dP hb
         | arr a1 a2 a3 a4 a5 a6 a7=>
          refine .arr a1 a2 a3 a4 (fun h=>by cases h) (fun _=>c6 _ (.root (by simp[fX]) a2)) fun i j x t' y1 y2 y3=> ?_
          obtain ⟨v,z1,z2⟩:=a7 i j x t' y1 y2 y3
          exact ⟨v,z1,z2.mono i1 fun _ _=>rfl⟩
       | _=>cases hr
     | nest e' es ar=>
      cases b with
      | nest e=>
       obtain ⟨hc,uQ⟩:=aH hr
       clear hr
       rw[a9] at hc
       subst hc
       refine fin (d1:=[.list e es]) (o1:=β id) uQ (Ext.leaf h _) rfl bu (fun rest=>ek.nest ab) fun rest I' μ hp0 i1 i2 ρ m dH dp c6=> ?_
       have Qq: ∀bb,bE P w (β id) (.nest e es [0,0,0]) bb→¬I' bb:=c6
       change ei P w I' μ hp0 (β id) (.nest e es [0,0,0])
       have cU:=S.h.rel id _ ab
       generalize ho:β id=o at cU Qq⊢
       cases cU with
       | nest hb cO oQ=>
        refine .nest hb (fun q b' e1 m1 hq=> ?_) oQ
        obtain ⟨ok,⟨Ca,c1,c2,c3⟩,nI⟩:=cO q b' e1 m1 hq
        refine ⟨ok,⟨Ca,c1,c2,fun i j x t' y1 y2 y3=> ?_⟩,Qq _ (.row hb hq)⟩
        obtain ⟨v,z1,z2⟩:=c3 i j x t' y1 y2 y3
        exact ⟨v,z1,z2.mono i1 (fun _ _=>rfl) fun _ _ _ _ _=>rfl⟩
      | _=>cases hr
     | map t' es=>
      cases b with
      | map t=>
       obtain ⟨hc,uQ⟩:=aH hr
       clear hr
       rw[a9] at hc
       subst hc
       refine fin (d1:=[.list t es]) (o1:=β id) uQ (Ext.leaf h _) rfl bu (fun rest=>ek.map ab) fun rest I' μ hp0 i1 i2 ρ m dH dp c6=> ?_
       change ei P w I' μ hp0 (β id) (.map t es)
       have cU:=S.h.rel id _ ab
       generalize ho:β id=o at cU c6⊢
       cases cU with
       | map a1 a2 a3 a4 a5 a6 a7=>exact .map a1 a2 a3 a4 (c6 _ (.root (by simp[fX]) a2)) a6 a7
      | _=>cases hr
   | row id ver path=>
    obtain ⟨e0,es,ar,l1,k1,k2,k3,k4,k5⟩:=oM hr
    obtain ⟨e',vv,m1,m2,m3⟩:=wX k5
    cases b with
    | arr e fz=>
     cases fz with
     | true=>cases m3
     | false=>
      obtain ⟨hc,m4⟩:=aH m3
      clear m3
      simp only[aP,a9,ko] at hc
      obtain ⟨rfl,AY,jQ⟩:=hc
      have cU:=S.h.rel id _ k1
      cases hb:β id with
      | none=>
       rw[hb] at cU
       cases cU with
       | nest aB _ _=>cases aB
      | some b0=>
       rw[hb] at cU
       cases cU with
       | nest aB cO oQ=>
        cases aB
        obtain ⟨b1,dD⟩:=Qo cO path m1 m2 jQ
        refine fin (d1:=[.list e vv.toList]) (o1:=some b1) m4 (Ext.leaf h _) rfl bu (fun rest=>ek.row k1 hb dD AY k2 k3 k4 jQ) fun rest I' μ hp0 i1 i2 ρ m dH dp c6=> ?_
        change ei P w I' μ hp0 (some b1) (.arr e vv.toList false)
        obtain ⟨ok,⟨Ca,c1,c2,c3⟩,nI⟩:=cO _ _ _ _ dD
        refine .arr ok rfl c1 c2 (fun h=>by cases h) (fun _=>c6 _ (.root (by simp[fX]) rfl)) fun i j x t' y1 y2 y3=> ?_
        obtain ⟨v,z1,z2⟩:=c3 i j x t' y1 y2 y3
        refine ⟨v,z1,?_⟩
        generalize bU P e x j=y at z2⊢
        cases z2 with
        | fZ _ p=>exact p.mono i1 fun _ _=>rfl
        | emp hu _=>exact absurd hu (Qr AY y2 _)
        | row hu _ _ _ _=>exact absurd hu (Qr AY y2 _)
    | _=>cases m3
where
 Qr {e t:TypeId} {j:Nat} (h:z8 P e=true) (ht:(bc P e)[j]? =some t) (e':TypeId):P.underlying t≠some (.slice e'):=by
  intro hu
  have U:=fH.1 h t (jJ ht)
  rw[hu] at U
  cases U
end
end Go.AM
