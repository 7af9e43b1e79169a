/-
  Functions of vr program, lifted to plain data.
-/
import Derived.Great.BuildSlice
import Derived.Maps.Keyed
import Derived.WideKeyArr
import Derived.MapKept
import Derived.ChangeMaps4
import Derived.Carry
import Derived.Lib.AppendStr
import Derived.Laws.BytesString
import Derived.Lib.Builder
import Derived.Lib.UnsafeStr
import Derived.Test.YtmcdbnalaobmpaaDoorP1
set_option linter.unusedVariables false
set_option linter.unusedSimpArgs false
namespace Go.AM
section
variable {P:Program} {w w':World} {I I':Nat→Prop} {β an:Nat→Option Nat} {hp hp':Nat→Option ag} {C:ae} {B:Nat} {M:Nat→Prop} {w0:Start}
theorem Zb (S:aD P w I β hp B M w0) {t:TypeId} {a v:Value} {xa x:V} {r:R} {rd:List Nat} (ha:ah P w I β hp a xa) (hv:ah P w I β hp v x)
  (h:(HA P t xa x).run C hp=some (r,rd)):pd P ((Instr.storeAt t a v).run P w) w I β hp B M w0 r:=by
 unfold HA at h
 obtain ⟨h0,h⟩:=aE h
 simp only[Bool.and_eq_true,Nat.beq_eq] at h0
 obtain ⟨ht,hn⟩:=h0
 cases xa with
 | ptr id i c=>
  obtain ⟨l,h⟩:=run_get h
  cases ab:hp id with
  | none=>rw[ab] at h;cases h
  | some blk=>
   rw[ab] at h
   cases blk with
   | dead=>cases h
   | var T0 cs=>
    obtain ⟨OM,h⟩:=aE h
    have lX:oZ P T0=true→0<c:=fun bP=>by
     rw[bP] at OM
     simpa using OM
    obtain ⟨b,hb,rfl⟩:=ha.gO ab (by simp)
    simp only[ag.sz,Nat.mul_zero,Nat.zero_add]
    cases pc:(yd P t cs&&eN P t x) with
    | true=>
     dsimp only at h
     rw[pc] at h
     simp only[cond_true] at h
     obtain ⟨hc,h⟩:=aE h
     obtain rfl:=aI h
     simp only[Bool.and_eq_true,Nat.blt_eq] at hc pc
     obtain ⟨o1,o2⟩:=OF hv pc.2
     have ld:=YR pc.2
     refine OD S ab hb ht hn (by rw[o2,ld];rfl) lX (fun j u y hu hy=> ?_) (by rw[o2];simp[o1]) (by rw[ld];simp;omega) (OC _ _ _ _) (fun j y hy hj u hu=> ?_) (fun j y hy hj u hu=> ?_)
     ·rw[o2] at hu
      rw[ld] at hy
      cases j with
      | zero=>simp at hu hy;subst hu;subst hy;exact hv
      | succ j=>simp at hy
     ·rw[Ic] at hy
      cases wa:cs[j]? with
      | none=>rw[wa] at hy;cases hy
      | some y0=>
       rw[wa] at hy
       simp only[Option.map_some,Option.some.injEq] at hy
       rw[ld] at hj
       simp only[List.length_singleton] at hj
       have bO:Nat.beq c (0+j)=false:=by
        cases hq:Nat.beq c (0+j) with
        | false=>rfl
        | true=>rw[Nat.beq_eq] at hq;omega
       rw[bO] at hy
       have:=Oo (c:=false) hv (hu y0 wa)
       rw[←hy]
       simpa using this
     ·rw[ld] at hj hu
      have Zc:j=0:=by simpa using hj
      subst Zc
      rw[Ic] at hy
      cases wa:cs[c+0]? with
      | none=>rw[wa] at hy;cases hy
      | some y0=>
       rw[wa] at hy
       simp only[Option.map_some,Option.some.injEq] at hy
       have heq:Nat.beq c (0+(c+0))=true:=by rw[Nat.beq_eq];omega
       rw[heq] at hy
       have h2:ah P w I β hp u x:=hu x rfl
       have:rM true x y0=x:=YS x y0
       rw[←hy,this]
       exact h2
    | false=>
     dsimp only at h
     rw[pc] at h
     simp only[cond_false] at h
     obtain ⟨hc,h⟩:=aE h
     simp only[Bool.and_eq_true,Nat.ble_eq] at hc
     obtain ⟨e1,e2⟩:=Ia hv h
     obtain ⟨h1,l2,h⟩:=DE h (vs:=v.cells.toList) (by simpa using e1) (fun j u y a b=>e2 j u y (by simpa using a) b)
     obtain rfl:=aI h
     refine OD S ab hb ht hn e1 lX e2 h1 hc.2 (yR _ _ _ hc.2) (fun j y hy hj u hu=> ?_) (fun j y hy hj u hu=> ?_)
     ·unfold fN at hy
      rw[mW _ _ _ _ hc.2] at hy
      rcases hj with hj|hj
      ·rw[if_pos hj] at hy;exact hu y hy
      ·rw[if_neg (by omega),if_neg (by omega)] at hy;exact hu y hy
     ·unfold fN at hy
      rw[mW _ _ _ _ hc.2,if_neg (by omega),if_pos (by omega)] at hy
      rw[show c+j-c=j by omega] at hy
      exact hu y hy
   | arr e es fz=>
    cases fz with
    | true=>cases h
    | false=>
    obtain ⟨b,hb,rfl⟩:=ha.gO ab (by simp)
    obtain ⟨au,h⟩:=aE h
    obtain ⟨⟨ys,fr⟩,l1,l2,bx,h⟩:=kA h
    obtain ⟨hc,h⟩:=aE h
    obtain ⟨x0,qt,h⟩:=la h
    obtain rfl:=aI h
    simp only[Bool.and_eq_true,Bool.not_eq_true',Nat.ble_eq] at hc
    obtain ⟨dW,Zd,ju⟩:=hc
    have pe:v.cells.size=x.cells.length∧∀(j:Nat) u y,v.cells.toList[j]? =some u→x.cells[j]? =some y→ah P w I β hp u y:=by
     cases x with
     | agg xs=>
      obtain ⟨cs,rfl,h1,h2⟩:=hv.kB
      exact ⟨h1,fun j u y a b=>h2 j u y (by simpa[Value.cells] using a) b⟩
     | _=>
      simp only[V.cells] at bx ju⊢
      simp only[rL] at bx
      obtain ⟨⟨y1,u1⟩,l3,l4,hq,bx⟩:=kA bx
      obtain ⟨q1,q2⟩:=Dt S.h.rel hq hv
      obtain ⟨⟨y2,u2⟩,l5,l6,pf,bx⟩:=kA bx
      cases pf
      have:=aI bx
      cases this
      obtain ⟨tl,tg⟩:=tG ju
      have fH:=tg 0 _ y1 (List.getElem?_eq_getElem (by rw[tl];exact Nat.one_pos)) rfl
      have fa:=q2 (iI P w I β hp u1) (fun _ h=> .inl h) (fun p hp b h=> .inr ⟨p,hp,h⟩)
      have ho:=fa.pure fH
      have It:v.cells= #[v]:=by cases ho<;>rfl
      rw[It]
      refine ⟨rfl,fun j u y hu hy=> ?_⟩
      cases j with
      | zero=>simp at hu hy;subst hu;subst hy;exact hv
      | succ j=>simp at hy
    obtain ⟨k1,k2,k3⟩:=H4 S.h.rel bx (vs:=v.cells.toList) (by simpa using pe.1) pe.2
    obtain ⟨qq,S1⟩:=yJ S k2
    have yY:bN hp fr id=some (.arr e es false):=by
     rcases tA (hp:=hp) (l:=fr) (id:=id) with h|⟨b',hm,_⟩
     ·exact h.trans ab
     ·exfalso
      have kD:jM (fr.map (·.1)) id=true:=vX (List.mem_map.2 ⟨_,hm,rfl⟩)
      rw[kD] at dW;cases dW
    have ON:=k3 (iI P w I β hp fr) (fun _ h=> .inl h) (fun p hp b h=> .inr ⟨p,hp,h⟩)
    obtain ⟨tl,tg⟩:=tG ju
    have vR:=(jV au).1
    have tJ:ys.length=v.cells.size:=by rw[k1,pe.1]
    have hcn:c+v.cells.size≤P.cellsOf e:=by rw[pe.1];exact Zd
    have hr:=S1.h.rel id _ yY
    cases hr with
    | dV ax=>simp at qt
    | @arr _ _ _ b' Ca H9 ax hh hs hf ez hx=>
     rw[hb] at ax
     cases ax
     have lf:i<es.length:=(List.getElem?_eq_some_iff.1 qt).1
     have hbound:i*P.cellsOf e+P.cellsOf e≤Ca.size:=by
      have:(i+1)*P.cellsOf e≤es.length*P.cellsOf e:=Nat.mul_le_mul_right _ lf
      rw[Nat.add_mul] at this
      omega
     simp only[ag.sz]
     have sc:i*P.cellsOf e+c+v.cells.size≤Ca.size:=by omega
     have cW: ¬iI P w I β hp fr b:=ez rfl
     have h1: ∀u∈v.cells.toList,u.oneCell'=true:=by
      intro u hu
      obtain ⟨j,hj⟩:=List.getElem?_of_mem hu
      have dg:j<ys.length:=by rw[tJ];simpa using (List.getElem?_eq_some_iff.1 hj).1
      have oj:j<(((flat P e).drop c).take x.cells.length).length:=by rw[tl];exact dg
      exact (ON j u ys[j] hj (List.getElem?_eq_getElem dg)).one (tg j _ ys[j] (List.getElem?_eq_getElem oj) (List.getElem?_eq_getElem dg))
     have dh:=Ib (t:=t) (o:=i*P.cellsOf e+c) (v:=v) ht (by rw[pe.1];exact hn.symm) hh sc h1
     have hlen:(Ca.toList.take (i*P.cellsOf e+c)++(v.cells.toList++Ca.toList.drop (i*P.cellsOf e+c+v.cells.toList.length))).length=Ca.size:=by
      rw[yR _ _ _ (by simpa using sc)];simp
     have fa:(parts P e x0).length=P.cellsOf e:=by rw[vU];exact fG au
     have yS:=DF S1 (blk':= .arr e (es.set i (cx P e (fN (parts P e x0) c ys))) false)
      (Cb:=(Ca.toList.take (i*P.cellsOf e+c)++(v.cells.toList++Ca.toList.drop (i*P.cellsOf e+c+v.cells.toList.length))).toArray) yY (by simp) ⟨rfl,by simp⟩ hb cW (by simp) hh (by simpa using hlen)
      (fun hle fb=> .arr au rfl fb (by simp only[List.size_toArray,List.length_set];omega) (fun h=>by cases h) (fun _=>cW) fun i' j z t' hz oj hj=>by
       simp only[List.getElem?_toArray]
       rw[mW _ _ _ _ (by simpa using sc)]
       simp only[Array.length_toList]
       rw[List.getElem?_set] at hz
       by_cases iL:i=i'
       ·subst iL
        rw[if_pos rfl,if_pos lf] at hz
        cases hz
        have DN:j<(parts P e x0).length:=by omega
        have tK:(fN (parts P e x0) c ys)[j]? =if j<c then (parts P e x0)[j]? else if j<c+ys.length then ys[j-c]? else (parts P e x0)[j]? :=by
         unfold fN;exact mW _ _ _ _ (by omega)
        by_cases qm:j<c
        ·rw[if_pos (by omega)]
         rw[if_pos qm] at tK
         obtain ⟨u,t2,a1,a2,a3⟩:=DB hx au qt (List.getElem?_eq_getElem DN)
         rw[oj] at a1;cases a1
         refine ⟨u,by simpa using a2,?_⟩
         rw[qn (tK.trans (List.getElem?_eq_getElem DN)) oj]
         exact a3.mono hle.dz hle.cg
        ·rw[if_neg qm] at tK
         by_cases b6:j<c+ys.length
         ·rw[if_pos b6] at tK
          rw[if_neg (by omega),if_pos (by omega)]
          have pg:j-c<ys.length:=by omega
          have OO:j-c<v.cells.toList.length:=by simp;omega
          have akQ:j-c<v.cells.size:=by omega
          refine ⟨v.cells.toList[j-c],?_,?_⟩
          ·rw[show i*P.cellsOf e+j-(i*P.cellsOf e+c)=j-c by omega]
           exact List.getElem?_eq_getElem OO
          ·rw[qn (tK.trans (List.getElem?_eq_getElem pg)) oj]
           have Ze:(((flat P e).drop c).take x.cells.length)[j-c]? =some t':=by
            rw[List.getElem?_take_of_lt (by omega),List.getElem?_drop,show c+(j-c)=j by omega,←rZ]
            exact oj
           exact ((ON (j-c) _ ys[j-c] (List.getElem?_eq_getElem OO) (List.getElem?_eq_getElem pg)).pure (tg (j-c) t' ys[j-c] Ze (List.getElem?_eq_getElem pg))).mono hle.dz hle.cg
         ·rw[if_neg b6] at tK
          rw[if_neg (by omega),if_neg (by omega)]
          obtain ⟨u,t2,a1,a2,a3⟩:=DB hx au qt (List.getElem?_eq_getElem DN)
          rw[oj] at a1;cases a1
          refine ⟨u,by simpa using a2,?_⟩
          rw[qn (tK.trans (List.getElem?_eq_getElem DN)) oj]
          exact a3.mono hle.dz hle.cg
       ·rw[if_neg iL] at hz
        obtain ⟨u,a2,a3⟩:=hx i' j z t' hz oj hj
        have bO:i'*P.cellsOf e+j<i*P.cellsOf e+c∨i*P.cellsOf e+c+v.cells.size≤i'*P.cellsOf e+j:=by
         rcases Nat.lt_or_ge i' i with aR|ph
         ·left
          have:(i'+1)*P.cellsOf e≤i*P.cellsOf e:=Nat.mul_le_mul_right _ aR
          rw[Nat.add_mul] at this
          omega
         ·right
          have:(i+1)*P.cellsOf e≤i'*P.cellsOf e:=Nat.mul_le_mul_right _ (by omega)
          rw[Nat.add_mul] at this
          omega
        refine ⟨u,?_,a3.mono hle.dz hle.cg⟩
        rcases bO with bO|bO
        ·rw[if_pos bO];simpa using a2
        ·rw[if_neg (by omega),if_neg (by omega)];simpa using a2)
     exact ⟨_,_,_,dh,qq.trans yS.1,yS.2,rfl⟩
   | map _ _=>cases h
   | nest e es ai=>
    obtain ⟨b,hb,rfl⟩:=ha.gO ab (by simp)
    exact OL S ht hn hv ab hb .here h
 | cG id ver path i c=>
  obtain ⟨e0,es,ai,l,ab,h1,h2,h3,h⟩:=oa h
  obtain ⟨b,b1,e1,l1,hb,dA,rfl⟩:=ha.Ol ab h1 h2 h3
  exact OL S ht hn hv ab hb dA h
 | _=>cases h
end
section
variable {P:Program} {w w':World} {I I':Nat→Prop} {β an:Nat→Option Nat} {hp hp':Nat→Option ag} {C:ae} {B:Nat} {M:Nat→Prop} {w0:Start}
theorem Iu: ∀{ts:List TypeId} {vs:List Value} {j:Nat} {y:V},(iU P ts vs)[j]? =some y→∃t v,ts[j]? =some t∧vs[j]? =some v∧y=oY P t v
 | [],vs,j,y,h=>by simp[iU] at h
 | _::_,[],j,y,h=>by simp[iU] at h
 | t::ts,v::vs,0,y,h=>by simp[iU] at h;exact ⟨t,v,rfl,rfl,h.symm⟩
 | t::ts,v::vs,j+1,y,h=>by
  simp only[iU,List.getElem?_cons_succ] at h
  obtain ⟨t',v',a,b,c⟩:=Iu h
  exact ⟨t',v',by simpa using a,by simpa using b,c⟩
theorem OP: ∀{ts:List TypeId} {vs:List Value},ts.length=vs.length→(iU P ts vs).length=vs.length
 | [],[],_=>rfl
 | [],_::_,h=>by simp at h
 | _::_,[],h=>by simp at h
 | t::ts,v::vs,h=>by simp[iU,OP (ts:=ts) (vs:=vs) (by simpa using h)]
theorem jX {e:TypeId} (h:cY P e=true): ∃i z,P.info? e=some i∧i.zero=some z∧i.size=P.cellsOf e∧z.cells.size=P.cellsOf e∧zeroCells P e=iU P (flat P e) z.cells.toList:=by
 unfold cY at h
 simp only[Bool.and_eq_true,Nat.beq_eq,Nat.blt_eq] at h
 obtain ⟨h1,h2,_,h3⟩:=h
 cases hi:P.info? e with
 | none=>rw[hi] at h3;cases h3
 | some i=>
  rw[hi] at h3
  simp only[Option.bind_some] at h3
  cases hz:i.zero with
  | none=>rw[hz] at h3;cases h3
  | some z=>
   rw[hz] at h3
   simp only[Nat.beq_eq] at h3
   exact ⟨i,z,rfl,hz,by simp[Program.cellsOf,hi],h3,by simp[zeroCells,hi,hz]⟩
theorem OQ {e:TypeId} (h:cY P e=true): ∃i z,P.info? e=some i∧i.zero=some z∧z.cells.size=(zeroCells P e).length∧z.cells.size=P.cellsOf e∧
  ∀(j:Nat) v x,z.cells[j]? =some v→(zeroCells P e)[j]? =some x→ah P w I β hp v x:=by
 obtain ⟨i,z,h1,h2,h3,h4,h5⟩:=jX h
 have hl:(flat P e).length=z.cells.toList.length:=by rw[(jV h).1];simpa using h4.symm
 refine ⟨i,z,h1,h2,?_,h4,fun j v x hv hx=> ?_⟩
 ·rw[h5,OP hl];simp
 ·rw[h5] at hx
  obtain ⟨t,v',_,vV,rfl⟩:=Iu hx
  have:v'=v:=by
   have e1:z.cells[j]? =some v':=by simpa using vV
   rw[hv] at e1;exact (Option.some.inj e1).symm
  subst this
  exact ah.const t v'
theorem mY {nb:Nat} {b:ag} {v:V} {upd:List (Nat × ag)} {r:R} {rd:List Nat} (h:(iX nb b v upd).run C hp=some (r,rd)):hp nb=none∧r=⟨v,(nb,b)::upd⟩:=by
 obtain ⟨l,h⟩:=run_get h
 cases hn:hp nb with
 | none=>rw[hn] at h;exact ⟨rfl,(aI h).symm⟩
 | some x=>rw[hn] at h;cases h
theorem OR (S:aD P w I β hp B M w0) {nb:Nat} {xs:List V} {C0:Array Value} {T:TypeId} (hn:hp nb=none) (hs:C0.size=xs.length)
  (hx: ∀(j:Nat) v x,C0[j]? =some v→xs[j]? =some x→ah P w I β hp v x) (gm:Of P w.heap.size T C0):
  Le P w I β hp (w.alloc (.cells C0 T)) I (aG β nb (some w.heap.size)) (aG hp nb (some (.var T xs)))∧aD P (w.alloc (.cells C0 T)) I (aG β nb (some w.heap.size)) (aG hp nb (some (.var T xs))) B M w0∧
  ah P (w.alloc (.cells C0 T)) I (aG β nb (some w.heap.size)) (aG hp nb (some (.var T xs))) (.pointer (some ⟨w.heap.size,0,none⟩)) (.ptr nb 0 0):=by
 obtain ⟨h1,h2⟩:=H5 S (blk:= .var T xs) (c:=C0) (T:=T) hn (fun b' h=>(Option.some.inj (h.flat (by simp))).symm) (fun hle fb cW=> .var rfl fb hs cW (fun j v x a b=>(hx j v x a b).mono hle) gm)
 refine ⟨h1,h2,?_⟩
 have:=ah.ptr (P:=P) (w:=w.alloc (.cells C0 T)) (I:=I) (β:=aG β nb (some w.heap.size)) (hp:=aG hp nb (some (.var T xs))) (i:=0) (c:=0) (blk:= .var T xs) (dd _ _ _) (by simp) (dd _ _ _)
 simpa using this
theorem Zf (S:aD P w I β hp B M w0) {e:TypeId} {nb:Nat} {r:R} {rd:List Nat}
  (h:(Rd.aA (cY P e&&(!(oZ P e)||Ob (zeroCells P e))) (iX nb (.var e (zeroCells P e)) (.ptr nb 0 0) [])).run C hp=some (r,rd)):dj P ((Instr.alloc e true (.tuple #[])).run P w) w I β hp B M w0 r:=by
 obtain ⟨au,h⟩:=aE h
 rw[Bool.and_eq_true] at au
 obtain ⟨au,lX⟩:=au
 obtain ⟨hn,rfl⟩:=mY h
 obtain ⟨i,z,h1,h2,h3,h4,h5⟩:=OQ (w:=w) (I:=I) (β:=β) (hp:=hp) au
 obtain ⟨a,b,c⟩:=OR S (T:=e) hn h3 h5 fun bP=>by
  rw[bP,Bool.not_true,Bool.false_or] at lX
  cases hz:zeroCells P e with
  | nil=>rw[hz] at lX;cases lX
  | cons y l=>
   rw[hz] at lX h3 h5
   cases y<;>first|(cases lX;done)|skip
   have aR:0<z.cells.size:=by rw[h3];simp
   have:=h5 0 z.cells[0] .dE (Array.getElem?_eq_getElem aR) rfl
   left
   rw[Array.getElem?_eq_getElem aR]
   generalize z.cells[0]=u at this
   cases this;rfl
 exact ⟨_,_,_,_,by simp[Instr.alloc,zeroValue,typeInfo,h1,h2,newVar,newRow],a,b,c⟩
theorem Zg (S:aD P w I β hp B M w0) {e:TypeId} {nb:Nat} {x:V} {v:Value} {r:R} {rd:List Nat} (hv:ah P w I β hp v x)
  (h:(Rd.aA (!(oZ P e)) <| kW x.cells (iX nb (.var e x.cells) (.ptr nb 0 0) [])).run C hp=some (r,rd)):dj P ((Instr.box e v).run P w) w I β hp B M w0 r:=by
 obtain ⟨lX,h⟩:=aE h
 obtain ⟨e1,e2⟩:=Ia hv h
 obtain ⟨_,l,h⟩:=DE h (vs:=v.cells.toList) (by simpa using e1) (fun j u y a b=>e2 j u y (by simpa using a) b)
 obtain ⟨hn,rfl⟩:=mY h
 obtain ⟨a,b,c⟩:=OR S (T:=e) hn e1 e2 fun bP=>by rw[bP] at lX;cases lX
 exact ⟨_,_,_,_,by simp[Instr.box,newVar,newRow],a,b,c⟩
theorem foldl_set (off:Nat): ∀(vs:List Value) (k:Nat) (cs:Array Value) (i:Nat),off+k+vs.length≤cs.size→
  ((vs.zipIdx k).foldl (fun cs p=>cs.setIfInBounds (off+p.2) p.1) cs)[i]? =if i<off+k then cs[i]? else if i<off+k+vs.length then vs[i-(off+k)]? else cs[i]?
 | [],k,cs,i,h=>by simp;intro h1 h2;omega
 | v::vs,k,cs,i,h=>by
  simp only[List.zipIdx_cons,List.foldl_cons]
  simp only[List.length_cons] at h⊢
  rw[foldl_set off vs (k+1) _ i (by simp;omega)]
  by_cases h1:i<off+k
  ·rw[if_pos (by omega),if_pos h1]
   rw[Array.getElem?_setIfInBounds_ne (by omega)]
  ·rw[if_neg h1]
   by_cases h2:i=off+k
   ·subst h2
    rw[if_pos (by omega),if_pos (by omega)]
    rw[Array.getElem?_setIfInBounds_self_of_lt (by omega)]
    simp
   ·rw[if_neg (by omega)]
    by_cases h3:i<off+k+(vs.length+1)
    ·rw[if_pos (by omega),if_pos h3,show i-(off+k)=(i-(off+(k+1)))+1 by omega]
     simp
    ·rw[if_neg (by omega),if_neg h3,Array.getElem?_setIfInBounds_ne (by omega)]
theorem OS (off:Nat): ∀(vs:List Value) (k:Nat) (cs:Array Value),((vs.zipIdx k).foldl (fun cs p=>cs.setIfInBounds (off+p.2) p.1) cs).size=cs.size
 | [],k,cs=>rfl
 | v::vs,k,cs=>by
  simp only[List.zipIdx_cons,List.foldl_cons]
  rw[OS off vs (k+1)]
  simp
theorem OT {cells:Array Value} {off:Nat} {v:Value} (h:off+v.cells.size≤cells.size) (i:Nat):
  (v.cells.zipIdx.foldl (fun cs (p:Value × Nat)=>cs.setIfInBounds (off+p.2) p.1) cells)[i]? =if i<off then cells[i]? else if i<off+v.cells.size then v.cells[i-off]? else cells[i]? :=by
 have:=foldl_set off v.cells.toList 0 cells i (by simpa using h)
 rw[←Array.foldl_toList]
 simpa[Array.toList_zipIdx] using this
theorem OU {cells:Array Value} {off:Nat} {v:Value}:(v.cells.zipIdx.foldl (fun cs (p:Value × Nat)=>cs.setIfInBounds (off+p.2) p.1) cells).size=cells.size:=by
 have:=OS off v.cells.toList 0 cells
 rw[←Array.foldl_toList]
 simpa[Array.toList_zipIdx] using this
inductive wc (P:Program) (w:World) (I:Nat→Prop) (β:Nat→Option Nat) (hp:Nat→Option ag):List (Nat × Value)→List (Nat × V)→Prop
 | nil:wc P w I β hp [] []
 | cons {i:Nat} {v:Value} {x:V} {vs:List (Nat × Value)} {xs:List (Nat × V)}:v.cells.size=x.cells.length→(∀(j:Nat) u y,v.cells[j]? =some u→x.cells[j]? =some y→ah P w I β hp u y)→
   wc P w I β hp vs xs→wc P w I β hp ((i,v)::vs) ((i,x)::xs)
theorem OV (place:Nat→Option (Nat × Nat)): ∀{vs:List (Nat × Value)} {px:List (Nat × V)} {cells:Array Value} {xs ys:List V},wc P w I β hp vs px→cells.size=xs.length→
  (∀(j:Nat) v x,cells[j]? =some v→xs[j]? =some x→ah P w I β hp v x)→ti place xs px=some ys→
  ∃pj:Array Value,Instr.fill place cells vs=some pj∧pj.size=ys.length∧∀(j:Nat) v x,pj[j]? =some v→ys[j]? =some x→ah P w I β hp v x
 | _,_,cells,xs,ys,.nil,hs,hx,h=>by
  simp only[ti,Option.some.injEq] at h
  subst h
  exact ⟨cells,by simp[Instr.fill],hs,hx⟩
 | _,_,cells,xs,ys,@wc.cons _ _ _ _ _ i v x vs px h1 h2 h3,hs,hx,h=>by
  simp only[ti] at h
  cases fa:place i with
  | none=>rw[fa] at h;cases h
  | some os=>
   obtain ⟨off,size⟩:=os
   rw[fa] at h
   simp only at h
   cases hc:(Nat.beq x.cells.length size&&Nat.ble (off+size) xs.length) with
   | false=>rw[hc] at h;cases h
   | true=>
    rw[hc] at h
    simp only[cond_true] at h
    simp only[Bool.and_eq_true,Nat.beq_eq,Nat.ble_eq] at hc
    have hv:off+v.cells.size≤cells.size:=by omega
    have hb:off+x.cells.length≤xs.length:=by omega
    have hl:(fN xs off x.cells).length=xs.length:=yR _ _ _ hb
    obtain ⟨pj,f1,f2,f3⟩:=OV place (cells:=v.cells.zipIdx.foldl (fun cs (p:Value × Nat)=>cs.setIfInBounds (off+p.2) p.1) cells) (xs:=fN xs off x.cells) h3 (by rw[OU,hl,hs])
     (fun j u y hu hy=>by
      rw[OT hv] at hu
      unfold fN at hy
      rw[mW _ _ _ _ hb] at hy
      by_cases j1:j<off
      ·rw[if_pos j1] at hu hy;exact hx j u y hu hy
      ·rw[if_neg j1] at hu hy
       by_cases j2:j<off+x.cells.length
       ·rw[if_pos (by omega)] at hu
        rw[if_pos j2] at hy
        exact h2 (j-off) u y hu hy
       ·rw[if_neg (by omega)] at hu
        rw[if_neg j2] at hy
        exact hx j u y hu hy) h
    refine ⟨pj,?_,f2,f3⟩
    simp only[Instr.fill,fa]
    rw[if_neg (by simp;omega)]
    exact f1
theorem Zh {t:TypeId} {parts:Array (Nat × Value)} {cells:Array Value} {z:Value} {i:TypeInfo} (hi:P.info? t=some i) (hz:i.zero=some z) (h:Instr.fill (placeOf P t) z.cells parts.toList=some cells) (ha:bH P t=true)
  (fa: ∀fs,P.underlying t=some (.struct fs)→(fs.toList.mapM fun f=>(P.info? f.type).map fun i=>(f.offset,i.size)).isSome=true) (qu: ∀n e,P.underlying t=some (.array n e)→(P.info? e).isSome=true):
  (Instr.build t parts).run P w= .ok (.agg cells) w:=by
 refine run_build w t parts cells ?_
 unfold Program.built
 unfold bH at ha
 rw[hi]
 split at ha
 ·rename_i fs hu
  have:=fa fs hu
  cases hm:fs.toList.mapM fun f=>(P.info? f.type).map fun i=>(f.offset,i.size) with
  | none=>rw[hm] at this;cases this
  | some places=>
   simp only[hu,hz,hm]
   have hq:placeOf P t=fun i=>places[i]? :=by simp[placeOf,hu,hm]
   rw[hq] at h
   simpa using h
 ·rename_i n e hu
  have:=qu n e hu
  cases jy:P.info? e with
  | none=>rw[jy] at this;cases this
  | some ie=>
   simp only[hu,hz,jy]
   have hq:placeOf P t=fun i=>some (i*ie.size,ie.size):=by simp[placeOf,hu,jy]
   rw[hq] at h
   exact h
 ·cases ha
theorem OW {α:Type}: ∀(xs ys:List V) (k:Rd α),kW (xs++ys) k=kW xs (kW ys k)
 | [],_,_=>rfl
 | x::xs,ys,k=>by simp only[List.cons_append,kW,OW xs ys k]
theorem OX {a:Act} {sl:Nat→V} (hs:kz P w I β hp a sl) {G:Nat→V} (hg:gL P G w I) (t:TypeId) {α:Type}: ∀{l:List (Nat × Operand)} {k:Rd α} {r:α} {rd:List Nat},
  (kW ((l.map fun p=>(aJ P G t sl p.2).cells).flatten) k).run C hp=some (r,rd)→
  wc P w I β hp (l.map fun p=>(p.1,a.eval p.2)) (l.map fun p=>(p.1,aJ P G t sl p.2))∧∃fc,k.run C hp=some (r,fc)
 | [],k,r,rd,h=>⟨.nil,rd,h⟩
 | (i,x)::l,k,r,rd,h=>by
  simp only[List.map_cons,List.flatten_cons,OW] at h
  obtain ⟨e1,e2⟩:=Ia (hs.ev hg t x) h
  obtain ⟨_,l1,h⟩:=DE h (vs:=(a.eval x).cells.toList) (by simpa using e1) (fun j u y a b=>e2 j u y (by simpa using a) b)
  obtain ⟨h1,h2⟩:=OX hs hg t h
  exact ⟨.cons e1 e2 h1,h2⟩
theorem Zi (S:aD P w I β hp B M w0) {a:Act} {sl:Nat→V} (hs:kz P w I β hp a sl) {G:Nat→V} (hg:gL P G w I) {t ty:TypeId} {ps:Array (Nat × Operand)} {r:R} {rd:List Nat}
  (h:(Rd.aA (cY P t&&(bH P t&&Dd P t)) (kW ((ps.toList.map fun p=>(aJ P G ty sl p.2).cells).flatten)
   (vE (ti (placeOf P t) (zeroCells P t) (ps.toList.map fun p=>(p.1,aJ P G ty sl p.2))) fun cs=> .ret ⟨.agg cs,[]⟩))).run C hp=some (r,rd)):
  dj P ((Instr.build t (ps.map fun (i,x)=>(i,a.eval x))).run P w) w I β hp B M w0 r:=by
 obtain ⟨au,h⟩:=aE h
 simp only[Bool.and_eq_true] at au
 obtain ⟨h1,l,h⟩:=OX hs hg ty h
 cases hf:ti (placeOf P t) (zeroCells P t) (ps.toList.map fun p=>(p.1,aJ P G ty sl p.2)) with
 | none=>rw[hf] at h;cases h
 | some cs=>
  rw[hf] at h
  obtain rfl:=aI h
  obtain ⟨i,z,hi,hz,h3,h4,h5⟩:=OQ (w:=w) (I:=I) (β:=β) (hp:=hp) au.1
  obtain ⟨cells,f1,f2,f3⟩:=OV (placeOf P t) h1 h3 h5 hf
  have OY:=au.2.2
  refine .same S (v:= .agg cells) (Zh hi hz (by simpa using f1) au.2.1 (fun fs hu=> ?_) (fun n e hu=> ?_)) (.agg f2 f3)
  ·simpa[Dd,hu] using OY
  ·simpa[Dd,hu] using OY
theorem Zj (cJ: ∀id blk,hp id=some blk→eh P w I β hp (β id) blk) {x:V} {v:Value} {ys:List V} {fr:List (Nat × ag)} {rd:List Nat} {ts:List TypeId} (hv:ah P w I β hp v x)
  (h:(rL P x.cells).run C hp=some ((ys,fr),rd)) (ht:p8 P ts ys=true):
  v.cells.size=x.cells.length∧∀(j:Nat) u y,v.cells.toList[j]? =some u→x.cells[j]? =some y→ah P w I β hp u y:=by
 cases x with
 | agg xs=>
  obtain ⟨cs,rfl,h1,h2⟩:=hv.kB
  exact ⟨h1,fun j u y a b=>h2 j u y (by simpa[Value.cells] using a) b⟩
 | _=>
  simp only[V.cells] at h⊢
  simp only[rL] at h
  obtain ⟨⟨y1,u1⟩,l3,l4,hq,h⟩:=kA h
  obtain ⟨q1,q2⟩:=Dt cJ hq hv
  obtain ⟨⟨y2,u2⟩,l5,l6,pf,h⟩:=kA h
  cases pf
  have:=aI h
  cases this
  obtain ⟨tl,tg⟩:=tG ht
  have fH:=tg 0 _ y1 (List.getElem?_eq_getElem (by rw[tl];exact Nat.one_pos)) rfl
  have fa:=q2 (iI P w I β hp u1) (fun _ h=> .inl h) (fun p hp b h=> .inr ⟨p,hp,h⟩)
  have ho:=fa.pure fH
  have It:v.cells= #[v]:=by cases ho<;>rfl
  rw[It]
  refine ⟨rfl,fun j u y hu hy=> ?_⟩
  cases j with
  | zero=>simp at hu hy;subst hu;subst hy;exact hv
  | succ j=>simp at hy
def we (P:Program) (w:World) (I:Nat→Prop) (e:TypeId) (cells:Array Value) (es:List V):Prop:=
 cells.size=es.length*P.cellsOf e∧∀(i j:Nat) (x:V) (t':TypeId),es[i]? =some x→(aU P e)[j]? =some t'→j<P.cellsOf e→∃v,cells[i*P.cellsOf e+j]? =some v∧Pure P w I t' v (bK P e x j)
theorem we.set {e:TypeId} {cells:Array Value} {es ys:List V} {i:Nat} {v:Value} (h:we P w I e cells es) (hi:i<es.length) (hv:v.cells.size=P.cellsOf e) (hy:ys.length=P.cellsOf e)
  (hr: ∀(j:Nat) (t':TypeId) (u:Value) (y:V),(aU P e)[j]? =some t'→v.cells[j]? =some u→ys[j]? =some y→Pure P w I t' u y):
  we P w I e (v.cells.zipIdx.foldl (fun cs (p:Value × Nat)=>cs.setIfInBounds (i*P.cellsOf e+p.2) p.1) cells) (es.set i (cx P e ys)):=by
 obtain ⟨h1,h2⟩:=h
 have hb:i*P.cellsOf e+v.cells.size≤cells.size:=by
  have:(i+1)*P.cellsOf e≤es.length*P.cellsOf e:=Nat.mul_le_mul_right _ hi
  rw[Nat.add_mul] at this
  omega
 refine ⟨by rw[OU,List.length_set,h1],fun i' j x t' hx ht hj=> ?_⟩
 rw[OT hb]
 rw[List.getElem?_set] at hx
 by_cases iL:i=i'
 ·subst iL
  rw[if_pos rfl,if_pos hi] at hx
  cases hx
  rw[if_neg (by omega),if_pos (by omega),show i*P.cellsOf e+j-i*P.cellsOf e=j by omega]
  have h3:j<v.cells.size:=by omega
  have h4:j<ys.length:=by omega
  refine ⟨v.cells[j],Array.getElem?_eq_getElem h3,?_⟩
  rw[qn (List.getElem?_eq_getElem h4) ht]
  exact hr j t' _ _ ht (Array.getElem?_eq_getElem h3) (List.getElem?_eq_getElem h4)
 ·rw[if_neg iL] at hx
  have bO:i'*P.cellsOf e+j<i*P.cellsOf e∨i*P.cellsOf e+v.cells.size≤i'*P.cellsOf e+j:=by
   rcases Nat.lt_or_ge i' i with aR|ph
   ·left
    have:(i'+1)*P.cellsOf e≤i*P.cellsOf e:=Nat.mul_le_mul_right _ aR
    rw[Nat.add_mul] at this
    omega
   ·right
    have:(i+1)*P.cellsOf e≤i'*P.cellsOf e:=Nat.mul_le_mul_right _ (by omega)
    rw[Nat.add_mul] at this
    omega
  rcases bO with bO|bO
  ·rw[if_pos bO];exact h2 i' j x t' hx ht hj
  ·rw[if_neg (by omega),if_neg (by omega)];exact h2 i' j x t' hx ht hj
theorem Zk {t':TypeId} {v:Value} (fH:eN P t' (vy (oY P t' v))=true):Pure P w I t' v (vy (oY P t' v)):=by
 have hc:=ah.const (P:=P) (w:=w) (I:=I) (β:=fun _=>none) (hp:=fun _=>none) t' v
 cases tL:oY P t' v<;>rw[tL] at fH hc<;>simp only[vy] at fH⊢
 case int k n=>rw[hc.eI];exact Plain.pure (v:= .int k n) (y:= .int k n) rfl fH
 case bool b=>rw[hc.jw];exact Plain.pure (v:= .bool b) (y:= .bool b) rfl fH
 case str l=>obtain ⟨s,e1,e2⟩:=hc.lW;rw[e1];exact Plain.pure (v:= .string s) (y:= .str l) ⟨s,rfl,e2⟩ fH
 case nilS e'=>
  cases hc
  exact Plain.pure (y:= .list e' []) (iG.any fun _=>rfl) fH
 case list e' es=>
  cases hc with
  | list hp=>exact Plain.pure (y:= .list e' es) hp fH
 all_goals (unfold eN at fH;split at fH<;>simp_all)
theorem yZ {e:TypeId} (h:lQ P e=true): ∃i z,P.info? e=some i∧i.zero=some z∧i.size=P.cellsOf e∧z.cells.size=P.cellsOf e∧
  ∀(j:Nat) (t':TypeId),(aU P e)[j]? =some t'→j<P.cellsOf e→∃v,z.cells[j]? =some v∧Pure P w I t' v (bK P e (cx P e (eU P e)) j):=by
 unfold lQ at h
 simp only[Bool.and_eq_true] at h
 obtain ⟨i,z,h1,h2,h3,h4,h5⟩:=jX h.1
 refine ⟨i,z,h1,h2,h3,h4,fun j t' ht hj=> ?_⟩
 obtain ⟨tl,tg⟩:=tG h.2
 have dg:j<(eU P e).length:=by rw[←tl,(jV h.1).1];exact hj
 have hz:=List.getElem?_eq_getElem dg
 have fH:=tg j t' _ (by rw[←rZ];exact ht) hz
 refine ⟨z.cells[j],Array.getElem?_eq_getElem (by omega),?_⟩
 rw[qn hz ht]
 have tM:(eU P e)[j]=vy (oY P t' z.cells[j]):=by
  have:(eU P e)[j]? =((zeroCells P e)[j]?).map vy:=by simp[eU]
  rw[hz] at this
  cases hc:(zeroCells P e)[j]? with
  | none=>rw[hc] at this;cases this
  | some y=>
   rw[hc] at this
   simp only[Option.map_some,Option.some.injEq] at this
   rw[h5] at hc
   obtain ⟨t2,v2,a1,a2,rfl⟩:=Iu hc
   have Iv:t2=t':=by
    rw[←rZ,ht] at a1;exact (Option.some.inj a1).symm
   have qg:v2=z.cells[j]:=by
    have Zl:j<z.cells.size:=by omega
    have:z.cells.toList[j]? =some z.cells[j]:=by simp[Zl]
    rw[this] at a2;exact (Option.some.inj a2).symm
   rw[this,Iv,qg]
 rw[tM] at fH⊢
 exact Zk fH
end
section
variable {P:Program} {w w':World} {I I':Nat→Prop} {β an:Nat→Option Nat} {hp hp':Nat→Option ag} {C:ae} {B:Nat} {M:Nat→Prop} {w0:Start}
theorem wg (S:aD P w I β hp B M w0) {nb cap:Nat} {e:TypeId} {es:List V} {C0:Array Value} (au:cY P e=true) (hn:hp nb=none) (hs:C0.size=cap*P.cellsOf e) (hl:es.length≤cap) (hm:cap≤maxLen)
  (hx: ∀(i j:Nat) (x:V) (t':TypeId),es[i]? =some x→(aU P e)[j]? =some t'→j<P.cellsOf e→∃v,C0[i*P.cellsOf e+j]? =some v∧Pure P w I t' v (bK P e x j)):
  Le P w I β hp (w.alloc (.cells C0 e)) I (aG β nb (some w.heap.size)) (aG hp nb (some (.arr e es false)))∧aD P (w.alloc (.cells C0 e)) I (aG β nb (some w.heap.size)) (aG hp nb (some (.arr e es false))) B M w0∧
  ah P (w.alloc (.cells C0 e)) I (aG β nb (some w.heap.size)) (aG hp nb (some (.arr e es false))) (.slice (some ⟨w.heap.size,0,none⟩) es.length cap) (.whole e nb):=by
 obtain ⟨h1,h2⟩:=H5 S (blk:= .arr e es false) (c:=C0) (T:=e) hn (fun b' h=>(Option.some.inj (h.flat (by simp))).symm) (fun hle fb cW=> .arr au rfl fb (by rw[hs];exact Nat.mul_le_mul_right _ hl) (fun h=>by cases h) (fun _=>cW) fun i j x t' a b c=>by
  obtain ⟨v,hv,hp⟩:=hx i j x t' a b c
  exact ⟨v,hv,hp.mono hle.dz hle.cg⟩)
 refine ⟨h1,h2,.whole (dd _ _ _) (dd _ _ _) ?_ hl hm⟩
 rw[mP (heap_alloc_new w (.cells C0 e)),hs]
theorem At.only {b b':Nat} {e e':TypeId} {es aH:List V} {q:Path} (hz: ∀(i j:Nat) x t' e1 l,es[i]? =some x→(aU P e)[j]? =some t'→bK P e x j= .list e1 l→l=[])
  (h:At P w b e es q b' e' aH):q=[]∧b'=b∧e'=e∧aH=es:=by
 cases h with
 | here=>exact ⟨rfl,rfl,rfl,rfl⟩
 | step h1 h2 h3 h4 h5 h6=>have:=hz _ _ _ _ _ _ h2 h3 h5;subst this;simp at h6
theorem lT.qf {t:TypeId} {v:Value} {x:V} (h:Pure P w I t v x) (hz: ∀e1 l,x= .list e1 l→l=[]):lT P w I t v x:=by
 cases h with
 | int h=>exact .fS (by unfold fO;rw[h]) (.int h)
 | bool h=>exact .fS (by unfold fO;rw[h]) (.bool h)
 | str h hl=>exact .fS (by unfold fO;rw[h]) (.str h hl)
 | nil h=>exact .emp h fun _=>rfl
 | emp h=>exact .emp h fun h=>by cases h
 | list g hu hl _ _ _ _=>
  have:=hz _ _ rfl
  subst this
  simp at hl
  subst hl
  exact .emp hu fun h=>by cases h
theorem Zm (S:aD P w I β hp B M w0) {nb cap:Nat} {e:TypeId} {es:List V} {C0:Array Value} (au:cY P e=true) (hn:hp nb=none) (hs:C0.size=cap*P.cellsOf e) (hl:es.length≤cap) (hm:cap≤maxLen)
  (hx: ∀(i j:Nat) (x:V) (t':TypeId),es[i]? =some x→(aU P e)[j]? =some t'→j<P.cellsOf e→∃v,C0[i*P.cellsOf e+j]? =some v∧Pure P w I t' v (bK P e x j))
  (hz: ∀(i j:Nat) x t' e1 l,es[i]? =some x→(aU P e)[j]? =some t'→bK P e x j= .list e1 l→l=[]):
  Le P w I β hp (w.alloc (.cells C0 e)) I (aG β nb (some w.heap.size)) (aG hp nb (some (.nest e es [0,0,0])))∧aD P (w.alloc (.cells C0 e)) I (aG β nb (some w.heap.size)) (aG hp nb (some (.nest e es [0,0,0]))) B M w0∧
  ah P (w.alloc (.cells C0 e)) I (aG β nb (some w.heap.size)) (aG hp nb (some (.nest e es [0,0,0]))) (.slice (some ⟨w.heap.size,0,none⟩) es.length cap) (.whole e nb):=by
 obtain ⟨h1,h2⟩:=H5 S (blk:= .nest e es [0,0,0]) (c:=C0) (T:=e) hn (fun b' h=>by
   cases h with
   | root _ h=>exact (Option.some.inj h).symm
   | row h ha=>cases h;exact (At.only hz ha).2.1)
  (fun hle fb cW=> .nest rfl (fun q b' e' aH ha=>by
   obtain ⟨rfl,rfl,rfl,rfl⟩:=At.only hz ha
   refine ⟨au,⟨C0,fb,by rw[hs];exact Nat.mul_le_mul_right _ hl,fun i j x t' a b c=> ?_⟩,cW⟩
   obtain ⟨v,hv,hp⟩:=hx i j x t' a b c
   exact ⟨v,hv,.qf (hp.mono hle.dz hle.cg) fun e1 l h=>hz i j x t' e1 l a b h⟩)
   fun q1 q2 b' e1 cm e2 cb a1 a2=>(At.only hz a1).1.trans (At.only hz a2).1.symm)
 refine ⟨h1,h2,.eH (dd _ _ _) (dd _ _ _) ?_ hl hm⟩
 rw[mP (heap_alloc_new w (.cells C0 e)),hs]
theorem OZ (cJ: ∀id blk,hp id=some blk→eh P w I β hp (β id) blk) {a:Act} {sl:Nat→V} (hs:kz P w I β hp a sl) {G:Nat→V} (hg:gL P G w I) {e:TypeId} {len:Nat}: ∀{l:List (Nat × Operand)} {ps:List (Nat × V)} {upd:List (Nat × ag)} {rd:List Nat},
  (yg P e len (l.map fun p=>(p.1,aJ P G e sl p.2))).run C hp=some ((ps,upd),rd)→cY P e=true→(∀p∈upd,yE hp p)∧∀I':Nat→Prop,(∀b,I b→I' b)→(∀p∈upd,∀b,rY P w β hp p.1 b→I' b)→
   ∀(cells:Array Value) (es:List V),es.length=len→we P w I' e cells es→∃pj,Instr.fill (fun i=>some (i*P.cellsOf e,P.cellsOf e)) cells (l.map fun p=>(p.1,a.eval p.2))=some pj∧we P w I' e pj (yf es ps)∧(yf es ps).length=len
 | [],ps,upd,rd,h,_=>by
  cases h
  exact ⟨by simp,fun I' _ _ cells es hl he=>⟨cells,by simp[Instr.fill],he,hl⟩⟩
 | (i,x)::l,ps,upd,rd,h,au=>by
  simp only[List.map_cons,yg] at h
  obtain ⟨⟨ys,u1⟩,l1,l2,h1,h⟩:=kA h
  obtain ⟨hc,h⟩:=aE h
  obtain ⟨⟨ps',u2⟩,l3,l4,h2,h⟩:=kA h
  have:=aI h
  cases this
  simp only[Bool.and_eq_true,Nat.blt_eq] at hc
  obtain ⟨hi,fH⟩:=hc
  obtain ⟨tl,tg⟩:=tG fH
  have vW:=hs.ev hg e x
  obtain ⟨v1,v2⟩:=Zj cJ vW h1 fH
  obtain ⟨k1,k2,k3⟩:=H4 cJ h1 (vs:=(a.eval x).cells.toList) (by simpa using v1) v2
  obtain ⟨m1,m2⟩:=OZ cJ hs hg h2 au
  refine ⟨fun p hp=> ?_,fun I' i1 i2 cells es hl he=> ?_⟩
  ·rcases List.mem_append.1 hp with h|h
   ·exact k2 p h
   ·exact m1 p h
  ·have fa:=k3 I' i1 (fun p hp=>i2 p (List.mem_append.2 (.inl hp)))
   have aZ:=(jV au).1
   have tJ:ys.length=P.cellsOf e:=by rw[←tl,aZ]
   have OE:(a.eval x).cells.size=P.cellsOf e:=by rw[v1,←k1,tJ]
   have tN:=he.set (i:=i) (ys:=ys) (by omega) OE tJ (fun j t' u y ht hu hy=>by
    exact (fa j u y (by simpa using hu) hy).pure (tg j t' y (by rw[←rZ];exact ht) hy))
   obtain ⟨pj,f1,f2,f3⟩:=m2 I' i1 (fun p hp=>i2 p (List.mem_append.2 (.inr hp))) _ (es.set i (cx P e ys)) (by simpa using hl) tN
   refine ⟨pj,?_,f2,f3⟩
   have hb:i*P.cellsOf e+P.cellsOf e≤cells.size:=by
    rw[he.1,hl]
    have:(i+1)*P.cellsOf e≤len*P.cellsOf e:=Nat.mul_le_mul_right _ hi
    rw[Nat.add_mul] at this
    omega
   simp only[List.map_cons,Instr.fill]
   rw[if_neg (by simp;omega)]
   exact f1
theorem O0 {z:Array Value} {n k:Nat} (hk:k<n) (hz:0<z.size):((Array.range n).map (z[· %z.size]!))[k]? =z[k %z.size]? :=by
 have hm:k %z.size<z.size:=Nat.mod_lt _ hz
 simp[hk,hm]
theorem DO {e:TypeId} (h:lQ P e=true) {i:TypeInfo} {z:Value} (hi:P.info? e=some i) (hz:i.zero=some z) (n m:Nat) (nW:n≤m):
  ∀(k j:Nat) (x:V) (t':TypeId),(List.replicate n (cx P e (eU P e)))[k]? =some x→(aU P e)[j]? =some t'→j<P.cellsOf e→
   ∃v,((Array.range (m*P.cellsOf e)).map (z.cells[· %z.cells.size]!))[k*P.cellsOf e+j]? =some v∧Pure P w I t' v (bK P e x j):=by
 intro k j x t' hx ht hj
 obtain ⟨i2,z2,h1,h2,h3,h4,h5⟩:=yZ (w:=w) (I:=I) h
 rw[hi] at h1;cases h1
 rw[hz] at h2;cases h2
 rw[List.getElem?_replicate] at hx
 split at hx
 ·rename_i hk
  cases hx
  obtain ⟨v,hv,hp⟩:=h5 j t' ht hj
  refine ⟨v,?_,hp⟩
  have hb:k*P.cellsOf e+j<m*P.cellsOf e:=by
   have:(k+1)*P.cellsOf e≤m*P.cellsOf e:=Nat.mul_le_mul_right _ (by omega)
   rw[Nat.add_mul] at this
   omega
  rw[O0 hb (by omega),h4,show (k*P.cellsOf e+j) %P.cellsOf e=j by rw[Nat.mul_comm,Nat.mul_add_mod];exact Nat.mod_eq_of_lt hj]
  exact hv
 ·cases hx
theorem Zn {P:Program} (w:World) (t e:TypeId) (len:Nat) (parts:Array (Nat × Value)) (cells:Array Value) (ie:TypeInfo) (z:Value)
  (hu:P.underlying t=some (.slice e)) (jy:P.info? e=some ie) (hz:ie.zero=some z) (Zo: ¬len*ie.size>2^24)
  (h:Instr.fill (fun i=>some (i*ie.size,ie.size)) ((Array.range (len*ie.size)).map (z.cells[· %z.cells.size]!)) parts.toList=some cells):
  (Instr.buildSlice t len parts).run P w= .ok (.slice (some ⟨w.heap.size,0,none⟩) len len) (w.alloc (.cells cells e)):=by
 by_cases nW:len*ie.size=0
 ·have h0: ∀g:Nat→Value,(Array.range (len*ie.size)).map g= #[]:=by intro g;exact Array.eq_empty_of_size_eq_zero (by simp[nW])
  have hp: ∀(u:Array Value),(Pure.pure u:Sem (Array Value)).run P w= .ok u w:=fun _=>rfl
  rw[h0] at h
  simp only[Instr.buildSlice,Sem.run_bind,run_underlying hu,Result.andThen_ok,sizeOf,typeInfo,jy]
  have h1:(Array.range (len*ie.size)).map (fun _:Nat=>(default:Value))= #[]:=h0 _
  have hs: ¬16777216<len*ie.size:=by omega
  simp[jy,hs,nW]
  simp only[nW] at h1
  simp[h1,h,newRow]
 ·exact run_buildSlice w t e len parts cells ie z hu jy hz Zo nW h
theorem Zp (S:aD P w I β hp B M w0) {a:Act} {sl:Nat→V} (hs:kz P w I β hp a sl) {G:Nat→V} (hg:gL P G w I) {t e:TypeId} {len nb:Nat} {ps:Array (Nat × Operand)} {r:R} {rd:List Nat} (hu:P.underlying t=some (.slice e))
  (h:(Rd.aA (lQ P e&&Nat.ble (len*P.cellsOf e) (2^24)) ((yg P e len (ps.toList.map fun p=>(p.1,aJ P G e sl p.2))).bind fun r=>
    iX nb (.arr e (yf (List.replicate len (cx P e (eU P e))) r.1) false) (.whole e nb) r.2)).run C hp=some (r,rd)):
  dj P ((Instr.buildSlice t len (ps.map fun (i,x)=>(i,a.eval x))).run P w) w I β hp B M w0 r:=by
 obtain ⟨hc,h⟩:=aE h
 simp only[Bool.and_eq_true,Nat.ble_eq] at hc
 obtain ⟨da,vM⟩:=hc
 have au:cY P e=true:=by
  unfold lQ at da;simp only[Bool.and_eq_true] at da;exact da.1
 obtain ⟨⟨pv,upd⟩,l1,l2,h1,h⟩:=kA h
 obtain ⟨hn,rfl⟩:=mY h
 obtain ⟨m1,m2⟩:=OZ S.h.rel hs hg h1 au
 obtain ⟨qq,S1⟩:=yJ S m1
 obtain ⟨i,z,hi,hz,h3,h4,_⟩:=yZ (w:=w) (I:=I) da
 have iH:=(jV au).2
 have h0:we P w (iI P w I β hp upd) e ((Array.range (len*P.cellsOf e)).map (z.cells[· %z.cells.size]!)) (List.replicate len (cx P e (eU P e))):=
  ⟨by simp,DO da hi hz len len (Nat.le_refl _)⟩
 obtain ⟨cells,f1,f2,f3⟩:=m2 (iI P w I β hp upd) (fun _ h=> .inl h) (fun p hp b h=> .inr ⟨p,hp,h⟩) _ _ (by simp) h0
 have je:bN hp upd nb=none:=by
  rcases tA (hp:=hp) (l:=upd) (id:=nb) with h|⟨b',hm,_⟩
  ·exact h.trans hn
  ·obtain ⟨e1,cm,_,h5⟩:=m1 _ hm
   simp only[hn] at h5
   rcases h5 with ⟨_,h5⟩|⟨_,h5⟩<;>cases h5
 have oc:len≤maxLen:=by
  have:len*1≤len*P.cellsOf e:=Nat.mul_le_mul_left _ iH
  simp only[maxLen]
  omega
 obtain ⟨n1,n2,n3⟩:=wg S1 (cap:=len) au je (by rw[f2.1,f3]) (by rw[f3];exact Nat.le_refl _) oc f2.2
 have dh:=Zn w t e len (ps.map fun (i,x)=>(i,a.eval x)) cells i z hu hi hz (by rw[h3];omega) (by rw[h3];simpa using f1)
 refine ⟨_,_,_,_,dh,qq.trans n1,n2,?_⟩
 rw[f3] at n3
 exact n3
theorem O1 (S:aD P w I β hp B M w0) {t e:TypeId} {nb:Nat} {kl kc:IntKind} {n m:Int} {r:R} {rd:List Nat} (hu:P.underlying t=some (.slice e))
  (h:(Rd.aA (lQ P e&&(decide (0≤n)&&(decide (n≤m)&&Nat.ble (m.toNat*P.bytesOf e) bC)))
    (iX nb (.arr e (List.replicate n.toNat (cx P e (eU P e))) false) (.whole e nb) [])).run C hp=some (r,rd)):
  dj P ((Instr.makeSlice t (.int kl n) (.int kc m)).run P w) w I β hp B M w0 r:=by
 obtain ⟨hc,h⟩:=aE h
 simp only[Bool.and_eq_true,Nat.ble_eq,decide_eq_true_eq] at hc
 obtain ⟨da,h0,nW,eP⟩:=hc
 have au:cY P e=true:=by
  unfold lQ at da;simp only[Bool.and_eq_true] at da;exact da.1
 obtain ⟨hn,rfl⟩:=mY h
 obtain ⟨i,z,hi,hz,h3,h4,_⟩:=yZ (w:=w) (I:=I) da
 have ma:P.bytesOf e=i.bytes:=by simp[Program.bytesOf,hi]
 have Iw:m≤9223372036854775807:=by
  have h1:m.toNat*1≤m.toNat*P.bytesOf e:=Nat.mul_le_mul_left _ (vO au)
  simp only[bC] at eP
  omega
 have dh:=run_make (P:=P) w t e i z hu hi hz kl kc n m h0 nW (by
  rw[ma] at eP
  simp only[bC] at eP
  have:(i.bytes:Int)*m=((m.toNat*i.bytes:Nat):Int):=by
   rw[Int.natCast_mul,Int.toNat_of_nonneg (by omega),Int.mul_comm]
  rw[this]
  omega) Iw
 have hlen:(List.replicate n.toNat (cx P e (eU P e))).length=n.toNat:=by simp
 obtain ⟨n1,n2,n3⟩:=wg S (cap:=m.toNat) (es:=List.replicate n.toNat (cx P e (eU P e))) (C0:=madeCells z.cells (m.toNat*i.size)) au hn (by rw[size_madeCells,h3]) (by rw[hlen];omega) (by simp only[maxLen];omega)
  (by rw[h3];exact DO da hi hz n.toNat m.toNat (by omega))
 refine ⟨_,_,_,_,dh,n1,n2,?_⟩
 rw[hlen] at n3
 exact n3
theorem Ix: ∀{l:List V} {j:Nat} {e1:TypeId} {k:List V},yp l=true→V.nth l j= .list e1 k→k=[]
 | [],j,e1,k,_,h=>by cases j<;>cases h
 | x::l,0,e1,k,hn,h=>by
  simp only[V.nth] at h
  subst h
  cases k with
  | nil=>rfl
  | cons _ _=>cases hn
 | x::l,j+1,e1,k,hn,h=>by
  refine Ix (l:=l) (j:=j) ?_ h
  cases x with
  | list e2 k2=>
   cases k2 with
   | nil=>exact hn
   | cons _ _=>cases hn
  | _=>exact hn
theorem Zq {e:TypeId} {n:Nat} (au:cY P e=true) (h:yp (eU P e)=true):
  ∀(i j:Nat) x t' e1 l,(List.replicate n (cx P e (eU P e)))[i]? =some x→(aU P e)[j]? =some t'→bK P e x j= .list e1 l→l=[]:=by
 intro i j x t' e1 l hx ht hl
 have:=List.eq_of_mem_replicate (List.mem_of_getElem? hx)
 subst this
 unfold bK cx at hl
 cases ha:bH P e with
 | true=>rw[ha] at hl;exact Ix h hl
 | false=>rw[ha] at hl;exact Ix h hl
theorem Zr (S:aD P w I β hp B M w0) {t e:TypeId} {nb:Nat} {kl kc:IntKind} {n m:Int} {r:R} {rd:List Nat} (hu:P.underlying t=some (.slice e))
  (h:(Rd.aA (lQ P e&&(decide (0≤n)&&(decide (n≤m)&&Nat.ble (m.toNat*P.bytesOf e) bC)))
    (Rd.aA (yp (eU P e)) (iX nb (.nest e (List.replicate n.toNat (cx P e (eU P e))) [0,0,0]) (.whole e nb) []))).run C hp=some (r,rd)):
  dj P ((Instr.makeSlice t (.int kl n) (.int kc m)).run P w) w I β hp B M w0 r:=by
 obtain ⟨hc,h⟩:=aE h
 simp only[Bool.and_eq_true,Nat.ble_eq,decide_eq_true_eq] at hc
 obtain ⟨da,h0,nW,eP⟩:=hc
 have au:cY P e=true:=by
  unfold lQ at da;simp only[Bool.and_eq_true] at da;exact da.1
 obtain ⟨Zs,h⟩:=aE h
 obtain ⟨hn,rfl⟩:=mY h
 obtain ⟨i,z,hi,hz,h3,h4,_⟩:=yZ (w:=w) (I:=I) da
 have ma:P.bytesOf e=i.bytes:=by simp[Program.bytesOf,hi]
 have Iw:m≤9223372036854775807:=by
  have h1:m.toNat*1≤m.toNat*P.bytesOf e:=Nat.mul_le_mul_left _ (vO au)
  simp only[bC] at eP
  omega
 have dh:=run_make (P:=P) w t e i z hu hi hz kl kc n m h0 nW (by
  rw[ma] at eP
  simp only[bC] at eP
  have:(i.bytes:Int)*m=((m.toNat*i.bytes:Nat):Int):=by
   rw[Int.natCast_mul,Int.toNat_of_nonneg (by omega),Int.mul_comm]
  rw[this]
  omega) Iw
 have hlen:(List.replicate n.toNat (cx P e (eU P e))).length=n.toNat:=by simp
 obtain ⟨n1,n2,n3⟩:=Zm S (cap:=m.toNat) (es:=List.replicate n.toNat (cx P e (eU P e))) (C0:=madeCells z.cells (m.toNat*i.size)) au hn (by rw[size_madeCells,h3]) (by rw[hlen];omega) (by simp only[maxLen];omega)
  (by rw[h3];exact DO da hi hz n.toNat m.toNat (by omega))
  (Zq au Zs)
 refine ⟨_,_,_,_,dh,n1,n2,?_⟩
 rw[hlen] at n3
 exact n3
theorem Pure.one {t:TypeId} {v:Value} {x:V} (h:Pure P w I t v x):v.oneCell'=true:=by cases h<;>rfl
structure Row (P:Program) (w:World) (I:Nat→Prop) (e:TypeId) (v:Value) (xs:List V) (a:Addr) (c:Nat) (news:List Value):Prop where
 val:v= .slice (some a) xs.length c
 len:news.length=xs.length*P.cellsOf e
 cell: ∀(j:Nat) u,news[j]? =some u→w.cell? (a.add j)=some u
 el: ∀(i j:Nat) (x:V) (t':TypeId),xs[i]? =some x→(aU P e)[j]? =some t'→j<P.cellsOf e→∃u,news[i*P.cellsOf e+j]? =some u∧Pure P w I t' u (bK P e x j)
theorem Row.one {e:TypeId} {v:Value} {xs:List V} {a:Addr} {c:Nat} {news:List Value} (h:Row P w I e v xs a c news) (au:cY P e=true): ∀u∈news,u.oneCell'=true:=by
 intro u hu
 obtain ⟨k,hk⟩:=List.getElem?_of_mem hu
 have lh:=(List.getElem?_eq_some_iff.1 hk).1
 have iH:=(jV au).2
 rw[h.len] at lh
 have hi:k/P.cellsOf e<xs.length:=Nat.div_lt_of_lt_mul (by rw[Nat.mul_comm];exact lh)
 have hj:k %P.cellsOf e<P.cellsOf e:=Nat.mod_lt _ iH
 have gA:k %P.cellsOf e<(aU P e).length:=by rw[fG au];exact hj
 obtain ⟨u',fV,hp⟩:=h.el (k/P.cellsOf e) (k %P.cellsOf e) _ _ (List.getElem?_eq_getElem hi) (List.getElem?_eq_getElem gA) hj
 rw[Nat.div_add_mod'] at fV
 rw[hk] at fV
 cases fV
 exact hp.one
theorem O2 {e:TypeId} {es:List V} {b:Nat} {Ca:Array Value} {off len cap o:Nat} (hh:w.heap[b]? =some (.cells Ca e (0,0))) (hs:es.length*P.cellsOf e≤Ca.size)
  (hx: ∀(i j:Nat) (x:V) (t':TypeId),es[i]? =some x→(aU P e)[j]? =some t'→j<P.cellsOf e→∃v,Ca[i*P.cellsOf e+j]? =some v∧Pure P w I t' v (bK P e x j))
  (jc:off+len≤es.length) (ho:0<len→o=off*P.cellsOf e):
  Row P w I e (.slice (some ⟨b,o,none⟩) len cap) ((es.drop off).take len) ⟨b,o,none⟩ cap ((Ca.toList.drop (off*P.cellsOf e)).take (len*P.cellsOf e)):=by
 have hlen:((es.drop off).take len).length=len:=by simp;omega
 have hb:(off+len)*P.cellsOf e≤Ca.size:=Nat.le_trans (Nat.mul_le_mul_right _ jc) hs
 rw[Nat.add_mul] at hb
 refine ⟨by rw[hlen],by rw[hlen];simp;omega,fun j u hj=> ?_,fun i j x t' gy ht hj=> ?_⟩
 ·have dg:=(List.getElem?_eq_some_iff.1 hj).1
  have Iy:j<len*P.cellsOf e:=by
   rw[List.length_take] at dg;omega
  have lU:0<len:=by
   rcases Nat.eq_zero_or_pos len with h|h
   ·rw[h] at Iy;simp at Iy
   ·exact h
  rw[List.getElem?_take_of_lt Iy,List.getElem?_drop] at hj
  rw[mV,cell?_cells hh,ho lU]
  simpa using hj
 ·have hi:i<len:=by rw[←hlen];exact (List.getElem?_eq_some_iff.1 gy).1
  rw[List.getElem?_take_of_lt hi,List.getElem?_drop] at gy
  obtain ⟨u,hu,hp⟩:=hx (off+i) j x t' gy ht hj
  refine ⟨u,?_,hp⟩
  have:i*P.cellsOf e+j<len*P.cellsOf e:=by
   have:(i+1)*P.cellsOf e≤len*P.cellsOf e:=Nat.mul_le_mul_right _ hi
   rw[Nat.add_mul] at this
   omega
  rw[List.getElem?_take_of_lt this,List.getElem?_drop]
  rw[Nat.add_mul] at hu
  rw[←Nat.add_assoc]
  simpa using hu
theorem DP (cJ: ∀id blk,hp id=some blk→eh P w I β hp (β id) blk) {e:TypeId} {v:Value} {x:V} {k:List V→Rd R} {r:R} {rd:List Nat} (au:cY P e=true) (hv:ah P w I β hp v x)
  (h:(rP e x k).run C hp=some (r,rd)): ∃xs,(((∃a,v= .slice a 0 0)∧xs=[])∨∃a c news,Row P w I e v xs a c news)∧∃l,(k xs).run C hp=some (r,l):=by
 cases hv with
 | list hp'=>
  obtain ⟨hc,h2⟩:=aE h
  clear h
  rw[Nat.beq_eq] at hc
  subst hc
  cases hp' with
  | nil=>exact ⟨[],.inl ⟨⟨_,rfl⟩,rfl⟩,rd,h2⟩
  | @emp a cap=>exact ⟨[],.inr ⟨a,cap,[],⟨rfl,by simp,fun j u hj=>by simp at hj,fun i j x t' hx _ _=>by simp at hx⟩⟩,rd,h2⟩
  | @list b o len cap es g hl cd hI gl hx=>
   refine ⟨_,.inr ⟨⟨b,o,none⟩,cap,(List.range (len*P.cellsOf e)).map fun k=>g (k/P.cellsOf e) (k %P.cellsOf e),⟨by rw[hl],by rw[hl];simp,fun j u hj=> ?_,fun i j x t' gy ht hj=> ?_⟩⟩,rd,h2⟩
   ·obtain ⟨dg,ij⟩:=List.getElem?_eq_some_iff.1 hj
    simp at dg ij
    have iH:=(jV au).2
    have hi:j/P.cellsOf e<len:=Nat.div_lt_of_lt_mul (by rw[Nat.mul_comm];exact dg)
    have b6:j %P.cellsOf e<P.cellsOf e:=Nat.mod_lt _ iH
    rw[mV,←ij]
    have:=gl (j/P.cellsOf e) (j %P.cellsOf e) hi b6
    rwa [Nat.div_add_mod'] at this
   ·have hi:i<len:=by rw[←hl];exact (List.getElem?_eq_some_iff.1 gy).1
    have hb:i*P.cellsOf e+j<len*P.cellsOf e:=by
     have:(i+1)*P.cellsOf e≤len*P.cellsOf e:=Nat.mul_le_mul_right _ hi
     rw[Nat.add_mul] at this
     omega
    refine ⟨g i j,?_,hx i j x t' gy ht⟩
    have e1:(i*P.cellsOf e+j)/P.cellsOf e=i:=by
     rw[Nat.mul_comm,Nat.mul_add_div (jV au).2,Nat.div_eq_of_lt hj,Nat.add_zero]
    have e2:(i*P.cellsOf e+j) %P.cellsOf e=j:=by
     rw[Nat.mul_comm,Nat.mul_add_mod];exact Nat.mod_eq_of_lt hj
    simp[hb,e1,e2]
 | nilS=>
  obtain ⟨hc,h⟩:=aE h
  exact ⟨[],.inl ⟨⟨_,rfl⟩,rfl⟩,rd,h⟩
 | dU ab hb=>
  obtain ⟨l,h⟩:=run_get h
  simp only[ab] at h
  obtain ⟨hc,h⟩:=aE h
  exact ⟨[],.inl ⟨⟨_,rfl⟩,rfl⟩,l,h⟩
 | @whole e' id es fz b cap ab hb aZ cd hm=>
  obtain ⟨l,h⟩:=run_get h
  simp only[ab] at h
  obtain ⟨hc,h2⟩:=aE h
  clear h
  simp only[Bool.and_eq_true,Nat.beq_eq] at hc
  obtain ⟨rfl,_⟩:=hc
  have hr:=cJ _ _ ab
  cases hr with
  | dV ax=>rw[ax] at hb;cases hb
  | arr H9 ax hh hs hf ez hx=>
   rw[hb] at ax;cases ax
   have:=O2 (cap:=cap) (off:=0) (len:=es.length) (o:=0) hh hs hx (by omega) (fun _=>by simp)
   exact ⟨es,.inr ⟨_,_,_,by simpa using this⟩,l,h2⟩
 | fT ab hb=>
  obtain ⟨l,h⟩:=run_get h
  simp only[ab] at h
  obtain ⟨hc,h⟩:=aE h
  exact ⟨[],.inl ⟨⟨_,rfl⟩,rfl⟩,l,by simpa using h⟩
 | @sub e' id off len es fz b o cap ab hb jc cd ho=>
  obtain ⟨l,h⟩:=run_get h
  simp only[ab] at h
  obtain ⟨hc,h2⟩:=aE h
  clear h
  simp only[Bool.and_eq_true,Nat.beq_eq] at hc
  obtain ⟨rfl,_⟩:=hc
  have hr:=cJ _ _ ab
  cases hr with
  | dV ax=>rw[ax] at hb;cases hb
  | arr H9 ax hh hs hf ez hx=>
   rw[hb] at ax;cases ax
   exact ⟨_,.inr ⟨_,_,_,O2 (cap:=cap) hh hs hx jc ho⟩,l,h2⟩
 | ey ab=>
  obtain ⟨l,h⟩:=run_get h
  simp only[ab] at h
  cases h
 | gk ab=>
  obtain ⟨l,h⟩:=run_get h
  simp only[ab] at h
  cases h
 | undef=>cases h
 | int=>cases h
 | bool=>cases h
 | str=>cases h
 | agg=>cases h
 | bh=>cases h
 | dE=>cases h
 | fn=>cases h
 | pref=>cases h
 | jT=>cases h
 | ptr=>cases h
 | jr=>cases h
 | js=>cases h
 | row=>cases h
 | cG=>cases h
 | dF=>cases h
 | ic=>cases h
 | bX=>cases h
 | eH ab=>
  obtain ⟨l,h⟩:=run_get h
  simp only[ab] at h
  cases h
theorem O3 {t ty e:TypeId} {i:TypeInfo} (ht:P.underlying t=some (.slice e)) (hi:P.info? e=some i) (a:Option Addr) (n cap:Nat) (x:Value) (hx: ∃a c,x= .slice a 0 c) (hn:n≤cap):
  (Builtin.append_ #[t,t] ty #[.slice a n cap,x]).run P w= .ok (.slice a n cap) w:=by
 obtain ⟨a',c,rfl⟩:=hx
 cases a' with
 | none=>cases a<;>simp[Builtin.append_,run_underlying ht,sizeOf,typeInfo,hi,Builtin.lenOf,Builtin.firstCells,hn,storeCells]
 | some a'=>cases a<;>simp[Builtin.append_,run_underlying ht,sizeOf,typeInfo,hi,Builtin.lenOf,Builtin.firstCells,hn,storeCells,loadCells,loadCellsFrom]
theorem DQ {e:TypeId} {es xs:List V} {n:Nat} {c:List Value} {news:List Value} (hn:es.length=n)
  (h1: ∀(i j:Nat) (x:V) (t':TypeId),es[i]? =some x→(aU P e)[j]? =some t'→j<P.cellsOf e→∃v,c[i*P.cellsOf e+j]? =some v∧Pure P w I t' v (bK P e x j))
  (h2: ∀(i j:Nat) (x:V) (t':TypeId),xs[i]? =some x→(aU P e)[j]? =some t'→j<P.cellsOf e→∃v,news[i*P.cellsOf e+j]? =some v∧Pure P w I t' v (bK P e x j))
  (hb:n*P.cellsOf e≤c.length) (rest:List Value):
  ∀(i j:Nat) (x:V) (t':TypeId),(es++xs)[i]? =some x→(aU P e)[j]? =some t'→j<P.cellsOf e→∃v,(c.take (n*P.cellsOf e)++news++rest)[i*P.cellsOf e+j]? =some v∧Pure P w I t' v (bK P e x j):=by
 intro i j x t' hx ht hj
 have hl:(c.take (n*P.cellsOf e)).length=n*P.cellsOf e:=by simp;omega
 by_cases hi:i<n
 ·rw[List.getElem?_append_left (by omega)] at hx
  obtain ⟨v,hv,hp⟩:=h1 i j x t' hx ht hj
  have:i*P.cellsOf e+j<n*P.cellsOf e:=by
   have:(i+1)*P.cellsOf e≤n*P.cellsOf e:=Nat.mul_le_mul_right _ hi
   rw[Nat.add_mul] at this
   omega
  exact ⟨v,by rw[List.append_assoc,List.getElem?_append_left (by omega),List.getElem?_take_of_lt this];exact hv,hp⟩
 ·rw[List.getElem?_append_right (by omega),hn] at hx
  obtain ⟨v,hv,hp⟩:=h2 (i-n) j x t' hx ht hj
  have jf:i-n<xs.length:=(List.getElem?_eq_some_iff.1 hx).1
  have e1:i*P.cellsOf e+j-n*P.cellsOf e=(i-n)*P.cellsOf e+j:=by
   rw[Nat.sub_mul]
   have:n*P.cellsOf e≤i*P.cellsOf e:=Nat.mul_le_mul_right _ (by omega)
   omega
  have h3:(i-n)*P.cellsOf e+j<news.length:=(List.getElem?_eq_some_iff.1 hv).1
  refine ⟨v,?_,hp⟩
  have h4:n*P.cellsOf e≤i*P.cellsOf e+j:=by
   have:n*P.cellsOf e≤i*P.cellsOf e:=Nat.mul_le_mul_right _ (by omega)
   omega
  rw[List.append_assoc,List.getElem?_append_right (by omega),hl,e1,List.getElem?_append_left h3]
  exact hv
theorem Pure.drew {t:TypeId} {v:Value} {x:V} (h:Pure P w I t v x):Pure P w.drew I t v x:=Pure.mono (w:=w) (w':=w.drew) (fun _ h=>h) (fun _ _=>rfl) h
theorem Zt (w:World) (t ty e:TypeId) (i:TypeInfo) (z:Value) (ht:P.underlying t=some (.slice e)) (hi:P.info? e=some i) (hz:i.zero=some z)
  (a0:Option Addr) (a:Addr) (n c:Nat) (news:List Value) (hl:news.length=n*i.size) (DR: ∀j v,news[j]? =some v→w.cell? (a.add j)=some v)
  (h0:0<n) (DS:(n:Int)≤9223372036854775807) (DT:n*i.bytes≤281474976710656):
  (Builtin.append_ #[t,t] ty #[.slice a0 0 0,.slice (some a) n c]).run P w=
   .ok (.slice (some ⟨w.heap.size,0,none⟩) n (grownCap w n 0 e)) (w.drew.alloc (.cells (news.toArray++Builtin.zeroCells z.cells (grownCap w n 0 e-n)) e)):=by
 cases a0 with
 | none=>exact run_append_nil w t ty e i z ht hi hz a n c news hl DR h0 DS DT
 | some b=>
  have:=run_append_grow (P:=P) w t ty e i z ht hi hz b 0 0 [] (by simp) (by simp) a n c news hl DR (by omega) (by omega) (by rw[Nat.zero_add,nextslicecap_zero h0];omega)
  simpa using this
theorem Iz (S:aD P w I β hp B M w0) {t ty e:TypeId} {nb:Nat} {x:Value} {xs:List V} (hu:P.underlying t=some (.slice e)) (au:cY P e=true) (hn:hp nb=none)
  (eP:xs.length*P.bytesOf e≤bC) {a0:Option Addr} (hx:((∃a,x= .slice a 0 0)∧xs=[])∨∃a c news,Row P w I e x xs a c news):
  ∃v w' an,(Builtin.append_ #[t,t] ty #[.slice a0 0 0,x]).run P w= .ok v w'∧Le P w I β hp w' I an (aG hp nb (some (.arr e xs false)))∧aD P w' I an (aG hp nb (some (.arr e xs false))) B M w0∧
   ah P w' I an (aG hp nb (some (.arr e xs false))) v (.whole e nb):=by
 obtain ⟨i,z,hi,hz,h3,h4,_⟩:=jX au
 have tO:=vO au
 have ma:P.bytesOf e=i.bytes:=by simp[Program.bytesOf,hi]
 have hlen:xs.length≤2^45:=by
  have:xs.length*1≤xs.length*P.bytesOf e:=Nat.mul_le_mul_left _ tO
  simp only[bC] at eP
  omega
 have empty:xs=[]→(∃a c,x= .slice a 0 c)→∃v w' an,(Builtin.append_ #[t,t] ty #[.slice a0 0 0,x]).run P w= .ok v w'∧Le P w I β hp w' I an (aG hp nb (some (.arr e xs false)))∧aD P w' I an (aG hp nb (some (.arr e xs false))) B M w0∧
   ah P w' I an (aG hp nb (some (.arr e xs false))) v (.whole e nb):=by
  intro gB IA
  subst gB
  obtain ⟨a1,a2⟩:=Du S e hn
  exact ⟨_,_,_,O3 hu hi a0 0 0 x IA (Nat.le_refl _),a1,a2,.dU (dd _ _ _) (dd _ _ _)⟩
 rcases hx with ⟨⟨_,rfl⟩,rfl⟩|⟨a,c,news,hr⟩
 ·exact empty rfl ⟨_,_,rfl⟩
 ·by_cases h0:xs.length=0
  ·have gB:xs=[]:=List.eq_nil_of_length_eq_zero h0
   refine empty gB ⟨some a,c,?_⟩
   rw[hr.val,h0]
  ·have dh:=Zt (P:=P) w t ty e i z hu hi hz a0 a xs.length c news (by rw[hr.len,h3]) hr.cell (by omega) (by omega) (by rw[←ma];simp only[bC] at eP;omega)
   have ph:=grownCap_ge w xs.length 0 e
   have tP:grownCap w xs.length 0 e≤maxLen:=grownCap_le_maxLen w xs.length 0 e (by simp only[maxLen];omega)
   obtain ⟨n1,n2,n3⟩:=wg S.drew (nb:=nb) (cap:=grownCap w xs.length 0 e) (es:=xs) (C0:=news.toArray++Builtin.zeroCells z.cells (grownCap w xs.length 0 e-xs.length)) au hn
    (by simp only[Array.size_append,List.size_toArray,size_zeroCells,h4,hr.len,←Nat.add_mul];congr 1;omega) ph tP
    (fun i' j y t' hy ht hj=>by
     obtain ⟨u,fV,hp⟩:=hr.el i' j y t' hy ht hj
     have aR:=(List.getElem?_eq_some_iff.1 fV).1
     refine ⟨u,?_,Pure.drew hp⟩
     rw[Array.getElem?_append_left (by simpa using aR)]
     simpa using fV)
   rw[hr.val]
   exact ⟨_,_,_,dh,(Le.drew w I β hp).trans n1,n2,n3⟩
theorem Zu (S:aD P w I β hp B M w0) {t ty e:TypeId} {nb:Nat} {s x:Value} {sv xv:V} {r:R} {rd:List Nat} (hu:P.underlying t=some (.slice e)) (hs:ah P w I β hp s sv) (hx:ah P w I β hp x xv)
  (h:(vD P nb e sv xv).run C hp=some (r,rd)):dj P ((Builtin.append_ #[t,t] ty #[s,x]).run P w) w I β hp B M w0 r:=by
 unfold vD at h
 obtain ⟨au,h⟩:=aE h
 obtain ⟨xs,lj,l0,h⟩:=DP S.h.rel au hx h
 cases sv with
 | nilS e'=>
  obtain ⟨hc,h⟩:=aE h
  simp only[Bool.and_eq_true,Nat.beq_eq,Nat.ble_eq] at hc
  obtain ⟨hn,rfl⟩:=mY h
  obtain ⟨a0,rfl⟩: ∃a0,s= .slice a0 0 0:=by cases hs;exact ⟨_,rfl⟩
  obtain ⟨v,w',an,a1,a2,a3,a4⟩:=Iz (ty:=ty) S hu au hn hc.2 lj
  exact ⟨v,w',I,an,a1,a2,a3,a4⟩
 | whole e' id=>
  obtain ⟨l,h⟩:=run_get h
  cases ab:hp id with
  | none=>rw[ab] at h;cases h
  | some blk=>
   rw[ab] at h
   cases blk with
   | dead=>cases h
   | var _=>cases h
   | nest _ _ _=>cases h
   | map _ _=>cases h
   | arr dR es fz=>
    cases fz with
    | true=>cases h
    | false=>
     obtain ⟨hc,h⟩:=aE h
     obtain ⟨hn,rfl⟩:=mY h
     simp only[Bool.and_eq_true,Nat.beq_eq,Nat.ble_eq] at hc
     obtain ⟨IB,IC,eP⟩:=hc
     subst IB
     subst IC
     have bO:nb≠id:=fun e=>by rw[e,ab] at hn;cases hn
     obtain ⟨k1,k2⟩:=Dv S ab
     have je:aG hp id (some ag.dead) nb=none:=by rw[eB _ _ bO];exact hn
     cases hs with
     | ey hd=>rw[ab] at hd;cases hd
     | eH hd=>rw[ab] at hd;cases hd
     | dU hd hb=>
      rw[ab] at hd
      cases hd
      simp only[List.length_nil,Nat.zero_add] at eP
      have Zv:((∃a,x= .slice a 0 0)∧xs=[])∨∃a c news,Row P w I e x xs a c news:=lj
      obtain ⟨v,w',an,a1,a2,a3,a4⟩:=Iz (ty:=ty) k2 hu au je eP Zv
      exact ⟨v,w',I,an,a1,k1.trans a2,a3,a4⟩
     | @whole _ _ aH mM b cap hd hb aZ cd hm=>
      rw[ab] at hd
      cases hd
      have hr:=S.h.rel id _ ab
      cases hr with
      | dV ax=>rw[ax] at hb;cases hb
      | @arr _ _ _ b' Ca _ ax hh pk hf ez mb=>
       rw[hb] at ax
       cases ax
       obtain ⟨i,z,hi,hz,h3,h4,_⟩:=jX au
       have tO:=vO au
       have ma:P.bytesOf e=i.bytes:=by simp[Program.bytesOf,hi]
       have hlen:es.length+xs.length≤2^45:=by
        have:(es.length+xs.length)*1≤(es.length+xs.length)*P.bytesOf e:=Nat.mul_le_mul_left _ tO
        simp only[bC] at eP
        omega
       rw[mP hh] at aZ
       have qj: ∀aB blk',aG hp id (some ag.dead) aB=some blk'→¬bA P w (β aB) blk' b:=by
        intro aB blk' h1 h2
        by_cases iL:aB=id
        ·subst iL;rw[dd] at h1;cases h1;exact h2.alive rfl
        ·rw[eB _ _ iL] at h1
         exact iL (S.h.inj aB id blk' _ b h1 ab h2 (.root (by simp) hb))
       have ID:=S.h.rW id _ b ab (by simp) hb
       have room: ∀(C':Array Value) (w':World) (ys:List V),w'.heap[b]? =some (.cells C' e (0,0))→C'.size=Ca.size→(∀b',b'≠b→w'.heap[b']? =w.heap[b']?)→w.heap.size≤w'.heap.size→(w'.os=w.os∧w'.output=w.output)→ys.length≤cap→
         (∀(i j:Nat) (y:V) (t':TypeId),ys[i]? =some y→(aU P e)[j]? =some t'→j<P.cellsOf e→∃v,C'[i*P.cellsOf e+j]? =some v∧Pure P w I t' v (bK P e y j))→
         Le P w I β hp w' I (aG β nb (some b)) (aG (aG hp id (some .dead)) nb (some (.arr e ys false)))∧aD P w' I (aG β nb (some b)) (aG (aG hp id (some .dead)) nb (some (.arr e ys false))) B M w0∧
         ah P w' I (aG β nb (some b)) (aG (aG hp id (some .dead)) nb (some (.arr e ys false))) (.slice (some ⟨b,0,none⟩) ys.length cap) (.whole e nb):=by
        intro C' w' ys hC om jz Zw Zx tJ hy
        obtain ⟨a1,a2⟩:=yL k2 (blk:= .arr e ys false) (w':=w') je qj (ez rfl) (fun b' h _=>jz b' h) Zw Zx ID
         (fun b' h=>(Option.some.inj (h.flat (by simp))).symm) (fun hle=> .arr au rfl hC (by rw[om,←aZ];exact Nat.mul_le_mul_right _ tJ) (fun h=>by cases h) (fun _=>ez rfl) fun i j y t' a b c=>by
          obtain ⟨v,hv,hp⟩:=hy i j y t' a b c
          exact ⟨v,hv,hp.mono hle.dz hle.cg⟩)
        refine ⟨k1.trans a1,a2,.whole (dd _ _ _) (dd _ _ _) ?_ tJ hm⟩
        rw[mP hC,om,aZ]
       have same:xs=[]→(∃a c,x= .slice a 0 c)→dj P ((Builtin.append_ #[t,t] ty #[.slice (some ⟨b,0,none⟩) es.length cap,x]).run P w) w I β hp B M w0 ⟨.whole e nb,[(nb,.arr e (es++xs) false),(id,.dead)]⟩:=by
        intro gB IA
        subst gB
        rw[List.append_nil]
        obtain ⟨a1,a2,a3⟩:=room Ca w es hh rfl (fun _ _=>rfl) (Nat.le_refl _) ⟨rfl,rfl⟩ cd mb
        exact ⟨_,_,_,_,O3 hu hi _ _ _ x IA cd,a1,a2,a3⟩
       rcases lj with ⟨⟨_,rfl⟩,rfl⟩|⟨a,c,news,cq⟩
       ·exact same rfl ⟨_,_,rfl⟩
       ·have h1:=cq.one au
        have lg:es.length*P.cellsOf e≤Ca.toList.length:=by simpa using pk
        by_cases sh:es.length+xs.length≤cap
        ·have y4:es.length*P.cellsOf e+news.length≤Ca.size:=by rw[cq.len,←Nat.add_mul,←aZ];exact Nat.mul_le_mul_right _ sh
         have dh:=run_append_room (P:=P) w t ty e i hu hi b es.length cap Ca hh a xs.length c news (by rw[cq.len,h3]) cq.cell h1 sh (by rw[h3];exact y4)
         rw[h3] at dh
         have da:=DQ (P:=P) (w:=w) (I:=I) (n:=es.length) (c:=Ca.toList) rfl (fun i j y t' a b c=>by
          obtain ⟨v,hv,hp⟩:=mb i j y t' a b c
          exact ⟨v,by simpa using hv,hp⟩) cq.el lg (Ca.toList.drop (es.length*P.cellsOf e+news.length))
         obtain ⟨a1,a2,a3⟩:=room (Ca.toList.take (es.length*P.cellsOf e)++news++Ca.toList.drop (es.length*P.cellsOf e+news.length)).toArray (w.setRow b _) (es++xs)
          (setRow_heap w b Ca _ e _ hh) (by simp;omega) (fun b' ax=>setRow_other w b b' _ ax) (by simp) ⟨rfl,rfl⟩ (by simpa using sh)
          (fun i j y t' a b c=>by
           obtain ⟨v,hv,hp⟩:=da i j y t' a b c
           exact ⟨v,by simpa using hv,hp⟩)
         rw[cq.val]
         rw[List.length_append] at a3
         exact ⟨_,_,_,_,dh,a1,a2,a3⟩
        ·have hold: ∀(j:Nat) v,(Ca.toList.take (es.length*P.cellsOf e))[j]? =some v→w.cell? ((⟨b,0,none⟩:Addr).add j)=some v:=by
          intro j v hj
          have dg:=(List.getElem?_eq_some_iff.1 hj).1
          have b6:j<es.length*P.cellsOf e:=by rw[List.length_take] at dg;omega
          rw[List.getElem?_take_of_lt b6] at hj
          rw[mV,cell?_cells hh,Nat.zero_add]
          simpa using hj
         have dh:=run_append_grow (P:=P) w t ty e i z hu hi hz ⟨b,0,none⟩ es.length cap (Ca.toList.take (es.length*P.cellsOf e)) (by rw[h3];simp;omega) hold a xs.length c news (by rw[cq.len,h3]) cq.cell (by omega) (by omega)
          (growslice_fits (by omega) (by rw[←ma];simp only[bC] at eP;omega))
         have ph:=grownCap_ge w (es.length+xs.length) cap e
         have tP:grownCap w (es.length+xs.length) cap e≤maxLen:=grownCap_le_maxLen w _ cap e (by simp only[maxLen];omega)
         have da:=DQ (P:=P) (w:=w) (I:=I) (n:=es.length) (c:=Ca.toList) rfl (fun i j y t' a b c=>by
          obtain ⟨v,hv,hp⟩:=mb i j y t' a b c
          exact ⟨v,by simpa using hv,hp⟩) cq.el lg (Builtin.zeroCells z.cells (grownCap w (es.length+xs.length) cap e-(es.length+xs.length))).toList
         obtain ⟨n1,n2,n3⟩:=wg k2.drew (nb:=nb) (cap:=grownCap w (es.length+xs.length) cap e) (es:=es++xs)
          (C0:=(Ca.toList.take (es.length*P.cellsOf e)).toArray++news.toArray++Builtin.zeroCells z.cells (grownCap w (es.length+xs.length) cap e-(es.length+xs.length))) au je
          (by
           have e1:(Ca.toList.take (es.length*P.cellsOf e)).length=es.length*P.cellsOf e:=by simp;omega
           simp only[Array.size_append,List.size_toArray,size_zeroCells,h4,cq.len,e1,←Nat.add_mul];congr 1;omega) (by simpa using ph) tP
          (fun i j y t' a b c=>by
           obtain ⟨v,hv,hp⟩:=da i j y t' a b c
           refine ⟨v,?_,Pure.drew hp⟩
           rw[←Array.getElem?_toList]
           simpa using hv)
         rw[cq.val]
         rw[List.length_append] at n3
         exact ⟨_,_,_,_,dh,(k1.trans (Le.drew w I β _)).trans n1,n2,n3⟩
 | _=>cases h
end
section
variable {P:Program} {w w':World} {I I':Nat→Prop} {β an:Nat→Option Nat} {hp hp':Nat→Option ag} {C:ae} {B:Nat} {M:Nat→Prop} {w0:Start}
theorem run_copy_none (w:World) {dT sT ty elem:TypeId} {i:TypeInfo} (a0:Option Addr) (O4 Zy:Nat) (a1:Option Addr) (O5 Zz:Nat) (hu:P.underlying dT=some (.slice elem)) (hi:P.info? elem=some i) (h0:Nat.min O5 O4=0):
  (Builtin.copy_ #[dT,sT] ty #[.slice a0 O4 Zy,.slice a1 O5 Zz]).run P w= .ok (goInt 0) w:=by
 cases a0<;>cases a1<;>simp[Builtin.copy_,run_underlying hu,Builtin.lenOf,Builtin.firstCells,sizeOf,typeInfo,hi,h0,storeCells,loadCells,loadCellsFrom]
theorem ZA (S:aD P w I β hp B M w0) {t u ty e:TypeId} {s x:Value} {sv xv:V} {r:R} {rd:List Nat} (hu:P.underlying t=some (.slice e)) (hs:ah P w I β hp s sv) (hx:ah P w I β hp x xv)
  (h:(HG P e sv xv).run C hp=some (r,rd)):dj P ((Builtin.copy_ #[t,u] ty #[s,x]).run P w) w I β hp B M w0 r:=by
 unfold HG at h
 obtain ⟨au,h'⟩:=aE h
 clear h
 simp only[Bool.and_eq_true,Nat.beq_eq] at au
 obtain ⟨au,h1⟩:=au
 obtain ⟨xs,lj,l0,h⟩:=DP S.h.rel au hx h'
 obtain ⟨i,z,hi,hz,aZ,_⟩:=jX au
 cases sv<;>simp only at h<;>first|(cases h;done)|skip
 rename_i e' id
 obtain ⟨l,h2⟩:=run_get h
 clear h
 cases ab:hp id with
 | none=>rw[ab] at h2;cases h2
 | some blk=>
  rw[ab] at h2
  cases blk<;>simp only at h2<;>first|(cases h2;done)|skip
  rename_i e2 es fz
  cases fz with
  | true=>cases h2
  | false=>
  obtain ⟨hc,h3⟩:=aE h2
  simp only[Bool.and_eq_true,Nat.beq_eq] at hc
  obtain ⟨rfl,rfl⟩:=hc
  obtain rfl:=aI h3
  have pn:min xs.length es.length=0→(Builtin.copy_ #[t,u] ty #[s,x]).run P w= .ok (goInt 0) w→dj P ((Builtin.copy_ #[t,u] ty #[s,x]).run P w) w I β hp B M w0 ⟨.int .i64 (min xs.length es.length:Nat),[(id,.arr e (xs.take es.length++es.drop xs.length) false)]⟩:=by
   intro h0 hr
   have he:xs.take es.length++es.drop xs.length=es:=by
    rcases Nat.le_total xs.length es.length with hl|hl
    ·have:xs=[]:=List.eq_nil_of_length_eq_zero (by omega)
     simp[this]
    ·have:es=[]:=List.eq_nil_of_length_eq_zero (by omega)
     simp[this]
   have gm:bN hp [(id,.arr e (xs.take es.length++es.drop xs.length) false)]=hp:=by
    rw[he];exact HR hp id _ ab
   refine ⟨goInt 0,w,I,β,hr,?_⟩
   simp only[gm,h0]
   exact ⟨Le.refl w I β hp,S,.int⟩
  cases hs with
  | ey hd=>rw[ab] at hd;cases hd
  | eH hd=>rw[ab] at hd;cases hd
  | @dU _ _ fz a hd hb=>
   rw[ab] at hd
   cases hd
   refine pn (by simp) ?_
   rcases lj with ⟨⟨a',rfl⟩,rfl⟩|⟨a',c,news,cq⟩
   ·exact run_copy_none w _ _ _ _ _ _ hu hi (by simp)
   ·rw[cq.val];exact run_copy_none w _ _ _ _ _ _ hu hi (by simp)
  | @whole _ _ aH mM b cap hd hb y5 cd hm=>
   have eW:=hd
   rw[ab] at hd
   cases hd
   rcases lj with ⟨⟨a',rfl⟩,rfl⟩|⟨a',c,news,cq⟩
   ·exact pn (by simp) (run_copy_none w _ _ _ _ _ _ hu hi (by simp))
   have hr:=S.h.rel id _ ab
   cases hr with
   | dV ax=>rw[ax] at hb;cases hb
   | @arr _ _ _ b' Ca _ ax hh pk hf ez mb=>
    rw[hb] at ax
    cases ax
    have lY:news.length=xs.length:=by rw[cq.len,h1,Nat.mul_one]
    rw[h1,Nat.mul_one] at pk
    have jY:(news.take es.length).length=Nat.min xs.length es.length:=by
     rw[List.length_take,lY,Nat.min_comm]
    have O6:Nat.min xs.length es.length=min xs.length es.length:=rfl
    have dh:=run_copy_row (P:=P) w t u ty e b 0 es.length cap a' xs.length c Ca e (news.take es.length) hu (by rw[hi];simp[aZ,h1]) hh jY
     (fun j v hj=>cq.cell j v (by
      have:=(List.getElem?_eq_some_iff.1 hj).1
      rw[List.length_take] at this
      rwa [List.getElem?_take_of_lt (by omega)] at hj)) (by rw[jY,O6];omega) (fun v hv=>cq.one au v (List.mem_of_mem_take hv))
    rw[cq.val]
    have hq:(goInt (news.take es.length).length)= .int .i64 ((min xs.length es.length:Nat):Int):=by rw[jY];rfl
    have jd:(xs.take es.length++es.drop xs.length).length=es.length:=by simp;omega
    have om:(Ca.toList.take 0++news.take es.length++Ca.toList.drop (0+(news.take es.length).length)).toArray.size=Ca.size:=by
     simp only[List.size_toArray,List.length_append,List.length_drop,List.length_take,jY,O6]
     simp
     omega
    obtain ⟨a1,a2⟩:=DF S (blk':= .arr e (xs.take es.length++es.drop xs.length) false) (Cb:=(Ca.toList.take 0++news.take es.length++Ca.toList.drop (0+(news.take es.length).length)).toArray) ab (by simp) ⟨rfl,jd.symm⟩ hb (ez rfl) (by simp) hh om
     (fun hle fb=> .arr au rfl fb (by rw[om,jd,h1,Nat.mul_one];exact pk) (fun h=>by cases h) (fun _=>ez rfl) fun i j y t' hy ht hj=>by
      rw[h1] at hj⊢
      obtain rfl:j=0:=by omega
      rw[Nat.mul_one,Nat.add_zero]
      have qv:=(List.getElem?_eq_some_iff.1 hy).1
      rw[jd] at qv
      by_cases y6:i<xs.length
      ·rw[List.getElem?_append_left (by rw[List.length_take];omega),List.getElem?_take_of_lt qv] at hy
       obtain ⟨u',k1,k2⟩:=cq.el i 0 y t' hy ht (by omega)
       rw[h1,Nat.mul_one,Nat.add_zero] at k1
       refine ⟨u',?_,k2.mono hle.dz hle.cg⟩
       simp only[List.take_zero,List.nil_append,List.getElem?_toArray]
       rw[List.getElem?_append_left (by rw[List.length_take];omega),List.getElem?_take_of_lt qv]
       exact k1
      ·have e1:(xs.take es.length).length=xs.length:=by rw[List.length_take];omega
       rw[List.getElem?_append_right (by omega),e1,List.getElem?_drop,show xs.length+(i-xs.length)=i by omega] at hy
       obtain ⟨u',k1,k2⟩:=mb i 0 y t' hy ht (by omega)
       rw[h1,Nat.mul_one,Nat.add_zero] at k1
       refine ⟨u',?_,k2.mono hle.dz hle.cg⟩
       simp only[List.take_zero,List.nil_append,List.getElem?_toArray,Nat.zero_add]
       have e2:(news.take es.length).length=xs.length:=by rw[List.length_take];omega
       rw[List.getElem?_append_right (by omega),e2,List.getElem?_drop,show xs.length+(i-xs.length)=i by omega]
       simpa using k1)
    exact ⟨_,_,_,_,dh,a1,a2,by rw[hq];exact .int⟩
theorem ZB (S:aD P w I β hp B M w0) {t ty e:TypeId} {x:Value} {xv:V} {r:R} {rd:List Nat} (hu:P.underlying t=some (.slice e)) (hx:ah P w I β hp x xv)
  (h:(HF P e xv).run C hp=some (r,rd)):dj P ((Builtin.clear_ #[t] ty #[x]).run P w) w I β hp B M w0 r:=by
 unfold HF at h
 obtain ⟨da,h'⟩:=aE h
 clear h
 have au:cY P e=true:=by
  unfold lQ at da;simp only[Bool.and_eq_true] at da;exact da.1
 obtain ⟨i,z,hi,hz,aZ,y7,ZC⟩:=yZ (w:=w) (I:=I) da
 have iH:=(jV au).2
 cases xv<;>simp only at h'<;>first|(cases h';done)|skip
 rename_i e' id off len
 obtain ⟨l,h2⟩:=run_get h'
 clear h'
 cases ab:hp id with
 | none=>rw[ab] at h2;cases h2
 | some blk=>
  rw[ab] at h2
  cases blk<;>simp only at h2<;>first|(cases h2;done)|skip
  rename_i e2 es fz
  cases fz with
  | true=>cases h2
  | false=>
  obtain ⟨hc,h3⟩:=aE h2
  simp only[Bool.and_eq_true,Nat.beq_eq] at hc
  obtain ⟨rfl,rfl⟩:=hc
  obtain rfl:=aI h3
  have pn:len=0→(Builtin.clear_ #[t] ty #[x]).run P w= .ok (.tuple #[]) w→dj P ((Builtin.clear_ #[t] ty #[x]).run P w) w I β hp B M w0 ⟨.bh [],[(id,.arr e (es.take off++(List.replicate len (cx P e (eU P e))++es.drop (off+len))) false)]⟩:=by
   intro h0 hr
   subst h0
   have gm:bN hp [(id,.arr e (es.take off++(List.replicate 0 (cx P e (eU P e))++es.drop (off+0))) false)]=hp:=by
    simp only[List.replicate_zero,List.nil_append,Nat.add_zero,List.take_append_drop]
    exact HR hp id _ ab
   refine ⟨.tuple #[],w,I,β,hr,?_⟩
   simp only[gm]
   exact ⟨Le.refl w I β hp,S,.bh rfl fun j v x hj hx=>by simp at hx⟩
  cases hx with
  | gk hd=>rw[ab] at hd;cases hd
  | @fT _ _ _ a0 hd hb=>exact pn rfl (by cases a0<;>simp[Builtin.clear_,run_underlying hu])
  | @sub _ _ _ _ aH mM b o cap hd hb jc cd ho=>
   by_cases hlen:len=0
   ·refine pn hlen ?_
    subst hlen
    simp[Builtin.clear_,run_underlying hu]
   have ZD:0<len:=by omega
   have eW:=hd
   rw[ab] at hd
   cases hd
   have hr:=S.h.rel id _ ab
   cases hr with
   | dV ax=>rw[ax] at hb;cases hb
   | @arr _ _ _ b' Ca _ ax hh pk hf ez mb=>
    rw[hb] at ax
    cases ax
    have ho:=ho ZD
    subst ho
    have tM:(Builtin.zeroCells z.cells len).toList.length=len*P.cellsOf e:=by rw[Array.length_toList,size_zeroCells,y7]
    have hmul:off*P.cellsOf e+len*P.cellsOf e≤es.length*P.cellsOf e:=by rw[←Nat.add_mul];exact Nat.mul_le_mul_right _ jc
    have qs: ∀v∈(Builtin.zeroCells z.cells len).toList,v.oneCell'=true:=by
     intro v hv
     obtain ⟨k,hk⟩:=List.getElem?_of_mem hv
     have lh:=(List.getElem?_eq_some_iff.1 hk).1
     rw[tM] at lh
     have ZE:(Builtin.zeroCells z.cells len)[k]? =z.cells[k %z.cells.size]? :=O0 (z:=z.cells) (n:=len*z.cells.size) (by rw[y7];exact lh) (by rw[y7];exact iH)
     rw[Array.getElem?_toList,ZE] at hk
     have hm:k %z.cells.size<P.cellsOf e:=by rw[y7];exact Nat.mod_lt _ iH
     have ZF:k %z.cells.size<(aU P e).length:=by rw[fG au];exact hm
     obtain ⟨v',vV,hp'⟩:=ZC (k %z.cells.size) _ (List.getElem?_eq_getElem ZF) hm
     rw[hk] at vV
     cases vV
     generalize bK P e (cx P e (eU P e)) (k %z.cells.size)=y at hp'
     cases hp'<;>rfl
    have bP:=run_storeCells_at P b (off*P.cellsOf e) e (Builtin.zeroCells z.cells len).toList 0 Ca w hh (by rw[tM];omega) qs
    simp only[Nat.add_zero] at bP
    have dh:(Builtin.clear_ #[t] ty #[.slice (some ⟨b,off*P.cellsOf e,none⟩) len cap]).run P w= .ok (.tuple #[]) (w.setRow b (Ca.toList.take (off*P.cellsOf e)++(Builtin.zeroCells z.cells len).toList++Ca.toList.drop (off*P.cellsOf e+(Builtin.zeroCells z.cells len).toList.length)).toArray):=by
     obtain ⟨n,rfl⟩: ∃n,len=n+1:=⟨len-1,by omega⟩
     simp[Builtin.clear_,run_underlying hu,zeroValue,typeInfo,hi,hz,bP]
    have jd:(es.take off++(List.replicate len (cx P e (eU P e))++es.drop (off+len))).length=es.length:=by simp;omega
    have om:(Ca.toList.take (off*P.cellsOf e)++(Builtin.zeroCells z.cells len).toList++Ca.toList.drop (off*P.cellsOf e+(Builtin.zeroCells z.cells len).toList.length)).toArray.size=Ca.size:=by
     simp only[List.size_toArray,List.length_append,List.length_drop,List.length_take,tM,Array.length_toList]
     omega
    obtain ⟨a1,a2⟩:=DF S (blk':= .arr e (es.take off++(List.replicate len (cx P e (eU P e))++es.drop (off+len))) false) ab (by simp) ⟨rfl,jd.symm⟩ hb (ez rfl) (by simp) hh om
     (fun hle fb=> .arr au rfl fb (by rw[om,jd];exact pk) (fun h=>by cases h) (fun _=>ez rfl) fun i' j y t' hy ht hj=>by
      have kE:=mW es (List.replicate len (cx P e (eU P e))) off i' (by simp;omega)
      rw[List.length_replicate] at kE
      rw[kE] at hy
      have hC:(Ca.toList.take (off*P.cellsOf e)++(Builtin.zeroCells z.cells len).toList++Ca.toList.drop (off*P.cellsOf e+(Builtin.zeroCells z.cells len).toList.length)).toArray[i'*P.cellsOf e+j]? =
        if i'*P.cellsOf e+j<off*P.cellsOf e then Ca.toList[i'*P.cellsOf e+j]? else if i'*P.cellsOf e+j<off*P.cellsOf e+len*P.cellsOf e then (Builtin.zeroCells z.cells len).toList[i'*P.cellsOf e+j-off*P.cellsOf e]? else Ca.toList[i'*P.cellsOf e+j]? :=by
       have:=mW Ca.toList (Builtin.zeroCells z.cells len).toList (off*P.cellsOf e) (i'*P.cellsOf e+j) (by rw[tM,Array.length_toList];omega)
       rw[List.getElem?_toArray,List.append_assoc,this,tM]
      by_cases fu:i'<off
      ·rw[if_pos fu] at hy
       have:(i'+1)*P.cellsOf e≤off*P.cellsOf e:=Nat.mul_le_mul_right _ fu
       rw[Nat.add_mul] at this
       rw[if_pos (by omega)] at hC
       obtain ⟨u,k1,k2⟩:=mb i' j y t' hy ht hj
       exact ⟨u,hC.trans (by simpa using k1),k2.mono hle.dz hle.cg⟩
      ·rw[if_neg fu] at hy
       have h1:off*P.cellsOf e≤i'*P.cellsOf e:=Nat.mul_le_mul_right _ (by omega)
       rw[if_neg (by omega)] at hC
       by_cases jf:i'<off+len
       ·rw[if_pos jf] at hy
        have:(i'+1)*P.cellsOf e≤(off+len)*P.cellsOf e:=Nat.mul_le_mul_right _ jf
        rw[Nat.add_mul,Nat.add_mul] at this
        rw[if_pos (by omega)] at hC
        obtain ⟨v,k1,k2⟩:=DO (w:=w) (I:=I) da hi hz len len (Nat.le_refl _) (i'-off) j y t' hy ht hj
        refine ⟨v,hC.trans ?_,k2.mono hle.dz hle.cg⟩
        rw[show i'*P.cellsOf e+j-off*P.cellsOf e=(i'-off)*P.cellsOf e+j by rw[Nat.sub_mul];omega,Array.getElem?_toList]
        unfold Builtin.zeroCells
        rw[y7] at k1⊢
        exact k1
       ·rw[if_neg jf] at hy
        have:(off+len)*P.cellsOf e≤i'*P.cellsOf e:=Nat.mul_le_mul_right _ (by omega)
        rw[Nat.add_mul] at this
        rw[if_neg (by omega)] at hC
        obtain ⟨u,k1,k2⟩:=mb i' j y t' hy ht hj
        exact ⟨u,hC.trans (by simpa using k1),k2.mono hle.dz hle.cg⟩)
    exact ⟨_,_,_,_,dh,a1,a2,.bh rfl fun j v x hj hx=>by simp at hx⟩
end
section
variable {P:Program} {w w':World} {I I':Nat→Prop} {β an:Nat→Option Nat} {hp hp':Nat→Option ag} {C:ae} {B:Nat} {M:Nat→Prop} {w0:Start}
theorem ZG (S:aD P w I β hp B M w0) {s:TypeId} {f:Nat} {v:Value} {x:V} {r:R} {rd:List Nat} (hv:ah P w I β hp v x)
  (h:(HJ P s f x).run C hp=some (r,rd)):dj P ((Instr.field s v f).run P w) w I β hp B M w0 r:=by
 unfold HJ C3 at h
 split at h
 ·rename_i fs hu
  cases hf:fs[f]? with
  | none=>rw[hf] at h;cases h
  | some fd=>
   rw[hf] at h
   simp only[vE] at h
   obtain ⟨ht,h⟩:=aE h
   obtain ⟨d,tQ⟩:=yQ ht
   obtain ⟨i,hi⟩:=vT tQ
   have aZ:i.size=P.cellsOf fd.type:=by simp[Program.cellsOf,hi]
   cases x with
   | agg xs=>
    obtain ⟨cs,rfl,h1,h2⟩:=hv.kB
    dsimp only at h
    cases ha:bH P fd.type with
    | true=>
     rw[ha] at h
     simp only[cond_true] at h
     obtain ⟨hc,h⟩:=aE h
     obtain rfl:=aI h
     rw[Nat.ble_eq] at hc
     refine .same S (v:= .agg (cs.extract fd.offset (fd.offset+P.cellsOf fd.type))) ?_ (.agg (by simp;omega) fun j u y fV hy=> ?_)
     ·simp[Instr.field,run_underlying hu,hf,part,H7 tQ,ha,asAgg,sizeOf,typeInfo,hi,aZ]
     ·have hj:j<P.cellsOf fd.type:=by
       have:=(Array.getElem?_eq_some_iff.1 fV).1
       simp at this;omega
      rw[List.getElem?_take_of_lt hj,List.getElem?_drop] at hy
      refine h2 (fd.offset+j) u y ?_ hy
      rw[Array.getElem?_extract] at fV
      split at fV
      ·exact fV
      ·cases fV
    | false=>
     rw[ha] at h
     simp only[cond_false] at h
     obtain ⟨y,hy,h⟩:=la h
     obtain rfl:=aI h
     have aR:fd.offset<cs.size:=by rw[h1];exact (List.getElem?_eq_some_iff.1 hy).1
     refine .same S (v:=cs[fd.offset]) ?_ (h2 _ _ _ (Array.getElem?_eq_getElem aR) hy)
     simp[Instr.field,run_underlying hu,hf,part,H7 tQ,ha,asAgg,aR]
   | _=>cases h
 ·cases h
theorem ZH (S:aD P w I β hp B M w0) {i:Nat} {v:Value} {xs:List V} {r:R} {rd:List Nat} (hv:ah P w I β hp v (.bh xs))
  (h:(Rd.opt xs[i]? fun v=> .ret ⟨v,[]⟩).run C hp=some (r,rd)):dj P ((Instr.extract v i).run P w) w I β hp B M w0 r:=by
 obtain ⟨cs,rfl,h1,h2⟩:=hv.tD
 obtain ⟨y,hy,h⟩:=la h
 obtain rfl:=aI h
 have aR:i<cs.size:=by rw[h1];exact (List.getElem?_eq_some_iff.1 hy).1
 exact .same S (v:=cs[i]) (by simp[Instr.extract,aR]) (h2 _ _ _ (Array.getElem?_eq_getElem aR) hy)
theorem ZI (S:aD P w I β hp B M w0) {t:TypeId} {s:ByteArray} {l:List UInt8} {k:IntKind} {i:Int} {r:R} {rd:List Nat} (hu:P.underlying t=some .string) (hs:s.data.toList=l)
  (h:(Rd.opt (bif decide (0≤i) then (l[i.toNat]?).map fun b=>V.int .u8 b.toNat else none) fun v=> .ret ⟨.int .u8 v.toInt,[]⟩).run C hp=some (r,rd)):
  dj P ((Instr.index t (.string s) (.int k i)).run P w) w I β hp B M w0 r:=by
 obtain ⟨v,hv,h⟩:=la h
 obtain rfl:=aI h
 cases hc:decide (0≤i) with
 | false=>rw[hc] at hv;cases hv
 | true=>
  rw[hc] at hv
  simp only[cond_true] at hv
  have h0:0≤i:=by simpa using hc
  cases hb:l[i.toNat]? with
  | none=>rw[hb] at hv;cases hv
  | some b=>
   rw[hb] at hv
   simp only[Option.map_some,Option.some.injEq] at hv
   subst hv
   have ZJ:s[i.toNat]? =some b:=by
    subst hs
    obtain ⟨aR,he⟩:=List.getElem?_eq_some_iff.1 hb
    have IE:i.toNat<s.size:=by simpa using aR
    rw[getElem?_pos s i.toNat IE]
    congr 1
   refine .same S (v:= .int .u8 b.toNat) ?_ .int
   simp[Instr.index,asIntOf,run_underlying hu,h0,ZJ]
theorem IF (S:aD P w I β hp B M w0) (mx:Bool): ∀{vs:List Value} {xs:List V} {v:Value} {x:V} {r:R} {rd:List Nat},ah P w I β hp v x→vs.length=xs.length→
  (∀(j:Nat) u y,vs[j]? =some u→xs[j]? =some y→ah P w I β hp u y)→(vF mx x xs).run C hp=some (r,rd)→
  dj P ((vs.foldlM (if mx then Builtin.max2 else Builtin.min2) v).run P w) w I β hp B M w0 r
 | [],[],v,x,r,rd,hv,_,_,h=>by
  have:r=⟨x,[]⟩:=by
   cases x<;>(simp only[vF] at h;exact (aI h).symm)
  subst this
  exact .same S (by simp) hv
 | [],_::_,v,x,r,rd,hv,hl,_,h=>by simp at hl
 | _::_,[],v,x,r,rd,hv,hl,_,h=>by simp at hl
 | u::vs,y::xs,v,x,r,rd,hv,hl,hx,h=>by
  cases x<;>cases y<;>simp only[vF] at h<;>first|(cases h;done)|skip
  rename_i k a k' b
  obtain ⟨hc,h4⟩:=aE h
  clear h
  obtain rfl:k=k':=by simpa using hc
  have hu:=hx 0 u _ rfl rfl
  rw[hv.eI,hu.eI]
  have ih:=IF S mx (vs:=vs) (xs:=xs) (v:= .int k (bif mx then (if b>a then b else a) else (if b<a then b else a))) .int (by simpa using hl)
   (fun j u y h1 h2=>hx (j+1) u y (by simpa using h1) (by simpa using h2)) h4
  cases mx with
  | true=>simpa[List.foldlM_cons,Builtin.max2] using ih
  | false=>simpa[List.foldlM_cons,Builtin.min2] using ih
theorem qw {n cap:Nat} {isS:Bool} {lo hi:Option V} {lov hiv:Option Value} {k:Nat→Nat→Rd R} {r:R} {rd:List Nat} (hn:n≤cap)
  (iM: ∀x,lo=some x→∃v,lov=some v∧ah P w I β hp v x) (gP: ∀x,hi=some x→∃v,hiv=some v∧ah P w I β hp v x) (mZ:lo=none→lov=none) (oo:hi=none→hiv=none)
  (h:(rQ n lo hi k).run C hp=some (r,rd)): ∃l u,l≤u∧u≤n∧(Instr.sliceBounds isS n cap lov hiv none).run P w= .ok (l,u,cap) w∧(k l u).run C hp=some (r,rd):=by
 have ok: ∀(kk:IntKind) (i:Int) (y:Nat) (c:BoundsCode),0≤i→i≤y→(Instr.sliceBound (.int kk i) y c).run P w= .ok i.toNat w:=by
  intro kk i y c h1 h2
  simp[Instr.sliceBound,asIntOf,h1,h2]
 unfold rQ at h
 cases lo with
 | none=>
  rw[mZ rfl]
  cases hi with
  | none=>
   rw[oo rfl]
   exact ⟨0,n,Nat.zero_le _,Nat.le_refl _,by simp[Instr.sliceBounds],h⟩
  | some x=>
   obtain ⟨v,rfl,hv⟩:=gP x rfl
   cases x<;>simp only at h<;>first|(cases h;done)|skip
   rename_i kk u
   obtain ⟨hc,h⟩:=aE h
   simp only[Bool.and_eq_true,decide_eq_true_eq] at hc
   rw[hv.eI]
   have:=ok kk u cap (if isS then .sliceAcap else .sliceAlen) hc.1 (by omega)
   exact ⟨0,u.toNat,Nat.zero_le _,by omega,by simp[Instr.sliceBounds,this],h⟩
 | some x=>
  obtain ⟨v,rfl,hv⟩:=iM x rfl
  cases hi with
  | none=>
   rw[oo rfl]
   cases x<;>simp only at h<;>first|(cases h;done)|skip
   rename_i kk l
   obtain ⟨hc,h⟩:=aE h
   simp only[Bool.and_eq_true,decide_eq_true_eq] at hc
   rw[hv.eI]
   have:=ok kk l n .sliceB hc.1 (by omega)
   exact ⟨l.toNat,n,by omega,Nat.le_refl _,by simp[Instr.sliceBounds,this],h⟩
  | some y=>
   obtain ⟨v2,rfl,qg⟩:=gP y rfl
   cases x<;>cases y<;>simp only at h<;>first|(cases h;done)|skip
   rename_i kk l ZK u
   obtain ⟨hc,h⟩:=aE h
   simp only[Bool.and_eq_true,decide_eq_true_eq] at hc
   rw[hv.eI,qg.eI]
   have h1:=ok ZK u cap (if isS then .sliceAcap else .sliceAlen) (by omega) (by omega)
   have h2:=ok kk l u.toNat .sliceB hc.1 (by omega)
   exact ⟨l.toNat,u.toNat,by omega,by omega,by simp[Instr.sliceBounds,h1,h2],h⟩
theorem DU {a:Option Addr} {t e:TypeId} {i:TypeInfo} (hu:P.underlying t=some (.slice e)) (hi:P.info? e=some i) {lov hiv:Option Value}
  (hb:(Instr.sliceBounds true 0 0 lov hiv none).run P w= .ok (0,0,0) w):(Instr.sliceAt t (.slice a 0 0) lov hiv none).run P w= .ok (.slice a 0 0) w:=by
 cases a<;>simp[Instr.sliceAt,Instr.slice,run_underlying hu,hb,sizeOf,typeInfo,hi]
theorem IG {t e:TypeId} {i:TypeInfo} {b o len cap l u:Nat} (hu:P.underlying t=some (.slice e)) (hi:P.info? e=some i) {lov hiv:Option Value} (huc:u≤cap)
  (hb:(Instr.sliceBounds true len cap lov hiv none).run P w= .ok (l,u,cap) w): ∃o',(0<u-l→o'=o+l*i.size)∧(Instr.sliceAt t (.slice (some ⟨b,o,none⟩) len cap) lov hiv none).run P w= .ok (.slice (some ⟨b,o',none⟩) (u-l) (cap-l)) w:=by
 by_cases hc:cap=l
 ·subst hc
  refine ⟨o,fun h=>by omega,?_⟩
  ·simp[Instr.sliceAt,Instr.slice,run_underlying hu,hb,sizeOf,typeInfo,hi]
 ·refine ⟨o+l*i.size,fun _=>rfl,?_⟩
  simp[Instr.sliceAt,Instr.slice,run_underlying hu,hb,sizeOf,typeInfo,hi,hc,mV]
theorem ZL (s:ByteArray) (l:List UInt8) (h:s.data.toList=l) (a b:Nat):(s.extract a b).data.toList=(l.drop a).take (b-a):=by
 subst h
 simp[ByteArray.data_extract]
theorem ZM (S:aD P w I β hp B M w0) {t:TypeId} {v:Value} {x:V} {lo hi:Option V} {lov hiv:Option Value} {r:R} {rd:List Nat} (hv:ah P w I β hp v x)
  (iM: ∀x,lo=some x→∃v,lov=some v∧ah P w I β hp v x) (gP: ∀x,hi=some x→∃v,hiv=some v∧ah P w I β hp v x) (mZ:lo=none→lov=none) (oo:hi=none→hiv=none)
  (h:(Db P t x lo hi).run C hp=some (r,rd)):dj P ((Instr.sliceAt t v lov hiv none).run P w) w I β hp B M w0 r:=by
 unfold Db at h
 cases hu:P.underlying t with
 | none=>rw[hu] at h;cases h
 | some d=>
  rw[hu] at h
  cases d<;>simp only at h<;>first|(cases h;done)|skip
  case string=>
   cases x<;>simp only at h<;>first|(cases h;done)|skip
   rename_i l
   obtain ⟨s,rfl,hs⟩:=hv.lW
   have aZ:l.length=s.size:=by rw[←hs];simp
   obtain ⟨a,u,h1,h2,h3,h4⟩:=qw (isS:=false) (cap:=s.size) (by omega) iM gP mZ oo h
   obtain rfl:=aI h4
   rw[aZ] at h3
   refine .same S (v:= .string (s.extract a u)) ?_ (.str (ZL s l hs a u))
   simp[Instr.sliceAt,Instr.slice,run_underlying hu,h3]
  case slice e=>
   cases x<;>simp only at h<;>first|(cases h;done)|skip
   case list e' es=>
    obtain ⟨hc,h⟩:=aE h
    simp only[Bool.and_eq_true,Nat.beq_eq] at hc
    obtain ⟨dW,au⟩:=hc
    obtain ⟨i,z,ej,_,aZ,_⟩:=jX au
    cases hv with
    | list hp'=>
     cases hp' with
     | nil=>
      obtain ⟨a,u,h1,h2,h3,h4⟩:=qw (n:=0) (isS:=true) (cap:=0) (Nat.le_refl _) iM gP mZ oo h
      obtain rfl:=aI h4
      obtain rfl:u=0:=by omega
      obtain rfl:a=0:=by omega
      exact .same S (DU hu ej h3) (by simpa using ah.list iG.nil)
     | @emp ad cap=>
      obtain ⟨a,u,h1,h2,h3,h4⟩:=qw (n:=0) (isS:=true) (cap:=cap) (Nat.zero_le _) iM gP mZ oo h
      obtain rfl:=aI h4
      obtain rfl:u=0:=by omega
      obtain rfl:a=0:=by omega
      refine .same S (v:= .slice (some ad) 0 cap) ?_ (by simpa using ah.list iG.emp)
      by_cases hc:cap=0
      ·subst hc
       simp[Instr.sliceAt,Instr.slice,run_underlying hu,h3,sizeOf,typeInfo,ej]
      ·simp[Instr.sliceAt,Instr.slice,run_underlying hu,h3,sizeOf,typeInfo,ej,hc,Addr.add]
     | @list b o len cap _ g hl cd hI gl hx=>
      obtain ⟨a,u,h1,h2,h3,h4⟩:=qw (isS:=true) (cap:=cap) (by omega) iM gP mZ oo h
      obtain rfl:=aI h4
      rw[hl] at h2 h3
      obtain ⟨o',lV,dh⟩:=IG (b:=b) (o:=o) hu ej (by omega) h3
      have gC:e=e':=dW
      refine .same S dh (.list ?_)
      rw[←gC]
      rw[←gC] at gl hx hI
      have hlen:((es.drop a).take (u-a)).length=u-a:=by simp;omega
      refine .list (fun i j=>g (a+i) j) hlen (by omega) (fun h=>hI (Nat.lt_of_lt_of_le h (Nat.mul_le_mul_right _ (by omega)))) (fun i j hi hj=> ?_) (fun i j y t' hy ht=> ?_)
      ·have:=gl (a+i) j (by omega) hj
       rw[Nat.add_mul,Nat.add_assoc,←Nat.add_assoc o] at this
       rw[lV (by omega),aZ]
       exact this
      ·have hi:i<u-a:=by rw[←hlen];exact (List.getElem?_eq_some_iff.1 hy).1
       rw[List.getElem?_take_of_lt hi,List.getElem?_drop] at hy
       exact hx (a+i) j y t' hy ht
   case whole e' id=>
    obtain ⟨l,h⟩:=run_get h
    cases ab:hp id with
    | none=>rw[ab] at h;cases h
    | some blk=>
     rw[ab] at h
     cases blk<;>simp only at h<;>first|(cases h;done)|skip
     rename_i dR es fz
     obtain ⟨hc,h9⟩:=aE h
     clear h
     simp only[Bool.and_eq_true,Nat.beq_eq] at hc
     obtain ⟨dW,ju,au⟩:=hc
     obtain ⟨i,z,ej,_,aZ,_⟩:=jX au
     cases hv with
     | ey hd=>rw[ab] at hd;cases hd
     | eH hd=>rw[ab] at hd;cases hd
     | dU hd hb=>
      rw[ab] at hd
      cases hd
      obtain ⟨a,u,h1,h2,h3,h4⟩:=qw (n:=0) (isS:=true) (cap:=0) (Nat.le_refl _) iM gP mZ oo h9
      obtain rfl:=aI h4
      obtain rfl:u=0:=by omega
      obtain rfl:a=0:=by omega
      exact .same S (DU hu ej h3) (.fT ab hb)
     | @whole _ _ aH mM b cap hd hb y5 cd hm=>
      have eW:=hd
      rw[ab] at hd
      cases hd
      obtain ⟨a,u,h1,h2,h3,h4⟩:=qw (isS:=true) (cap:=cap) cd iM gP mZ oo h9
      obtain rfl:=aI h4
      obtain ⟨o',lV,dh⟩:=IG (b:=b) (o:=0) hu ej (by omega) h3
      have gC:e=e':=dW
      exact .same S dh (.sub eW hb (by omega) (by omega) (fun h=>by rw[lV h,aZ,gC,Nat.zero_add]))
   case sub e' id off len=>
    obtain ⟨l,h⟩:=run_get h
    cases ab:hp id with
    | none=>rw[ab] at h;cases h
    | some blk=>
     rw[ab] at h
     cases blk<;>simp only at h<;>first|(cases h;done)|skip
     rename_i dR es fz
     obtain ⟨hc,h⟩:=aE h
     simp only[Bool.and_eq_true,Nat.beq_eq] at hc
     obtain ⟨dW,ju,au⟩:=hc
     obtain ⟨i,z,ej,_,aZ,_⟩:=jX au
     cases hv with
     | gk hd=>rw[ab] at hd;cases hd
     | fT hd hb=>
      have eW:=hd
      obtain ⟨a,u,h1,h2,h3,h4⟩:=qw (isS:=true) (cap:=0) (Nat.le_refl _) iM gP mZ oo h
      obtain rfl:=aI h4
      obtain rfl:u=0:=by omega
      obtain rfl:a=0:=by omega
      exact .same S (DU hu ej h3) (.fT eW hb)
     | @sub _ _ _ _ aH mM b o cap hd hb jc cd ho=>
      have eW:=hd
      obtain ⟨a,u,h1,h2,h3,h4⟩:=qw (isS:=true) (cap:=cap) cd iM gP mZ oo h
      obtain rfl:=aI h4
      obtain ⟨o',lV,dh⟩:=IG (b:=b) (o:=o) hu ej (by omega) h3
      have gC:e=e':=dW
      exact .same S dh (.sub eW hb (by omega) (by omega) (fun h=>by rw[lV h,aZ,ho (by omega),gC,Nat.add_mul]))
theorem ZN (S:aD P w I β hp B M w0) {t:TypeId} {v:Value} {x:V} {lo hi mx:Option V} {lov hiv O7:Option Value} {r:R} {rd:List Nat} (hv:ah P w I β hp v x)
  (iM:lo=none→lov=none) (gP: ∀y,hi=some y→∃u,hiv=some u∧ah P w I β hp u y) (oc: ∀y,mx=some y→∃u,O7=some u∧ah P w I β hp u y)
  (h:(HH P t x lo hi mx).run C hp=some (r,rd)):dj P ((Instr.sliceAt t v lov hiv O7).run P w) w I β hp B M w0 r:=by
 unfold HH at h
 cases hu:P.underlying t with
 | none=>rw[hu] at h;cases h
 | some d=>
  rw[hu] at h
  cases d<;>(try (cases h;done))
  rename_i e
  cases lo<;>(try (cases h;done))
  cases hi<;>(try (cases h;done))
  rename_i wh
  cases wh<;>(try (cases h;done))
  cases mx<;>(try (cases h;done))
  rename_i ZO
  cases ZO<;>(try (cases h;done))
  obtain ⟨hc,h9⟩:=aE h
  clear h
  have h:=h9
  clear h9
  simp only[Bool.and_eq_true,decide_eq_true_eq] at hc
  obtain ⟨rfl,rfl,au⟩:=hc
  obtain ⟨i,z,ej,_,_,_⟩:=jX au
  obtain ⟨u1,rfl,k1⟩:=gP _ rfl
  obtain ⟨u2,rfl,k2⟩:=oc _ rfl
  rw[k1.eI,k2.eI,iM rfl]
  have run: ∀{k k2:IntKind} (a:Option Addr) (len cap:Nat),(Instr.sliceAt t (.slice a len cap) none (some (.int k 0)) (some (.int k2 0))).run P w= .ok (.slice a 0 0) w:=by
   intro k k2 a len cap
   cases a<;>simp[Instr.sliceAt,Instr.slice,Instr.sliceBounds,Instr.sliceBound,asIntOf,run_underlying hu,sizeOf,typeInfo,ej]
  cases x<;>(try (cases h;done))
  ·simp only at h
   obtain rfl:=aI h
   cases hv with
   | list hp'=>cases hp'<;>exact .same S (run _ _ _) .nilS
  ·simp only at h
   obtain rfl:=aI h
   cases hv
   exact .same S (run _ _ _) .nilS
  ·rename_i e' id
   simp only at h
   obtain ⟨l,h⟩:=run_get h
   cases ab:hp id with
   | none=>rw[ab] at h;cases h
   | some blk=>
    rw[ab] at h
    cases blk<;>simp only at h<;>first|(cases h;done)|skip
    all_goals
     obtain rfl:=aI h
     cases hv with
     | ey hd=>rw[ab] at hd;cases hd
     | eH hd=>exact .same S (run _ _ _) .nilS
     | dU hd hb=>exact .same S (run _ _ _) .nilS
     | whole hd=>exact .same S (run _ _ _) .nilS
theorem ZP (S:aD P w I β hp B M w0) {t:TypeId} {v ix:Value} {x y:V} {r:R} {rd:List Nat} (hv:ah P w I β hp v x) (hy:ah P w I β hp ix y)
  (h:(HK P t x y).run C hp=some (r,rd)):dj P ((Instr.indexAt t v ix).run P w) w I β hp B M w0 r:=by
 unfold HK at h
 cases hu:P.underlying t with
 | none=>rw[hu] at h;cases h
 | some d=>
  rw[hu] at h
  cases y<;>(try (cases d<;>cases h;done))
  rename_i k i
  rw[hy.eI]
  cases d<;>simp only at h<;>first|(cases h;done)|skip
  case slice e=>
   have run: ∀(b o len cap:Nat) (ie:TypeInfo),P.info? e=some ie→0≤i→i<(len:Int)→(Instr.indexAt t (.slice (some ⟨b,o,none⟩) len cap) (.int k i)).run P w= .ok (.pointer (some ⟨b,o+i.toNat*ie.size,none⟩)) w:=by
    intro b o len cap ie jy h0 h1
    simp[Instr.indexAt,asIntOf,run_underlying hu,h0,h1,sizeOf,typeInfo,jy,mV]
   cases x<;>simp only at h<;>first|(cases h;done)|skip
   case list e' es=>
    obtain ⟨hc,h⟩:=aE h
    simp only[Bool.and_eq_true,Nat.beq_eq] at hc
    obtain ⟨dW,au⟩:=hc
    have gC:e=e':=dW
    obtain ⟨ie,z,ej,_,aZ,_⟩:=jX au
    obtain ⟨el,da,h⟩:=la h
    obtain rfl:=aI h
    unfold idx at da
    cases h0:decide (0≤i) with
    | false=>rw[h0] at da;cases da
    | true=>
     rw[h0] at da
     simp only[cond_true] at da
     have ZQ:0≤i:=by simpa using h0
     have aR:i.toNat<es.length:=(List.getElem?_eq_some_iff.1 da).1
     cases hv with
     | list hp'=>
      cases hp' with
      | nil=>simp at aR
      | emp=>simp at aR
      | @list b o len cap _ g hl cd hI gl hx=>
       rw[←gC] at gl hx hI
       refine .same S (run b o len cap ie ej ZQ (by omega)) ?_
       have fa:=vU (P:=P) e el
       have IH:=fG au
       have O8:(bif bH P e then flat P e else [e])=aU P e:=rfl
       rw[O8]
       refine .pref (by rw[fa]) (fun _=>hI ?_) (fun j t' y' ht yM=> ?_)
       ·have:=Nat.mul_pos (show 0<len by omega) (jV au).2
        exact this
       ·obtain ⟨t2,a1,a2⟩:=H8 yM
        rw[ht] at a1;cases a1
        have hj:j<P.cellsOf e:=by rw[←IH];exact (List.getElem?_eq_some_iff.1 ht).1
        have gM:=hx i.toNat j el t' da ht
        refine ⟨g i.toNat j,?_,?_⟩
        ·rw[aZ,Nat.add_assoc];exact gl i.toNat j (by omega) hj
        ·rw[a2,gM.sa];exact gM
   case whole e' id=>
    obtain ⟨l,h⟩:=run_get h
    cases ab:hp id with
    | none=>rw[ab] at h;cases h
    | some blk=>
     rw[ab] at h
     cases blk<;>simp only at h<;>first|(cases h;done)|skip
     rename_i dR es fz
     obtain ⟨hc,h⟩:=aE h
     simp only[Bool.and_eq_true,Nat.beq_eq] at hc
     obtain ⟨dW,ju⟩:=hc
     obtain ⟨eX,h⟩:=aE h
     simp only[Bool.and_eq_true,decide_eq_true_eq] at eX
     obtain rfl:=aI h
     cases hv with
     | ey hd=>rw[ab] at hd;cases hd
     | eH hd=>rw[ab] at hd;cases hd
     | dU hd hb=>rw[ab] at hd;cases hd;simp at eX;omega
     | @whole _ _ aH mM b cap hd hb y5 cd hm=>
      have eW:=hd
      rw[ab] at hd
      cases hd
      have hr:=S.h.rel id _ ab
      cases hr with
      | dV ax=>rw[ax] at hb;cases hb
      | arr au ax hh hs hf ez hx=>
       have gC:e=e':=dW
       obtain ⟨ie,z,ej,_,aZ,_⟩:=jX au
       rw[←gC] at ej aZ
       refine .same S (run b 0 _ cap ie ej eX.1 eX.2) ?_
       have:=ah.ptr (P:=P) (w:=w) (I:=I) (i:=i.toNat) (c:=0) eW (by simp) hb
       simp only[ag.sz] at this
       rw[Nat.zero_add,aZ,gC]
       simpa using this
     rename_i dR es ai
     obtain ⟨hc,h⟩:=aE h
     simp only[Bool.and_eq_true,Nat.beq_eq] at hc
     obtain ⟨dW,ju⟩:=hc
     obtain ⟨eX,h⟩:=aE h
     simp only[Bool.and_eq_true,decide_eq_true_eq] at eX
     obtain rfl:=aI h
     cases hv with
     | ey hd=>rw[ab] at hd;cases hd
     | dU hd hb=>rw[ab] at hd;cases hd
     | whole hd=>rw[ab] at hd;cases hd
     | @eH _ _ aH vers' b cap hd hb y5 cd hm=>
      have eW:=hd
      rw[ab] at hd
      cases hd
      have au:=(S.rows eW hb .here).ok
      have gC:e=e':=dW
      obtain ⟨ie,z,ej,_,aZ,_⟩:=jX au
      rw[←gC] at ej aZ
      refine .same S (run b 0 _ cap ie ej eX.1 eX.2) ?_
      have:=ah.ptr (P:=P) (w:=w) (I:=I) (i:=i.toNat) (c:=0) eW (by simp) hb
      simp only[ag.sz] at this
      rw[Nat.zero_add,aZ,gC]
      simpa using this
   case row e' id ver path=>
    obtain ⟨e0,es,ai,l,ab,h1,h2,h3,h⟩:=oa h
    obtain ⟨e2,v',k1,k2,h⟩:=vP h
    obtain ⟨hc,h⟩:=aE h
    simp only[Bool.and_eq_true,Nat.beq_eq] at hc
    obtain ⟨dW,ju⟩:=hc
    obtain ⟨eX,h⟩:=aE h
    simp only[Bool.and_eq_true,decide_eq_true_eq] at eX
    obtain rfl:=aI h
    cases hv with
    | jr hd hp'=>rw[ab] at hd;cases hd;exact absurd hp' (vQ h1 h2 h3)
    | @row v _ e0 t1 _ ver b i1 c1 q es l1 ai hd hb hq Ip ht gl=>
     have ZR:=gl
     obtain ⟨b',e3,aH,Ca,T,f,x,m1,m2,m3,m4,m5,m6⟩:=gl
     have mU:=hd
     rw[ab] at mU
     cases mU
     obtain ⟨n1,n2⟩:=Ds m1 m3 m4 ht m5
     rw[n2] at k2
     cases k2
     simp only[V.toList] at eX
     have hR:=S.rows hd hb m1
     obtain ⟨C1,c2,c3,c4⟩:=hR.cells
     rw[m2] at c2
     cases c2
     have hj:c1<P.cellsOf e3:=by
      rw[←fG hR.ok];exact (List.getElem?_eq_some_iff.1 m4).1
     obtain ⟨v2,d1,d2⟩:=c4 _ _ _ _ m3 m4 hj
     rw[m6] at d1
     cases d1
     rw[m5] at d2
     cases d2 with
     | fS a _=>unfold fO at a;rw[ht] at a;cases a
     | emp _ _=>simp at eX;omega
     | @row _ _ b1 cap _ hl _ _ _=>
      have au:=(S.rows hd hb (m1.snoc m2 m3 m4 ht m5 hl m6)).ok
      have gC:e=e':=dW
      obtain ⟨ie,z,ej,_,aZ,_⟩:=jX au
      rw[←gC] at ej aZ
      refine .same S (run b1 0 _ cap ie ej eX.1 eX.2) ?_
      have:=ah.cG (P:=P) (I:=I) (i:=i.toNat) (c:=0) hd hb hq Ip ht hl ZR
      rw[Nat.zero_add,aZ,gC]
      simpa using this
   case sub e' id off len=>
    obtain ⟨l,h⟩:=run_get h
    cases ab:hp id with
    | none=>rw[ab] at h;cases h
    | some blk=>
     rw[ab] at h
     cases blk<;>simp only at h<;>first|(cases h;done)|skip
     rename_i dR es fz
     obtain ⟨hc,h⟩:=aE h
     simp only[Bool.and_eq_true,Nat.beq_eq] at hc
     obtain ⟨dW,ju⟩:=hc
     obtain ⟨eX,h⟩:=aE h
     simp only[Bool.and_eq_true,decide_eq_true_eq] at eX
     obtain rfl:=aI h
     cases hv with
     | gk hd=>rw[ab] at hd;cases hd
     | fT hd hb=>simp at eX;omega
     | @sub _ _ _ _ aH mM b o cap hd hb jc cd ho=>
      have eW:=hd
      rw[ab] at hd
      cases hd
      have hr:=S.h.rel id _ ab
      cases hr with
      | dV ax=>rw[ax] at hb;cases hb
      | arr au ax hh hs hf ez hx=>
       have gC:e=e':=dW
       obtain ⟨ie,z,ej,_,aZ,_⟩:=jX au
       rw[←gC] at ej aZ
       refine .same S (run b o _ cap ie ej eX.1 eX.2) ?_
       have:=ah.ptr (P:=P) (w:=w) (I:=I) (i:=off+i.toNat) (c:=0) eW (by simp) hb
       simp only[ag.sz] at this
       rw[ho (by omega),aZ,gC,←Nat.add_mul]
       simpa using this
  case array n e=>
   have run: ∀(b o:Nat) (ie:TypeInfo),P.info? e=some ie→0≤i→i<(n:Int)→(Instr.indexAt t (.pointer (some ⟨b,o,none⟩)) (.int k i)).run P w= .ok (.pointer (some ⟨b,o+i.toNat*ie.size,none⟩)) w:=by
    intro b o ie jy h0 h1
    simp[Instr.indexAt,asIntOf,run_underlying hu,h0,h1,sizeOf,typeInfo,jy,mV,Instr.sureAddr]
   cases x<;>simp only at h<;>first|(cases h;done)|skip
   case ptr id j c=>
    obtain ⟨⟨blk,ab,hd⟩,l,h⟩:=vS h
    obtain ⟨eX,h⟩:=aE h
    simp only[Bool.and_eq_true,decide_eq_true_eq] at eX
    obtain rfl:=aI h
    obtain ⟨b,hb,rfl⟩:=hv.gO ab hd
    obtain ⟨d,tQ⟩:=yQ eX.1
    obtain ⟨ie,jy⟩:=vT tQ
    have aZ:ie.size=P.cellsOf e:=by simp[Program.cellsOf,jy]
    refine .same S (run b _ ie jy eX.2.1 eX.2.2) ?_
    rw[aZ,Nat.add_assoc]
    exact .ptr ab hd hb
   case pref ts cs=>
    obtain ⟨eX,h⟩:=aE h
    simp only[Bool.and_eq_true,decide_eq_true_eq] at eX
    obtain rfl:=aI h
    obtain ⟨b,o,rfl,h1,h2,h3⟩:=hv.Dz
    obtain ⟨d,tQ⟩:=yQ eX.1
    obtain ⟨ie,jy⟩:=vT tQ
    have aZ:ie.size=P.cellsOf e:=by simp[Program.cellsOf,jy]
    refine .same S (run b _ ie jy eX.2.1 eX.2.2) ?_
    rw[aZ]
    exact ah.Ot h1 h2 h3
end
end Go.AM
namespace Go.AM
open Go.Maps
section
variable {P:Program} {w w':World} {I I':Nat→Prop} {β an:Nat→Option Nat} {hp hp':Nat→Option ag} {C:ae} {B:Nat} {M:Nat→Prop} {w0:Start}
theorem ZS (S:aD P w I β hp B M w0) {nb:Nat} {t:TypeId} {v:Value} {x:V} {lo hi:Option V} {lov hiv:Option Value} {r:R} {rd:List Nat} (hv:ah P w I β hp v x)
  (gP: ∀x,hi=some x→∃v,hiv=some v∧ah P w I β hp v x) (mZ:lo=none→lov=none)
  (h:(Dc P nb t x lo hi).run C hp=some (r,rd)):dj P ((Instr.sliceAt t v lov hiv none).run P w) w I β hp B M w0 r:=by
 unfold Dc at h
 split at h
 case h_2=>cases h
 rename_i e e' id k hh hu
 obtain ⟨l,h1⟩:=run_get h
 cases ab:hp id with
 | none=>rw[ab] at h1;cases h1
 | some blk=>
  rw[ab] at h1
  cases blk<;>simp only at h1<;>first|(cases h1;done)|skip
  rename_i e2 es fz
  cases fz with
  | true=>cases h1
  | false=>
  obtain ⟨hc,h2⟩:=aE h1
  simp only[Bool.and_eq_true,Nat.beq_eq,decide_eq_true_eq] at hc
  obtain ⟨rfl,rfl,au,O9,Pb⟩:=hc
  obtain ⟨hn,rfl⟩:=mY h2
  have iM:=mZ rfl
  subst iM
  obtain ⟨II,rfl,ZT⟩:=gP _ rfl
  obtain rfl:=ZT.eI
  obtain ⟨i,z,ej,_,aZ,_⟩:=jX au
  have bO:nb≠id:=fun e=>by rw[e,ab] at hn;cases hn
  obtain ⟨k1,k2⟩:=Dv S ab
  have je:aG hp id (some ag.dead) nb=none:=by rw[eB _ _ bO];exact hn
  have Pc: ∀cap,es.length≤cap→(Instr.sliceBounds true es.length cap none (some (.int k hh)) none).run P w= .ok (0,hh.toNat,cap) w:=by
   intro cap cd
   have hb:(rQ es.length none (some (.int k hh)) fun l u=> .aA (decide (l=0∧u=hh.toNat)) (.ret (⟨.undef,[]⟩:R))).run C hp=some (⟨.undef,[]⟩,[]):=by
    simp[rQ,Rd.run,O9,Pb]
   obtain ⟨l,u,b1,b2,b3,b4⟩:=qw (P:=P) (w:=w) (I:=I) (β:=β) (hp:=hp) (n:=es.length) (isS:=true) (cap:=cap) (lov:=none) (hiv:=some (.int k hh)) cd (by simp) (fun x hx=>by cases hx;exact ⟨_,rfl,.int⟩) (fun _=>rfl) (by simp) hb
   obtain ⟨b5,_⟩:=aE b4
   simp only[decide_eq_true_eq] at b5
   obtain ⟨rfl,rfl⟩:=b5
   exact b3
  cases hv with
  | ey hd=>rw[ab] at hd;cases hd
  | eH hd=>rw[ab] at hd;cases hd
  | @dU _ _ _ a0 hd hb=>
   rw[ab] at hd
   cases hd
   have Ig:hh=0:=by simpa using Int.le_antisymm Pb O9
   subst Ig
   have ax:=Pc 0 (Nat.le_refl _)
   obtain ⟨a1,a2⟩:=Du k2 e je
   refine ⟨_,w,I,_,DU hu ej ax,k1.trans a1,a2,.dU (dd _ _ _) (dd _ _ _)⟩
  | @whole _ _ aH mM b cap hd hb y5 cd hm=>
   have eW:=hd
   rw[ab] at hd
   cases hd
   have hr:=S.h.rel id _ ab
   cases hr with
   | dV ax=>rw[ax] at hb;cases hb
   | @arr _ _ _ b' Ca _ ax DV pk hf ez mb=>
    rw[hb] at ax
    cases ax
    have jd:(es.take hh.toNat).length=hh.toNat:=by rw[List.length_take];omega
    have dh:(Instr.sliceAt t (.slice (some ⟨b,0,none⟩) es.length cap) none (some (.int k hh)) none).run P w= .ok (.slice (some ⟨b,0,none⟩) hh.toNat cap) w:=by
     have ax:=Pc cap cd
     by_cases DW:cap=0
     ·subst DW
      simp[Instr.sliceAt,Instr.slice,run_underlying hu,ax,sizeOf,typeInfo,ej]
     ·simp[Instr.sliceAt,Instr.slice,run_underlying hu,ax,sizeOf,typeInfo,ej,DW,mV]
    have qj: ∀aB blk',aG hp id (some ag.dead) aB=some blk'→¬bA P w (β aB) blk' b:=by
     intro aB blk' h1 h2
     by_cases iL:aB=id
     ·subst iL;rw[dd] at h1;cases h1;exact h2.alive rfl
     ·rw[eB _ _ iL] at h1
      exact iL (S.h.inj aB id blk' _ b h1 ab h2 (.root (by simp) hb))
    obtain ⟨a1,a2⟩:=yL k2 (blk:= .arr e (es.take hh.toNat) false) (w':=w) je qj (ez rfl) (fun _ _ _=>rfl) (Nat.le_refl _) ⟨rfl,rfl⟩ (S.h.rW id _ b ab (by simp) hb)
     (fun b' h=>(Option.some.inj (h.flat (by simp))).symm) (fun hle=> .arr au rfl DV (by rw[jd];exact Nat.le_trans (Nat.mul_le_mul_right _ (by omega)) pk) (fun h=>by cases h) (fun _=>ez rfl) fun i j y t' hy ht hj=>by
      have qv:=(List.getElem?_eq_some_iff.1 hy).1
      rw[jd] at qv
      rw[List.getElem?_take_of_lt qv] at hy
      obtain ⟨v,hv,hp⟩:=mb i j y t' hy ht hj
      exact ⟨v,hv,hp.mono hle.dz hle.cg⟩)
    refine ⟨_,w,I,_,dh,k1.trans a1,a2,?_⟩
    have:=ah.whole (P:=P) (w:=w) (I:=I) (β:=aG β nb (some b)) (hp:=aG (aG hp id (some .dead)) nb (some (.arr e (es.take hh.toNat) false))) (cap:=cap) (dd _ _ _) (dd _ _ _) y5 (by rw[jd];omega) hm
    rw[jd] at this
    exact this
theorem qx {t:TypeId} {x:V} (h:o4 P t x=true):
  (∃q n,P.underlying t=some (.int q)∧x= .int q n∧cZ q n=true)∨(∃b,P.underlying t=some .bool∧x= .bool b)∨(∃s,P.underlying t=some .string∧x= .str s∧s.length≤maxLen):=by
 unfold o4 at h
 split at h
 ·rename_i q q' n hu
  simp only[Bool.and_eq_true,decide_eq_true_eq] at h
  obtain ⟨rfl,h⟩:=h
  exact .inl ⟨_,_,hu,rfl,h⟩
 ·rename_i b hu
  exact .inr (.inl ⟨_,hu,rfl⟩)
 ·rename_i s hu
  exact .inr (.inr ⟨_,hu,rfl,by simpa using h⟩)
 ·cases h
theorem size_data (s:ByteArray):s.data.toList.length=s.size:=by simp
theorem ZU {q:IntKind} {n:Int} (h:cZ q n=true):(Lit.int q n).wf=true:=h
theorem Pd {t:TypeId} {x:V} {v:Value} (h:o4 P t x=true) (hv:jb v x): ∃l,mapKey P t v=some l∧∀d,P.keyLits (d+1) t [v]=some [l]:=by
 rcases qx h with ⟨q,n,hu,rfl,hn⟩|⟨b,hu,rfl⟩|⟨s,hu,rfl,hs⟩
 ·obtain rfl:v= .int q n:=hv
  have hw:=ZU hn
  exact ⟨.int q n,by simp[mapKey,hu,hw],fun d=>by simp[Program.keyLits,hu,hw]⟩
 ·obtain rfl:v= .bool b:=hv
  exact ⟨.bool b,by simp[mapKey,hu],fun d=>by simp[Program.keyLits,hu]⟩
 ·obtain ⟨s',rfl,si⟩:=hv
  have:s'.size≤maxLen:=by rw[←size_data,si];exact hs
  exact ⟨.string s'.data.toList,by simp[mapKey,hu,this],fun d=>by simp[Program.keyLits,hu,this]⟩
theorem IJ {t:TypeId}: ∀{xs:List V} {j:Nat} {x:V},p9 P t xs=true→xs[j]? =some x→o4 P t x=true
 | [],j,x,_,h=>by simp at h
 | y::ys,0,x,h,hx=>by
  simp only[p9,Bool.and_eq_true] at h
  simp at hx;subst hx;exact h.1
 | y::ys,j+1,x,h,hx=>by
  simp only[p9,Bool.and_eq_true] at h
  exact IJ (j:=j) h.2 (by simpa using hx)
theorem mapM_some {α β:Type} {f:α→Option β}: ∀{l:List α},(∀a∈l,∃b,f a=some b)→∃bs,l.mapM f=some bs
 | [],_=>⟨[],rfl⟩
 | a::l,h=>by
  obtain ⟨b,hb⟩:=h a (List.mem_cons_self ..)
  obtain ⟨bs,gN⟩:=mapM_some (l:=l) fun x hx=>h x (List.mem_cons_of_mem _ hx)
  exact ⟨b::bs,by simp[List.mapM_cons,hb,gN]⟩
inductive IK (P:Program) (t:TypeId) (x:V):Prop
 | one:o4 P t x=true→x.cells=[x]→IK P t x
 | arr {n:Nat} {e:TypeId} {xs:List V}:x= .agg xs→WideMaps.ArrKey P t e n→xs.length=n→0<P.types.size→p9 P e xs=true→IK P t x
theorem wi {t:TypeId} {x:V} (h:mL P t x=true):IK P t x:=by
 unfold mL at h
 split at h
 ·rename_i n e xs hu
  simp only[Bool.and_eq_true,Nat.beq_eq] at h
  rw[Nat.blt_eq] at h
  exact .arr rfl ⟨hu,h.2.2.2.1,h.2.1,h.2.2.1⟩ h.1 h.2.2.2.2.1 h.2.2.2.2.2
 ·refine .one h ?_
  rcases qx h with ⟨q,n,hu,rfl,hn⟩|⟨b,hu,rfl⟩|⟨s,hu,rfl,hs⟩<;>rfl
theorem qe.one {x:V} {v:Value} (h:qe v x) (hx:x.cells=[x]):jb v x:=by
 cases x<;>first|exact h|skip
 simp only[V.cells] at hx
 rename_i cs
 have:=congrArg List.length hx
 cases cs with
 | nil=>simp at hx
 | cons c cs=>
  simp only[List.cons.injEq] at hx
  have:=congrArg SizeOf.sizeOf hx.1
  simp at this
  omega
theorem DX {t:TypeId} {x:V} {v:Value} (h:mL P t x=true) (hv:qe v x): ∃l,Go.keyOf P t v=some l:=by
 cases wi h with
 | one h1 hx=>
  obtain ⟨l,hl,_⟩:=Pd h1 (hv.one hx)
  refine ⟨l,?_⟩
  rcases qx h1 with ⟨q,n,hu,_⟩|⟨b,hu,_⟩|⟨s,hu,_⟩<;>simp only[Go.keyOf,hu,hl]
 | @arr n e xs hx A hl hp0 hf=>
  subst hx
  obtain ⟨cs,rfl,hs,hc⟩:=hv
  obtain ⟨m,hm⟩: ∃m,P.types.size=m+1:=⟨P.types.size-1,by omega⟩
  have ZV:=A.keyType ⟨m,hm⟩
  have hlen:cs.toList.length=P.cellsOf t:=by rw[A.size];simp[hs,hl]
  have ZW:(Value.agg cs).formed P t=true:=by simp[Value.formed,A.hu,A.size,hs,hl]
  have hex: ∀i∈List.range n,∃y,P.keyLits (m+1) e (((Value.agg cs).cells.toList.drop (i*P.cellsOf e)).take (P.cellsOf e))=some y:=by
   intro i hi
   have hi:=List.mem_range.1 hi
   rw[A.one]
   have gn:i<cs.size:=by omega
   have y6:i<xs.length:=by omega
   obtain ⟨l,_,h2⟩:=Pd (IJ hf (List.getElem?_eq_getElem y6)) (hc i cs[i] xs[i] (Array.getElem?_eq_getElem gn) (List.getElem?_eq_getElem y6))
   have e1:((Value.agg cs).cells.toList.drop (i*1)).take 1=[cs[i]]:=by
    show (cs.toList.drop (i*1)).take 1=_
    rw[Nat.mul_one,List.drop_eq_getElem_cons (by simpa using gn)]
    simp
   rw[e1]
   exact ⟨_,h2 m⟩
  obtain ⟨bs,gN⟩:=mapM_some hex
  refine ⟨.string (keyBytes bs.flatten),?_⟩
  have ZX:(Value.agg cs).cells.toList.length=P.cellsOf t:=hlen
  unfold Go.keyOf
  rw[A.hu]
  simp only[ZV,ZW,Bool.and_self,if_true]
  unfold Program.keyLits
  rw[A.hu,hm]
  simp only[ZX,if_true,gN,Option.map_some]
theorem IL {t:TypeId} {x:V} (h:mL P t x=true):Keyed P t:=by
 cases wi h with
 | one h1 hx=>
  rcases qx h1 with ⟨q,n,hu,_⟩|⟨b,hu,_⟩|⟨s,hu,_⟩
  ·exact int_keyed hu
  ·exact bool_keyed hu
  ·exact string_keyed hu
 | arr hx A hl _ hf=>exact Keyed.of_law A.law
theorem Pe {t:TypeId} {x y:V} {v u:Value} (h1:o4 P t x=true) (h2:o4 P t y=true) (hv:jb v x) (hu:jb u y):rO x y=true↔v=u:=by
 rcases qx h1 with ⟨q,n,mc,rfl,_⟩|⟨b,mc,rfl⟩|⟨s,mc,rfl,_⟩<;>
 rcases qx h2 with ⟨q',n',po,rfl,_⟩|⟨b',po,rfl⟩|⟨s',po,rfl,_⟩<;>
  (rw[mc] at po;cases po)
 ·obtain rfl:v= .int q n:=hv
  obtain rfl:u= .int q n':=hu
  simp[rO]
 ·obtain rfl:v= .bool b:=hv
  obtain rfl:u= .bool b':=hu
  simp[rO]
 ·obtain ⟨s1,rfl,e1⟩:=hv
  obtain ⟨s2,rfl,e2⟩:=hu
  simp only[rO,beq_iff_eq,Value.string.injEq,←e1,←e2]
  constructor
  ·intro h
   have:=Array.toList_inj.1 h
   cases s1;cases s2;simp_all
  ·rintro rfl;rfl
theorem Pf {t:TypeId}: ∀{xs ys:List V} {vs us:List Value},p9 P t xs=true→p9 P t ys=true→xs.length=ys.length→vs.length=xs.length→us.length=ys.length→
  (∀(j:Nat) v x,vs[j]? =some v→xs[j]? =some x→jb v x)→(∀(j:Nat) v x,us[j]? =some v→ys[j]? =some x→jb v x)→(o0 xs ys=true↔vs=us)
 | [],[],vs,us,_,_,_,h1,h2,_,_=>by
  have e1:=List.eq_nil_of_length_eq_zero (l:=vs) (by simpa using h1)
  have e2:=List.eq_nil_of_length_eq_zero (l:=us) (by simpa using h2)
  simp[o0,e1,e2]
 | [],_::_,_,_,_,_,h,_,_,_,_=>by simp at h
 | _::_,[],_,_,_,_,h,_,_,_,_=>by simp at h
 | x::xs,y::ys,[],us,_,_,_,h,_,_,_=>by simp at h
 | x::xs,y::ys,v::vs,[],_,_,_,_,h,_,_=>by simp at h
 | x::xs,y::ys,v::vs,u::us,f1,f2,h,h1,h2,r1,r2=>by
  simp only[p9,Bool.and_eq_true] at f1 f2
  have a:=Pe f1.1 f2.1 (r1 0 v x rfl rfl) (r2 0 u y rfl rfl)
  have b:=Pf (vs:=vs) (us:=us) f1.2 f2.2 (by simpa using h) (by simpa using h1) (by simpa using h2) (fun j v x hj hx=>r1 (j+1) v x (by simpa using hj) (by simpa using hx)) (fun j v x hj hx=>r2 (j+1) v x (by simpa using hj) (by simpa using hx))
  simp only[o0,Bool.and_eq_true,a,b,List.cons.injEq]
theorem IM {t:TypeId} {x y:V} {v u:Value} (h1:mL P t x=true) (h2:mL P t y=true) (hv:qe v x) (hu:qe u y):iW x y=true↔v=u:=by
 unfold iW
 cases wi h1 with
 | one f1 c1=>
  cases wi h2 with
  | one f2 c2=>
   rw[c1,c2]
   simp only[o0,Bool.and_true]
   exact Pe f1 f2 (hv.one c1) (hu.one c2)
  | arr hy A hl _ hf=>
   rcases qx f1 with ⟨q,n,mc,_⟩|⟨b,mc,_⟩|⟨s,mc,_⟩<;>(rw[A.hu] at mc;cases mc)
 | arr hx A hl _ hf=>
  cases wi h2 with
  | one f2 c2=>
   rcases qx f2 with ⟨q,n,mc,_⟩|⟨b,mc,_⟩|⟨s,mc,_⟩<;>(rw[A.hu] at mc;cases mc)
  | arr hy A2 te _ ZY=>
   have gC:=A.hu.symm.trans A2.hu
   cases gC
   subst hx
   subst hy
   obtain ⟨cs,rfl,s1,r1⟩:=hv
   obtain ⟨ds,rfl,s2,r2⟩:=hu
   have:=Pf (vs:=cs.toList) (us:=ds.toList) hf ZY (by omega) (by simpa using s1) (by simpa using s2) (fun j v x hj hx=>r1 j v x (by simpa using hj) hx) (fun j v x hj hx=>r2 j v x (by simpa using hj) hx)
   simp only[V.cells,this,Value.agg.injEq]
   exact Array.toList_inj
theorem Pg {k:V}: ∀{es:List V},(∀x∈es,iW k (x.comp 0)=false)→fC k es=false∧(∀z,gY k es z=z)∧∀v,e8 k v es=es++[.bh [k,v]]
 | [],_=>⟨rfl,fun _=>rfl,fun _=>rfl⟩
 | e::es,h=>by
  have h0:=h e (List.mem_cons_self ..)
  obtain ⟨a,b,c⟩:=Pg (k:=k) (es:=es) fun x hx=>h x (List.mem_cons_of_mem _ hx)
  exact ⟨by simp[fC,h0,a],fun z=>by simp[gY,h0,b],fun v=>by simp[e8,h0,c]⟩
theorem Ph {k:V}: ∀{es:List V} {j:Nat} {k' y:V},es[j]? =some (.bh [k',y])→iW k k'=true→(∀i x,i<j→es[i]? =some x→iW k (x.comp 0)=false)→
  fC k es=true∧(∀z,gY k es z=y)∧∀v,e8 k v es=es.set j (.bh [k',v])
 | [],j,k',y,h,_,_=>by simp at h
 | e::es,0,k',y,h,he,_=>by
  simp at h
  subst h
  exact ⟨by simp[fC,V.comp,V.nth,he],fun z=>by simp[gY,V.comp,V.nth,he],fun v=>by simp[e8,V.comp,V.nth,he]⟩
 | e::es,j+1,k',y,h,he,aR=>by
  have h0:=aR 0 e (by omega) rfl
  obtain ⟨a,b,c⟩:=Ph (k:=k) (es:=es) (j:=j) (by simpa using h) he fun i x hi hx=>aR (i+1) x (by omega) (by simpa using hx)
  exact ⟨by simp[fC,h0,a],fun z=>by simp[gY,h0,b],fun v=>by simp[e8,h0,c]⟩
theorem Pj {kt vt:TypeId} {E:Array MapEntry} {es:List V} {k:V} {kv:Value} (hs:E.size=es.length) (hx: ∀(j:Nat) (e:MapEntry) (x:V),E[j]? =some e→es[j]? =some x→Dm P kt vt e x)
  (hn:E.toList.Pairwise (fun a b=>a.key≠b.key)) (hk:mL P kt k=true) (DY:qe kv k) (w:World):
  ((Instr.findKey kt kv E.toList).run P w= .ok none w∧(∀e∈E.toList,e.key≠kv)∧fC k es=false∧(∀z,gY k es z=z)∧∀v,e8 k v es=es++[.bh [k,v]])∨
  ∃j e k' y,(Instr.findKey kt kv E.toList).run P w= .ok (some (j,e.val)) w∧E[j]? =some e∧e.key=kv∧es[j]? =some (.bh [k',y])∧mL P kt k'=true∧qe kv k'∧eN P vt y=true∧jb e.val y∧
   fC k es=true∧(∀z,gY k es z=y)∧∀v,e8 k v es=es.set j (.bh [k',v]):=by
 have K:=IL hk
 obtain ⟨l,hl⟩:=DX hk DY
 have Pk: ∀(j:Nat) x,es[j]? =some x→∃e,E[j]? =some e∧Dm P kt vt e x:=by
  intro j x hj
  have aR:j<E.size:=by rw[hs];exact (List.getElem?_eq_some_iff.1 hj).1
  exact ⟨E[j],Array.getElem?_eq_getElem aR,hx j _ x (Array.getElem?_eq_getElem aR) hj⟩
 have keys: ∀e∈E.toList,∃l,Go.keyOf P kt e.key=some l:=by
  intro e he
  obtain ⟨j,hj⟩:=List.getElem?_of_mem he
  have gA:E[j]? =some e:=by simpa using hj
  have aR:j<es.length:=by rw[←hs];exact (Array.getElem?_eq_some_iff.1 gA).1
  obtain ⟨k',y,_,h1,h2,_⟩:=hx j e es[j] gA (List.getElem?_eq_getElem aR)
  exact DX h1 h2
 rcases K.find w hl E.toList keys with ⟨h1,h2⟩|⟨j,e,h1,h2,h3⟩
 ·left
  refine ⟨h1,h2,Pg fun x ZZ=> ?_⟩
  obtain ⟨j,hj⟩:=List.getElem?_of_mem ZZ
  obtain ⟨e,he,k',y,rfl,f1,f2,_⟩:=Pk j x hj
  cases hq:iW k (V.comp (.bh [k',y]) 0) with
  | false=>rfl
  | true=>
   have:=(IM hk f1 DY f2).1 hq
   exact absurd this.symm (h2 e (List.mem_of_getElem? (by simpa using he)))
 ·right
  have hE:E[j]? =some e:=by simpa using h2
  have aR:j<es.length:=by rw[←hs];exact (Array.getElem?_eq_some_iff.1 hE).1
  obtain ⟨k',y,hy,f1,f2,f3,f4⟩:=hx j e es[j] hE (List.getElem?_eq_getElem aR)
  have hj:=List.getElem?_eq_getElem aR
  rw[hy] at hj
  rw[h3] at f2
  refine ⟨j,e,k',y,h1,hE,h3,hj,f1,f2,f3,f4,Ph hj ((IM hk f1 DY f2).2 rfl) fun i x hi gy=> ?_⟩
  obtain ⟨e',tN,k2,y2,rfl,g1,g2,_⟩:=Pk i x gy
  cases hq:iW k (V.comp (.bh [k2,y2]) 0) with
  | false=>rfl
  | true=>
   have:=(IM hk g1 DY g2).1 hq
   have i1:i<E.toList.length:=by have:=(List.getElem?_eq_some_iff.1 gy).1;simp;omega
   have i2:j<E.toList.length:=by simp;omega
   have:=List.pairwise_iff_getElem.1 hn i j i1 i2 hi
   have a1:E.toList[i]=e':=by
    have:E.toList[i]? =some e':=by simpa using tN
    rw[List.getElem?_eq_getElem i1] at this;exact Option.some.inj this
   have a2:E.toList[j]=e:=by
    have:=h2
    rw[List.getElem?_eq_getElem i2] at this;exact Option.some.inj this
   rw[a1,a2,h3] at this
   exact absurd (by rw[← ‹kv=e'.key›]) this
theorem ah.Pl {v:Value} {x:V} (h:ah P w I β hp v x) {t:TypeId} (hx:o4 P t x=true):jb v x:=by
 rcases qx hx with ⟨q,n,_,rfl,_⟩|⟨b,_,rfl⟩|⟨s,_,rfl,_⟩
 ·exact h.eI
 ·exact h.jw
 ·exact h.lW
theorem ah.Pm {v:Value} {x:V} (h:ah P w I β hp v x) {t:TypeId} (hx:mL P t x=true):qe v x:=by
 cases wi hx with
 | one f c=>
  have:=h.Pl f
  cases x<;>first|exact this|cases this
 | arr hx A hl _ hf=>
  subst hx
  obtain ⟨cs,rfl,h1,h2⟩:=h.kB
  exact ⟨cs,rfl,h1,fun j u y hu hy=>(h2 j u y hu hy).Pl (IJ hf hy)⟩
theorem Pn {vt:TypeId} {y:V} (h:mapVal P vt=true) (ht:eN P vt y=true):(∃q n,P.underlying vt=some (.int q)∧y= .int q n)∨∃b,P.underlying vt=some .bool∧y= .bool b:=by
 unfold mapVal at h
 unfold eN at ht
 split at h
 ·rename_i q hu
  rw[hu] at ht
  cases y<;>first|(simp at ht;done)|skip
  simp only[decide_eq_true_eq] at ht
  subst ht
  exact .inl ⟨_,_,hu,rfl⟩
 ·rename_i hu
  rw[hu] at ht
  cases y<;>first|(simp at ht;done)|skip
  exact .inr ⟨_,hu,rfl⟩
 ·cases h
theorem jb.IN {vt:TypeId} {v:Value} {y:V} (h:mapVal P vt=true) (ht:eN P vt y=true) (hv:jb v y):ah P w I β hp v y:=by
 rcases Pn h ht with ⟨q,n,_,rfl⟩|⟨b,_,rfl⟩
 ·obtain rfl:v= .int q n:=hv;exact .int
 ·obtain rfl:v= .bool b:=hv;exact .bool
theorem ah.Z0 {vt:TypeId} {v:Value} {y:V} (h:mapVal P vt=true) (ht:eN P vt y=true) (hv:ah P w I β hp v y):jb v y:=by
 rcases Pn h ht with ⟨q,n,_,rfl⟩|⟨b,_,rfl⟩
 ·exact hv.eI
 ·exact hv.jw
theorem Z1 {vt:TypeId} {z:V} (h:C6 P vt=some z) (w:World): ∃v,(zeroValue vt).run P w= .ok v w∧jb v z:=by
 unfold C6 at h
 cases hi:P.info? vt with
 | none=>rw[hi] at h;cases h
 | some i=>
  rw[hi] at h
  simp only[Option.bind_some] at h
  cases hz:i.zero with
  | none=>rw[hz] at h;cases h
  | some v=>
   rw[hz] at h
   refine ⟨v,by simp[zeroValue,typeInfo,hi,hz],?_⟩
   cases v<;>simp only at h<;>first|(cases h;done)|skip
   ·cases h;rfl
   ·cases h;rfl
theorem IP {t kt vt:TypeId} (h:kX P t=some (kt,vt)):P.underlying t=some (.map kt vt):=by
 unfold kX at h
 split at h
 ·rename_i k e hu;cases h;exact hu
 ·cases h
theorem IQ (S:aD P w I β hp B M w0) {ok:Bool} {v:Value} {x:V} {b:Bool} {r:R} {rd:List Nat} {res:Result Value} (hv:ah P w I β hp v x)
  (hr:res= .ok (if ok then .tuple #[v,.bool b] else v) w) (h:(C7 ok x b).run C hp=some (r,rd)):dj P res w I β hp B M w0 r:=by
 unfold C7 at h
 obtain rfl:=aI h
 cases ok with
 | false=>exact .same S hr hv
 | true=>
  refine .same S hr (.bh rfl fun j u y hu hy=> ?_)
  match j,hu,hy with
  | 0,hu,hy=>simp at hu hy;subst hu;subst hy;exact hv
  | 1,hu,hy=>simp at hu hy;subst hu;subst hy;exact .bool
  | j+2,hu,hy=>simp at hy
theorem Z2 (S:aD P w I β hp B M w0) {t kt vt:TypeId} (ht:kX P t=some (kt,vt)) {m k:Value} {mx kx:V} {ok:Bool} {r:R} {rd:List Nat} (hm:ah P w I β hp m mx) (hk:ah P w I β hp k kx)
  (h:(HD P t mx kx ok).run C hp=some (r,rd)):dj P ((Instr.lookup t m k ok).run P w) w I β hp B M w0 r:=by
 unfold HD at h
 rw[ht] at h
 simp only at h
 cases hz:C6 P vt with
 | none=>rw[hz] at h;cases h
 | some z=>
  rw[hz] at h
  obtain ⟨hc,h'⟩:=aE h
  clear h
  have h:=h'
  clear h'
  simp only[Bool.and_eq_true] at hc
  obtain ⟨pq,y8,DZ⟩:=hc
  have hu:=IP ht
  have wj:=hk.Pm pq
  have K:=IL pq
  obtain ⟨l,hl⟩:=DX pq wj
  obtain ⟨zv,Po,Pp⟩:=Z1 hz w
  cases mx<;>simp only at h<;>first|(cases h;done)|skip
  ·rename_i t' id
   obtain ⟨jW,h'⟩:=aE h
   clear h
   have h:=h'
   clear h'
   rw[Nat.beq_eq] at jW
   subst jW
   obtain ⟨l2,h'⟩:=run_get h
   clear h
   have h:=h'
   clear h'
   cases ab:hp id with
   | none=>rw[ab] at h;cases h
   | some blk=>
    rw[ab] at h
    cases blk<;>simp only at h<;>first|(cases h;done)|skip
    rename_i t2 es
    obtain ⟨jW,h'⟩:=aE h
    clear h
    have h:=h'
    clear h'
    rw[Nat.beq_eq] at jW
    subst jW
    cases hm with
    | ic hd=>rw[ab] at hd;cases hd
    | @bX _ _ b aH hd hb=>
     rw[ab] at hd
     cases hd
     have hr:=S.h.rel id _ ab
     cases hr with
     | @map _ Pq Pr _ b' clock E fV ax hh hs hI hx hn=>
      rw[hb] at ax;cases ax
      rw[hu] at fV;cases fV
      rcases Pj hs hx hn pq wj w with ⟨h1,_,h3,h4,_⟩|⟨j,e,k',y,h1,_,_,_,_,_,h6,h7,h3,h4,_⟩
      ·rw[h3,h4,yP DZ] at h
       refine IQ S (jb.IN y8 DZ Pp) ?_ h
       unfold Instr.lookup
       simp only[Sem.run_bind,run_underlying hu,Result.andThen_ok,Go.MapKept.run_getObj_map hh,Sem.run_pure,K.check w E.isEmpty hl,h1,Po]
      ·rw[h3,h4,yP h6] at h
       refine IQ S (jb.IN y8 h6 h7) ?_ h
       unfold Instr.lookup
       simp only[Sem.run_bind,run_underlying hu,Result.andThen_ok,Go.MapKept.run_getObj_map hh,Sem.run_pure,K.check w E.isEmpty hl,h1]
  ·rename_i t'
   obtain ⟨jW,h⟩:=aE h
   cases hm
   rw[yP DZ] at h
   refine IQ S (jb.IN y8 DZ Pp) ?_ h
   have hf:(Instr.findKey kt k []).run P w= .ok none w:=by
    rcases K.find w hl [] (by simp) with ⟨h1,_⟩|⟨j,e,_,h2,_⟩
    ·exact h1
    ·simp at h2
   unfold Instr.lookup
   simp[run_underlying hu,K.check w true hl,hf,Po]
theorem Z3 (S:aD P w I β hp B M w0) {t:TypeId} {nb:Nat} {r:R} {rd:List Nat} (h:(Rd.aA (kX P t).isSome (iX nb (.map t []) (.bX t nb) [])).run C hp=some (r,rd)):
  dj P ((Instr.makeMap t none).run P w) w I β hp B M w0 r:=by
 obtain ⟨ht,h⟩:=aE h
 obtain ⟨hn,rfl⟩:=mY h
 obtain ⟨⟨kt,vt⟩,ht⟩:=Option.isSome_iff_exists.1 ht
 have hu:=IP ht
 have cW: ¬I w.heap.size:=fun h=>Nat.lt_irrefl _ (S.h.jt _ h)
 have fb:(w.alloc (.map #[] 0)).heap[w.heap.size]? =some (.map #[] 0):=heap_alloc_new w _
 obtain ⟨a1,a2⟩:=yL S (w':=w.alloc (.map #[] 0)) (blk:= .map t []) (b:=w.heap.size) hn (fun aB blk' h ho=>Nat.lt_irrefl _ (S.h.lt h ho)) cW
  (fun b' _ aR=>heap_alloc_old w _ b' aR) (by simp) ⟨rfl,rfl⟩ (.inr S.size) (fun b' h=>(Option.some.inj (h.flat (by simp))).symm)
  (fun _=> .map hu rfl fb rfl cW (fun j e x he _=>by simp at he) (by simp))
 exact ⟨_,_,_,_,Go.RowKit.run_makeMap t w,a1,a2,.bX (dd _ _ _) (dd _ _ _)⟩
theorem Ps (S:aD P w I β hp B M w0) {t kt vt:TypeId} (ht:kX P t=some (kt,vt)) {m k v:Value} {mx kx vx:V} {r:R} {rd:List Nat} (hm:ah P w I β hp m mx) (hk:ah P w I β hp k kx) (hv:ah P w I β hp v vx)
  (h:(C8 P t mx kx vx).run C hp=some (r,rd)):pd P ((Instr.mapUpdate t m k v).run P w) w I β hp B M w0 r:=by
 unfold C8 at h
 rw[ht] at h
 obtain ⟨hc,h'⟩:=aE h
 clear h
 have h:=h'
 clear h'
 simp only[Bool.and_eq_true] at hc
 obtain ⟨pq,y8,tR⟩:=hc
 have hu:=IP ht
 have wj:=hk.Pm pq
 have vW:=ah.Z0 y8 tR hv
 have K:=IL pq
 obtain ⟨l,hl⟩:=DX pq wj
 cases mx<;>simp only at h<;>first|(cases h;done)|skip
 rename_i t' id
 obtain ⟨jW,h'⟩:=aE h
 clear h
 have h:=h'
 clear h'
 rw[Nat.beq_eq] at jW
 subst jW
 obtain ⟨l2,h'⟩:=run_get h
 clear h
 have h:=h'
 clear h'
 cases ab:hp id with
 | none=>rw[ab] at h;cases h
 | some blk=>
  rw[ab] at h
  cases blk<;>simp only at h<;>first|(cases h;done)|skip
  rename_i t2 es
  obtain ⟨jW,h'⟩:=aE h
  clear h
  have h:=h'
  clear h'
  rw[Nat.beq_eq] at jW
  subst jW
  obtain rfl:=aI h
  cases hm with
  | ic hd=>rw[ab] at hd;cases hd
  | @bX _ _ b aH hd hb=>
   rw[ab] at hd
   cases hd
   have hr:=S.h.rel id _ ab
   cases hr with
   | @map _ Pq Pr _ b' clock E fV ax hh hs hI hx hn=>
    rw[hb] at ax;cases ax
    rw[hu] at fV;cases fV
    have aR:b<w.heap.size:=(Array.getElem?_eq_some_iff.1 hh).1
    have fin: ∀(E':Array MapEntry) (y9:Nat),(Instr.mapUpdate t (.map (some b)) k v).run P w= .ok () {w with heap:=w.heap.setIfInBounds b (.map E' y9)}→E'.size=(e8 kx vx es).length→
      (∀(j:Nat) (e:MapEntry) (x:V),E'[j]? =some e→(e8 kx vx es)[j]? =some x→Dm P kt vt e x)→E'.toList.Pairwise (fun a b=>a.key≠b.key)→
      pd P ((Instr.mapUpdate t (.map (some b)) k v).run P w) w I β hp B M w0 ⟨.undef,[(id,.map t (e8 kx vx es))]⟩:=by
     intro E' y9 dh si cC IS
     have fb:({w with heap:=w.heap.setIfInBounds b (.map E' y9)}:World).heap[b]? =some (.map E' y9):=by simp[aR]
     obtain ⟨a1,a2⟩:=Dw S (w':={w with heap:=w.heap.setIfInBounds b (.map E' y9)}) (blk':= .map t (e8 kx vx es)) ab (by simp) rfl hb hI (by simp)
      (fun b' ax=>by simp[Array.getElem?_setIfInBounds,Ne.symm ax]) (by simp only[bsize,fb,hh]) (by simp) ⟨rfl,rfl⟩ (fun _=> .map hu rfl fb si hI cC IS)
     exact ⟨_,I,β,dh,a1,a2,rfl⟩
    rcases Pj hs hx hn pq wj w with ⟨h1,h2,_,_,h5⟩|⟨j,e,k',y,h1,hE,Pt,hes,Z4,Z5,_,_,_,_,h5⟩
    ·have e5:=h5 vx
     refine fin (E.push {key:=k,val:=v,born:=clock}) (clock+1) ?_ (by rw[e5];simp[hs]) (fun j e x he ql=> ?_) ?_
     ·unfold Instr.mapUpdate
      simp only[Sem.run_bind,run_underlying hu,Result.andThen_ok,Go.MapKept.run_getObj_map hh,K.check w false hl,h1,Go.MapKept.run_setObj_map _ hh]
     ·rw[e5] at ql
      rw[Array.getElem?_push] at he
      split at he
      ·rename_i hj
       rw[List.getElem?_append_right (by omega),hj,hs,Nat.sub_self] at ql
       simp at he ql
       subst he;subst ql
       exact ⟨kx,vx,rfl,pq,wj,tR,vW⟩
      ·have hj:j<E.size:=(Array.getElem?_eq_some_iff.1 he).1
       rw[List.getElem?_append_left (by omega)] at ql
       exact hx j e x he ql
     ·rw[Array.toList_push,List.pairwise_append]
      refine ⟨hn,by simp,fun a ha b' ax=> ?_⟩
      simp only[List.mem_singleton] at ax
      subst ax
      exact h2 a ha
    ·have e5:=h5 vx
     have hj:j<E.size:=(Array.getElem?_eq_some_iff.1 hE).1
     refine fin (E.modify j fun e=>{e with key:=k,val:=v}) clock ?_ (by rw[e5];simp[hs]) (fun i e' x he gy=> ?_) ?_
     ·have bP:=K.stays w hl
      unfold Instr.mapUpdate
      simp only[Sem.run_bind,run_underlying hu,Result.andThen_ok,Go.MapKept.run_getObj_map hh,K.check w false hl,h1]
      simp only[hE,Option.map_some,Option.getD_some,Pt,bP,Result.andThen_ok,Go.MapKept.run_setObj_map _ hh]
     ·rw[e5] at gy
      rw[Array.getElem?_modify] at he
      rw[List.getElem?_set] at gy
      split at he
      ·rename_i tS
       subst tS
       rw[if_pos rfl,if_pos (by omega)] at gy
       rw[hE] at he
       simp at he gy
       subst he;subst gy
       exact ⟨k',vx,rfl,Z4,Z5,tR,vW⟩
      ·rename_i tS
       rw[if_neg tS] at gy
       exact hx i e' x he gy
     ·have Pu: ∀i (h1:i<(E.modify j fun e=>{e with key:=k,val:=v}).toList.length) (h2:i<E.toList.length),((E.modify j fun e=>{e with key:=k,val:=v}).toList[i]).key=(E.toList[i]).key:=by
       intro i h1 h2
       simp only[Array.getElem_toList,Array.getElem_modify]
       split
       ·rename_i tS
        subst tS
        have:=(Array.getElem?_eq_some_iff.1 hE).2
        rw[this,Pt]
       ·rfl
      rw[List.pairwise_iff_getElem] at hn⊢
      intro i i' h1 h2 iL
      have g1:i<E.toList.length:=by simpa using h1
      have g2:i'<E.toList.length:=by simpa using h2
      rw[Pu i h1 g1,Pu i' h2 g2]
      exact hn i i' g1 g2 iL
theorem Z6 (S:aD P w I β hp B M w0) {t ty kt vt:TypeId} {v:Value} {x:V} {r:R} {rd:List Nat} (hu:P.underlying t=some (.map kt vt)) (hv:ah P w I β hp v x)
  (h:(C9 x).run C hp=some (r,rd)):dj P ((Builtin.len_ #[t] ty #[v]).run P w) w I β hp B M w0 r:=by
 unfold C9 at h
 cases x<;>simp only at h<;>first|(cases h;done)|skip
 ·rename_i t' id
  obtain ⟨l2,h'⟩:=run_get h
  clear h
  have h:=h'
  clear h'
  cases ab:hp id with
  | none=>rw[ab] at h;cases h
  | some blk=>
   rw[ab] at h
   cases blk<;>simp only at h<;>first|(cases h;done)|skip
   rename_i t2 es
   obtain rfl:=aI h
   cases hv with
   | ic hd=>rw[ab] at hd;cases hd
   | @bX _ _ b aH hd hb=>
    rw[ab] at hd
    cases hd
    have hr:=S.h.rel id _ ab
    cases hr with
    | @map _ Pq Pr _ b' clock E fV ax hh hs hI hx hn=>
     rw[hb] at ax;cases ax
     refine .same S (v:= .int .i64 E.size) (by simp[Builtin.len_,run_underlying hu,Go.MapKept.run_getObj_map hh,goInt]) ?_
     rw[hs]
     exact .int
 ·obtain rfl:=aI h
  cases hv
  exact .same S (v:= .int .i64 0) (by simp[Builtin.len_,run_underlying hu,goInt]) .int
theorem ah.IT {v:Value} {t:TypeId} (h:ah P w I β hp v (.dF t)):v= .map none:=by cases h;rfl
theorem ah.Z7 {v:Value} {t t':TypeId} {id:Nat} {es:List V} (h:ah P w I β hp v (.bX t id)) (ab:hp id=some (.map t' es)): ∃b,v= .map (some b):=by
 cases h with
 | ic h=>rw[ab] at h;cases h
 | bX h hb=>exact ⟨_,rfl⟩
theorem Pv (S:aD P w I β hp B M w0) {op:BinOp} {t:TypeId} {a:Option Nat} {r:R} {rd:List Nat} (x y:Operand)
  (h:(C2 P op t a.isNone).run C hp=some (r,rd)):dj P ((do eqGuard op t x y (.map a) (.map none);binOp op t (.map a) (.map none)).run P w) w I β hp B M w0 r:=by
 unfold C2 at h
 split at h
 case h_2=>cases h
 rename_i kt vt hu
 have he:(Op.equal t (.map a) (.map none)).run P w= .ok a.isNone w:=by
  show (Op.equalIn (9999+1) t (.map a) (.map none)).run P w=_
  rw[Op.equalIn]
  cases a<;>simp[Sem.run_bind,run_underlying hu,Result.andThen_ok,Sem.run_pure]
 cases op<;>simp only at h<;>first|(cases h;done)|skip
 ·obtain rfl:=aI h
  exact .same S (by simp[eqGuard,binOp,he]) .bool
 ·obtain rfl:=aI h
  exact .same S (by simp[eqGuard,binOp,he]) .bool
end
end Go.AM
namespace Go.AM
section
variable {P:Program} {w w':World} {I I':Nat→Prop} {β an:Nat→Option Nat} {hp hp':Nat→Option ag} {C:ae} {B:Nat} {M:Nat→Prop} {w0:Start}
theorem Z8 {e:TypeId} (he:P.underlying e=some (.int .u8)) (hc:P.cellsOf e=1) (s:ByteArray): ∀(i j:Nat) (x:V) (t':TypeId),(s.data.toList.map yq)[i]? =some x→(aU P e)[j]? =some t'→j<P.cellsOf e→
  ∃u,(Lib.strCells s)[i*P.cellsOf e+j]? =some u∧Pure P w I t' u (bK P e x j):=by
 intro i j x t' hx ht hj
 have m7:bH P e=false:=by simp[bH,he]
 obtain rfl:j=0:=by omega
 simp only[aU,m7,cond_false,List.getElem?_cons_zero,Option.some.injEq] at ht
 subst ht
 rw[List.getElem?_map] at hx
 cases hb:s.data.toList[i]? with
 | none=>rw[hb] at hx;cases hx
 | some b=>
  rw[hb] at hx
  cases hx
  refine ⟨.int .u8 b.toNat,?_,?_⟩
  ·rw[hc,Nat.mul_one,Nat.add_zero]
   simp only[Lib.strCells,List.getElem?_map,hb,Option.map_some]
  ·simp only[bK,m7,cond_false]
   exact .int he
theorem Z9 (w:World) (t u ty e:TypeId) (i:TypeInfo) (z:Value) (ht:P.underlying t=some (.slice e)) (hu:P.underlying u=some .string) (hi:P.info? e=some i) (hz:i.zero=some z)
  (s:ByteArray) (h0:0<s.size) (DS:(s.size:Int)≤9223372036854775807) (DT:s.size*i.bytes≤281474976710656) (a0:Option Addr):
  (Builtin.append_ #[t,u] ty #[.slice a0 0 0,.string s]).run P w=
   .ok (.slice (some ⟨w.heap.size,0,none⟩) s.size (grownCap w s.size 0 e))
    (w.drew.alloc (.cells (s.data.map (fun b=>Value.int .u8 b.toNat)++Builtin.zeroCells z.cells (grownCap w s.size 0 e-s.size)) e)):=by
 cases a0 with
 | none=>exact run_append_nil_string w t u ty e i z ht hu hi hz s h0 DS DT
 | some b=>
  rw[←run_append_nil_string w t u ty e i z ht hu hi hz s h0 DS DT]
  have hn:s.size≠0:=by omega
  have aaa: ¬(9223372036854775807<(s.size:Int)):=by omega
  have aab: ¬(281474976710656<Builtin.nextslicecap s.size 0*i.bytes):=by rw[nextslicecap_zero h0];omega
  simp[Builtin.append_,run_underlying ht,run_underlying hu,sizeOf,typeInfo,zeroValue,hi,hz,Builtin.lenOf,Builtin.firstCells,hn,aaa,aab,Question.forced,newRow,grownCap,loadCells,loadCellsFrom]
theorem Pw (S:aD P w I β hp B M w0) {t u ty e:TypeId} {nb:Nat} {x:ByteArray} {xs:List V} {i:TypeInfo} {z:Value} (hu:P.underlying t=some (.slice e)) (oq:P.underlying u=some .string) (au:cY P e=true) (hn:hp nb=none)
 (hi:P.info? e=some i) (hz:i.zero=some z) (h3:i.size=P.cellsOf e) (h4:z.cells.size=P.cellsOf e) (wk:i.size=1) (ma:P.bytesOf e=i.bytes) (eP:xs.length*P.bytesOf e≤bC) (jZ:xs.length=x.size) (lY:(Lib.strCells x).length=x.size)
 (da: ∀(i j:Nat) (y:V) (t':TypeId),xs[i]? =some y→(aU P e)[j]? =some t'→j<P.cellsOf e→∃u,(Lib.strCells x)[i*P.cellsOf e+j]? =some u∧Pure P w I t' u (bK P e y j)):
 ∀a0,∃v w' an,(Builtin.append_ #[t,u] ty #[.slice a0 0 0,.string x]).run P w= .ok v w'∧Le P w I β hp w' I an (aG hp nb (some (.arr e xs false)))∧aD P w' I an (aG hp nb (some (.arr e xs false))) B M w0∧
  ah P w' I an (aG hp nb (some (.arr e xs false))) v (.whole e nb):=by
 intro a0
 have tO:=vO au
 have hlen:xs.length≤2^45:=by
  have:xs.length*1≤xs.length*P.bytesOf e:=Nat.mul_le_mul_left _ tO
  simp only[bC] at eP
  omega
 by_cases h0:x.size=0
 ·have gB:xs=[]:=List.eq_nil_of_length_eq_zero (by omega)
  subst gB
  obtain ⟨a1,a2⟩:=Du S e hn
  have hf:=Lib.run_firstCells_string (P:=P) w 1 x
  rw[h0] at hf
  have qp:Lib.strCells x=[]:=List.eq_nil_of_length_eq_zero (by omega)
  exact ⟨.slice a0 0 0,_,_,by cases a0<;>simp[storeCells,qp,Builtin.append_,run_underlying hu,run_underlying oq,sizeOf,typeInfo,hi,wk,Builtin.lenOf,h0,hf],a1,a2,.dU (dd _ _ _) (dd _ _ _)⟩
 ·have dh:=Z9 (P:=P) w t u ty e i z hu oq hi hz x (by omega) (by omega) (by rw[←ma,←jZ];simp only[bC] at eP;omega) a0
  have e1:(x.data.map fun b=>Value.int .u8 b.toNat)=(Lib.strCells x).toArray:=by
   apply Array.ext'
   simp[Lib.strCells]
  rw[e1,←jZ] at dh
  have ph:=grownCap_ge w xs.length 0 e
  have tP:grownCap w xs.length 0 e≤maxLen:=grownCap_le_maxLen w xs.length 0 e (by simp only[maxLen];omega)
  obtain ⟨n1,n2,n3⟩:=wg S.drew (nb:=nb) (cap:=grownCap w xs.length 0 e) (es:=xs) (C0:=(Lib.strCells x).toArray++Builtin.zeroCells z.cells (grownCap w xs.length 0 e-xs.length)) au hn
   (by
    have:(Lib.strCells x).length=xs.length*P.cellsOf e:=by rw[lY,jZ,←h3,wk,Nat.mul_one]
    simp only[Array.size_append,List.size_toArray,size_zeroCells,h4,this,←Nat.add_mul];congr 1;omega) ph tP
   (fun i' j y t' hy ht hj=>by
    obtain ⟨u,fV,hp⟩:=da i' j y t' hy ht hj
    have aR:=(List.getElem?_eq_some_iff.1 fV).1
    refine ⟨u,?_,Pure.drew hp⟩
    rw[Array.getElem?_append_left (by simpa using aR)]
    simpa using fV)
  exact ⟨_,_,_,dh,(Le.drew w I β hp).trans n1,n2,n3⟩
theorem aac (S:aD P w I β hp B M w0) {t u ty e:TypeId} {nb:Nat} {s:Value} {sv:V} {x:ByteArray} {r:R} {rd:List Nat} (hu:P.underlying t=some (.slice e)) (oq:P.underlying u=some .string) (he:P.underlying e=some (.int .u8)) (hs:ah P w I β hp s sv)
  (h:(vD P nb e sv (.list e (x.data.toList.map yq))).run C hp=some (r,rd)):dj P ((Builtin.append_ #[t,u] ty #[s,.string x]).run P w) w I β hp B M w0 r:=by
 unfold vD at h
 obtain ⟨au,h⟩:=aE h
 simp only[rP] at h
 obtain ⟨_,h⟩:=aE h
 have m7:bH P e=false:=by simp[bH,he]
 have dW:P.cellsOf e=1:=by rw[←(jV au).1,yG m7];rfl
 obtain ⟨i,z,hi,hz,h3,h4,_⟩:=jX au
 have wk:i.size=1:=by rw[h3,dW]
 have tO:=vO au
 have ma:P.bytesOf e=i.bytes:=by simp[Program.bytesOf,hi]
 have D0:=Z8 (P:=P) (w:=w) (I:=I) he dW x
 have jZ:(x.data.toList.map yq).length=x.size:=by simp
 have lY:(Lib.strCells x).length=x.size:=Lib.strCells_length x
 have h1:=Lib.strCells_oneCell x
 generalize gB:x.data.toList.map yq=xs at*
 cases sv with
 | nilS e'=>
  obtain ⟨hc,h⟩:=aE h
  simp only[Bool.and_eq_true,Nat.beq_eq,Nat.ble_eq] at hc
  obtain ⟨hn,rfl⟩:=mY h
  obtain ⟨a0,rfl⟩: ∃a0,s= .slice a0 0 0:=by cases hs;exact ⟨_,rfl⟩
  obtain ⟨v,w',an,a1,a2,a3,a4⟩:=Pw S hu oq au hn hi hz h3 h4 wk ma hc.2 jZ lY D0 _
  exact ⟨v,w',I,an,a1,a2,a3,a4⟩
 | whole e' id=>
  obtain ⟨l,h⟩:=run_get h
  cases ab:hp id with
  | none=>rw[ab] at h;cases h
  | some blk=>
   rw[ab] at h
   cases blk with
   | dead=>cases h
   | var _=>cases h
   | nest _ _ _=>cases h
   | map _ _=>cases h
   | arr dR es fz=>
    cases fz with
    | true=>cases h
    | false=>
     obtain ⟨hc,h⟩:=aE h
     obtain ⟨hn,rfl⟩:=mY h
     simp only[Bool.and_eq_true,Nat.beq_eq,Nat.ble_eq] at hc
     obtain ⟨IB,IC,eP⟩:=hc
     subst IB
     subst IC
     have bO:nb≠id:=fun e=>by rw[e,ab] at hn;cases hn
     obtain ⟨k1,k2⟩:=Dv S ab
     have je:aG hp id (some ag.dead) nb=none:=by rw[eB _ _ bO];exact hn
     cases hs with
     | ey hd=>rw[ab] at hd;cases hd
     | eH hd=>rw[ab] at hd;cases hd
     | dU hd hb=>
      rw[ab] at hd
      cases hd
      simp only[List.length_nil,Nat.zero_add] at eP
      obtain ⟨v,w',an,a1,a2,a3,a4⟩:=Pw k2 hu oq au je hi hz h3 h4 wk ma eP jZ lY D0 _
      exact ⟨v,w',I,an,a1,k1.trans a2,a3,a4⟩
     | @whole _ _ aH mM b cap hd hb aZ cd hm=>
      rw[ab] at hd
      cases hd
      have hr:=S.h.rel id _ ab
      cases hr with
      | dV ax=>rw[ax] at hb;cases hb
      | @arr _ _ _ b' Ca _ ax hh pk hf ez mb=>
       rw[hb] at ax
       cases ax
       have hlen:es.length+xs.length≤2^45:=by
        have:(es.length+xs.length)*1≤(es.length+xs.length)*P.bytesOf e:=Nat.mul_le_mul_left _ tO
        simp only[bC] at eP
        omega
       rw[mP hh] at aZ
       have qj: ∀aB blk',aG hp id (some ag.dead) aB=some blk'→¬bA P w (β aB) blk' b:=by
        intro aB blk' h1 h2
        by_cases iL:aB=id
        ·subst iL;rw[dd] at h1;cases h1;exact h2.alive rfl
        ·rw[eB _ _ iL] at h1
         exact iL (S.h.inj aB id blk' _ b h1 ab h2 (.root (by simp) hb))
       have ID:=S.h.rW id _ b ab (by simp) hb
       have lg:es.length*P.cellsOf e≤Ca.toList.length:=by simpa using pk
       have Px:(Lib.strCells x).length=xs.length*P.cellsOf e:=by rw[lY,jZ,dW,Nat.mul_one]
       by_cases sh:es.length+xs.length≤cap
       ·have y4:es.length*P.cellsOf e+(Lib.strCells x).length≤Ca.size:=by rw[Px,←Nat.add_mul,←aZ];exact Nat.mul_le_mul_right _ sh
        have dh:=Lib.run_append_room_string (P:=P) w t u ty e i hu oq hi wk b es.length cap Ca hh x (by rw[←jZ];exact sh) (by rw[←lY];rw[dW,Nat.mul_one] at y4;exact y4)
        have da:=DQ (P:=P) (w:=w) (I:=I) (n:=es.length) (c:=Ca.toList) rfl (fun i j y t' a b c=>by
         obtain ⟨v,hv,hp⟩:=mb i j y t' a b c
         exact ⟨v,by simpa using hv,hp⟩) D0 lg (Ca.toList.drop (es.length*P.cellsOf e+(Lib.strCells x).length))
        generalize v9:(Ca.toList.take es.length++Lib.strCells x++Ca.toList.drop (es.length+x.size)).toArray=C' at dh
        have om:C'.size=Ca.size:=by
         rw[dW,Nat.mul_one] at y4
         rw[←v9];simp;omega
        have Py:(w.setRow b C').heap[b]? =some (.cells C' e (0,0)):=setRow_heap w b Ca C' e _ hh
        obtain ⟨a1,a2⟩:=yL k2 (blk:= .arr e (es++xs) false) (w':=w.setRow b C') je qj (ez rfl) (fun b' h _=>setRow_other w b b' _ h) (by simp) ⟨rfl,rfl⟩ ID
         (fun b' h=>(Option.some.inj (h.flat (by simp))).symm) (fun hle=> .arr au rfl Py (by rw[om,←aZ];exact Nat.mul_le_mul_right _ (by simpa using sh)) (fun h=>by cases h) (fun _=>ez rfl) fun i j y t' a b c=>by
          obtain ⟨v,hv,hp⟩:=da i j y t' a b c
          refine ⟨v,?_,hp.mono hle.dz hle.cg⟩
          rw[←v9,List.getElem?_toArray]
          rw[dW] at hv⊢
          simpa[lY] using hv)
        refine ⟨_,_,_,_,dh,k1.trans a1,a2,?_⟩
        have a3:=ah.whole (P:=P) (w:=w.setRow b C') (I:=I) (β:=aG β nb (some b)) (hp:=aG (aG hp id (some .dead)) nb (some (.arr e (es++xs) false))) (cap:=cap) (b:=b) (es:=es++xs) (fz:=false) (id:=nb) (e:=e) (dd _ _ _) (dd _ _ _) (by rw[mP Py,om,aZ]) (by simpa using sh) hm
        rw[List.length_append,jZ] at a3
        exact a3
       ·have hold: ∀(j:Nat) v,(Ca.toList.take (es.length*P.cellsOf e))[j]? =some v→w.cell? ((⟨b,0,none⟩:Addr).add j)=some v:=by
         intro j v hj
         have dg:=(List.getElem?_eq_some_iff.1 hj).1
         have b6:j<es.length*P.cellsOf e:=by rw[List.length_take] at dg;omega
         rw[List.getElem?_take_of_lt b6] at hj
         rw[mV,cell?_cells hh,Nat.zero_add]
         simpa using hj
        have dh:=Lib.run_append_grow_string (P:=P) w t u ty e i z hu oq hi hz ⟨b,0,none⟩ es.length cap (Ca.toList.take (es.length*P.cellsOf e)) (by rw[h3];simp;omega) hold x (by omega) (by omega)
         (growslice_fits (by omega) (by rw[←ma,←jZ];simp only[bC] at eP;omega))
        rw[←jZ] at dh
        have ph:=grownCap_ge w (es.length+xs.length) cap e
        have tP:grownCap w (es.length+xs.length) cap e≤maxLen:=grownCap_le_maxLen w _ cap e (by simp only[maxLen];omega)
        have da:=DQ (P:=P) (w:=w) (I:=I) (n:=es.length) (c:=Ca.toList) rfl (fun i j y t' a b c=>by
         obtain ⟨v,hv,hp⟩:=mb i j y t' a b c
         exact ⟨v,by simpa using hv,hp⟩) D0 lg (Builtin.zeroCells z.cells (grownCap w (es.length+xs.length) cap e-(es.length+xs.length))).toList
        obtain ⟨n1,n2,n3⟩:=wg k2.drew (nb:=nb) (cap:=grownCap w (es.length+xs.length) cap e) (es:=es++xs)
         (C0:=(Ca.toList.take (es.length*P.cellsOf e)).toArray++(Lib.strCells x).toArray++Builtin.zeroCells z.cells (grownCap w (es.length+xs.length) cap e-(es.length+xs.length))) au je
         (by
          have e1:(Ca.toList.take (es.length*P.cellsOf e)).length=es.length*P.cellsOf e:=by simp;omega
          simp only[Array.size_append,List.size_toArray,size_zeroCells,h4,Px,e1,←Nat.add_mul];congr 1;omega) (by simpa using ph) tP
         (fun i j y t' a b c=>by
          obtain ⟨v,hv,hp⟩:=da i j y t' a b c
          refine ⟨v,?_,Pure.drew hp⟩
          rw[←Array.getElem?_toList]
          simpa using hv)
        rw[List.length_append] at n3
        exact ⟨_,_,_,_,dh,(k1.trans (Le.drew w I β _)).trans n1,n2,n3⟩
 | _=>cases h
end
section
variable {P:Program} {w w':World} {I I':Nat→Prop} {β an:Nat→Option Nat} {hp hp':Nat→Option ag} {C:ae} {B:Nat} {M:Nat→Prop} {w0:Start}
theorem Pz: ∀(ns:List Int) (s:ByteArray),(ns.foldl (fun r n=>r.push (UInt8.ofNat n.toNat)) s).data.toList=s.data.toList++ns.map fun n=>UInt8.ofNat n.toNat
 | [],s=>by simp
 | n::ns,s=>by
  simp only[List.foldl_cons,Pz ns,List.map_cons]
  simp[ByteArray.push]
theorem PA {e:TypeId} {u:Value} {x:V} (he:P.underlying e=some (.int .u8)) (hp:Pure P w I e u x):u= .int .u8 x.toInt:=by
 cases hp with
 | int hp'=>rw[he] at hp';cases hp';rfl
 | bool hp'=>rw[he] at hp';cases hp'
 | str hp'=>rw[he] at hp';cases hp'
 | nil hp'=>rw[he] at hp';cases hp'
 | emp hp'=>rw[he] at hp';cases hp'
 | list _ hp'=>rw[he] at hp';cases hp'
theorem aad (S:aD P w I β hp B M w0) {src dst e:TypeId} {v:Value} {x:V} {r:R} {rd:List Nat} (hs:P.underlying src=some (.slice e)) (he:P.underlying e=some (.int .u8)) (hd:P.underlying dst=some .string)
  (hv:ah P w I β hp v x) (h:(Rd.aA (cY P e) (rP e x fun es=> .ret ⟨.str (iY es),[]⟩)).run C hp=some (r,rd)):dj P ((convert src dst v).run P w) w I β hp B M w0 r:=by
 obtain ⟨au,h⟩:=aE h
 obtain ⟨xs,hx,l,h⟩:=DP S.h.rel au hv h
 obtain rfl:=aI h
 have m7:bH P e=false:=by simp[bH,he]
 have h1:P.cellsOf e=1:=by rw[←(jV au).1,yG m7];rfl
 rcases hx with ⟨⟨a,rfl⟩,rfl⟩|⟨a,c,news,hr⟩
 ·refine .same S (v:= .string .empty) ?_ (.str (by simp[iY]))
  rw[run_convert_bytes_string w src dst e a 0 0 hs he hd]
  cases a<;>simp[Conv.bytesToString,loadCells,loadCellsFrom]
 ·have DR:news=(xs.map V.toInt).map (Value.int .u8):=by
   apply List.ext_getElem?
   intro j
   by_cases hj:j<xs.length
   ·obtain ⟨u,hu,hp⟩:=hr.el j 0 xs[j] e (List.getElem?_eq_getElem hj) (by simp[aU,m7]) (by omega)
    rw[h1] at hu
    simp only[bK,m7,cond_false] at hp
    have fV:news[j]? =some u:=by simpa using hu
    rw[fV]
    have:=PA he hp
    simp[hj,←this]
   ·have hl:news.length=xs.length:=by rw[hr.len,h1];simp
    rw[List.getElem?_eq_none (by omega),List.getElem?_eq_none (by simp;omega)]
  have IU:=run_loadCells_list (P:=P) w a news hr.cell
  have hl:news.length=xs.length:=by rw[hr.len,h1];simp
  rw[hl] at IU
  rw[DR] at IU
  refine .same S (v:= .string ((xs.map V.toInt).foldl (fun r n=>r.push (UInt8.ofNat n.toNat)) ByteArray.empty)) ?_ (.str ?_)
  ·rw[hr.val,run_convert_bytes_string w src dst e _ _ _ hs he hd]
   exact run_bytesToString w a xs.length c (xs.map V.toInt) IU
  ·rw[Pz]
   simp[iY]
theorem ah.D1 {v:Value} (h:ah P w I β hp v .dE):v= .pointer none:=by cases h;rfl
section
variable (w:World)
theorem aae (t e:TypeId) (a:Addr) (h:P.underlying t=some (.pointer e)):(binOp .eql t (.pointer (some a)) (.pointer none)).run P w= .ok (.bool false) w:=by
 have h0: ∀d:Nat,(Op.equalIn (d+1) t (.pointer (some a)) (.pointer none)).run P w= .ok false w:=fun d=>by simp[Op.equalIn,run_underlying h]
 simp only[binOp]
 simp[Op.equal,Op.maxDepth,h0 9999]
theorem aaf (t e:TypeId) (a:Addr) (h:P.underlying t=some (.pointer e)):(binOp .neq t (.pointer (some a)) (.pointer none)).run P w= .ok (.bool (!false)) w:=by
 have h0: ∀d:Nat,(Op.equalIn (d+1) t (.pointer (some a)) (.pointer none)).run P w= .ok false w:=fun d=>by simp[Op.equalIn,run_underlying h]
 simp only[binOp]
 simp[Op.equal,Op.maxDepth,h0 9999]
theorem aag (t e:TypeId) (a:Addr) (h:P.underlying t=some (.pointer e)):(binOp .eql t (.pointer none) (.pointer (some a))).run P w= .ok (.bool false) w:=by
 have h0: ∀d:Nat,(Op.equalIn (d+1) t (.pointer none) (.pointer (some a))).run P w= .ok false w:=fun d=>by simp[Op.equalIn,run_underlying h]
 simp only[binOp]
 simp[Op.equal,Op.maxDepth,h0 9999]
theorem aah (t e:TypeId) (a:Addr) (h:P.underlying t=some (.pointer e)):(binOp .neq t (.pointer none) (.pointer (some a))).run P w= .ok (.bool (!false)) w:=by
 have h0: ∀d:Nat,(Op.equalIn (d+1) t (.pointer none) (.pointer (some a))).run P w= .ok false w:=fun d=>by simp[Op.equalIn,run_underlying h]
 simp only[binOp]
 simp[Op.equal,Op.maxDepth,h0 9999]
theorem aai (t e:TypeId) (h:P.underlying t=some (.pointer e)):(binOp .eql t (.pointer none) (.pointer none)).run P w= .ok (.bool true) w:=by
 have h0: ∀d:Nat,(Op.equalIn (d+1) t (.pointer none) (.pointer none)).run P w= .ok true w:=fun d=>by simp[Op.equalIn,run_underlying h]
 simp only[binOp]
 simp[Op.equal,Op.maxDepth,h0 9999]
theorem aaj (t e:TypeId) (h:P.underlying t=some (.pointer e)):(binOp .neq t (.pointer none) (.pointer none)).run P w= .ok (.bool (!true)) w:=by
 have h0: ∀d:Nat,(Op.equalIn (d+1) t (.pointer none) (.pointer none)).run P w= .ok true w:=fun d=>by simp[Op.equalIn,run_underlying h]
 simp only[binOp]
 simp[Op.equal,Op.maxDepth,h0 9999]
end
theorem D2 (S:aD P w I β hp B M w0) {op:BinOp} {t:TypeId} {b:Bool} {x y:Operand} {v1 v2:Value} {r:R} {rd:List Nat} (h:(ptrEq P op t b).run C hp=some (r,rd)) (hg:(eqGuard op t x y v1 v2).run P w= .ok () w)
  (he: ∀e j,P.underlying t=some (.pointer e)→P.info? e=some j→(binOp .eql t v1 v2).run P w= .ok (.bool b) w∧(binOp .neq t v1 v2).run P w= .ok (.bool (!b)) w):
  dj P ((do eqGuard op t x y v1 v2;binOp op t v1 v2:Sem Value).run P w) w I β hp B M w0 r:=by
 unfold ptrEq at h
 cases hu:P.underlying t with
 | none=>rw[hu] at h;cases h
 | some d=>
  rw[hu] at h
  cases d<;>simp only at h<;>first|(cases h;done)|skip
  rename_i e
  obtain ⟨h1,h2⟩:=aE h
  obtain ⟨j,hj⟩:=Option.isSome_iff_exists.1 h1
  obtain ⟨k1,k2⟩:=he e j hu hj
  cases op<;>simp only at h2<;>first|(cases h2;done)|skip
  ·obtain rfl:=aI h2
   exact .same S (by simp only[Sem.run_bind,hg,Result.andThen_ok,k1]) .bool
  ·obtain rfl:=aI h2
   exact .same S (by simp only[Sem.run_bind,hg,Result.andThen_ok,k2]) .bool
theorem aak {b n:Nat}:(∀b',b'≠b→(w.freeze ⟨b,0,none⟩ n).heap[b']? =w.heap[b']?)∧bsize (w.freeze ⟨b,0,none⟩ n) b=bsize w b∧w.heap.size≤(w.freeze ⟨b,0,none⟩ n).heap.size∧(w.freeze ⟨b,0,none⟩ n).os=w.os∧(w.freeze ⟨b,0,none⟩ n).output=w.output:=by
 unfold World.freeze
 split
 ·exact ⟨fun _ _=>rfl,rfl,Nat.le_refl _,rfl,rfl⟩
 ·refine ⟨fun b' hb=> ?_,?_,by simp,rfl,rfl⟩
  ·simp only[Array.getElem?_modify]
   rw[if_neg (fun e=>hb e.symm)]
  ·simp only[bsize,Array.getElem?_modify,if_true]
   cases w.heap[b]? with
   | none=>rfl
   | some o=>cases o<;>rfl
theorem aal {e:TypeId} (hb:isByte P e=true):P.underlying e=some (.int .u8):=by
 unfold isByte at hb
 split at hb
 ·assumption
 ·cases hb
theorem aam (S:aD P w I β hp B M w0) {ts:Array TypeId} {ty e:TypeId} {v:Value} {id:Nat} {es:List V} {fz:Bool} (hv:ah P w I β hp v (.whole e id)) (ab:hp id=some (.arr e es fz)) (h0:0<es.length):
  dj P ((Builtin.unsafeSliceData_ ts ty #[v]).run P w) w I β hp B M w0 ⟨.ptr id 0 0,[]⟩:=by
 cases hv with
 | ey h=>rw[ab] at h;cases h
 | dU h _=>rw[ab] at h;cases h;simp at h0
 | eH h _ _ _ _=>rw[ab] at h;cases h
 | @whole _ _ aH mM b cap h hb cd hle hm=>
  rw[ab] at h;cases h
  refine .same S (Lib.run_unsafeSliceData_row w ts ty ⟨b,0,none⟩ es.length cap (by omega)) ?_
  have:=ah.ptr (P:=P) (w:=w) (I:=I) (β:=β) (i:=0) (c:=0) ab (by simp) hb
  simpa using this
theorem aan (S:aD P w I β hp B M w0) {t u ty e:TypeId} {vx:Value} {id:Nat} {n:Int} {es:List V} (hu:P.underlying t=some (.pointer e)) (hb:isByte P e=true) (hv:ah P w I β hp vx (.ptr id 0 0))
  (ab:hp id=some (.arr e es false)) (h0:0<n) (hn:n≤es.length) (hm:n.toNat≤th) (dX:(es.take n.toNat).all HM=true):dj P ((Builtin.unsafeString_ #[t,u] ty #[vx,.int .i64 n]).run P w) w I β hp B M w0 ⟨.str (iY (es.take n.toNat)),[(id,.dead)]⟩:=by
 obtain ⟨b,IV,rfl⟩:=hv.gO ab (by simp)
 have he:P.underlying e=some (.int .u8):=by
  unfold isByte at hb
  split at hb
  ·assumption
  ·cases hb
 have m7:bH P e=false:=by simp[bH,he]
 have hr:=S.h.rel id _ ab
 rw[IV] at hr
 cases hr with
 | dV ax=>cases ax
 | @arr _ _ _ b1 Ca au lg hh hs hI cW da=>
  cases lg
  have h1:P.cellsOf e=1:=by rw[←(jV au).1,yG m7];rfl
  have aR:=S.YA ab (by simp) IV
  have hl:(iY (es.take n.toNat)).length=n.toNat:=by simp[iY];omega
  have IS:n=((iY (es.take n.toNat)).length:Nat):=by rw[hl];omega
  have dh:=Lib.run_unsafeString_row (P:=P) w t u ty e hu h1 b Ca.size (by simp[World.shape?,hh]) (iY (es.take n.toNat)) (fun h=>by rw[h] at hl;simp at hl;omega) (by rw[hl];rw[h1] at hs;omega) (by rw[hl];unfold th at hm;omega) (fun j x hx=>by
   have hj:j<n.toNat:=by
    have:=(List.getElem?_eq_some_iff.1 hx).1
    rw[hl] at this;exact this
   have ij:j<es.length:=by omega
   simp only[iY,List.getElem?_map,List.getElem?_take_of_lt hj,List.getElem?_eq_getElem ij,Option.map_some,Option.some.injEq] at hx
   obtain ⟨v,wh,bx⟩:=da j 0 es[j] e (List.getElem?_eq_getElem ij) (by simp[aU,m7]) (by omega)
   rw[h1] at wh
   simp only[bK,m7,cond_false] at bx
   have:=PA he bx
   have hr:=List.all_eq_true.1 dX es[j] (List.mem_of_getElem? (by rw[List.getElem?_take_of_lt hj];exact List.getElem?_eq_getElem ij))
   simp only[HM,Bool.and_eq_true,decide_eq_true_eq] at hr
   have mX:(x.toNat:Int)=es[j].toInt:=by
    rw[←hx]
    have:es[j].toInt.toNat<256:=by omega
    simp only[UInt8.toNat_ofNat']
    omega
   rw[mV,cell?_cells hh,mX]
   rw[show 0+j=j*1+0 by omega,wh,this])
  obtain ⟨f1,f2,f3,f4,f5⟩:=aak (w:=w) (b:=b) (n:=n.toNat)
  obtain ⟨k1,k2⟩:=Dw (w':=w.freeze ⟨b,0,none⟩ n.toNat) S ab (by simp) (blk':= .dead) (by trivial) IV (cW rfl) (by simp) f1 f2 f3 ⟨f4,f5⟩ (fun _=> .dead)
  rw[←IS,hl] at dh
  refine ⟨.string ⟨(iY (es.take n.toNat)).toArray⟩,_,I,β,?_,k1,k2,.str ?_⟩
  ·simpa using dh
  ·rfl
def IW:Op→Bool
 | .call {callee:= .value (.func _),..}=>true
 | .call {callee:= .value (.tmp _),..}=>true
 | .defer _=>true
 | _=>false
theorem pb.val {o:Oper} {a:Act} {s:Sem Value} {r:R} (he:execOp a.eval o=(do Pure.pure (Next.value (←s)))) (h:dj P (s.run P w) w I β hp B M w0 r):pb P ((execOp a.eval o).run P w) w I β hp B M w0 r:=by
 rw[he];exact h.op
theorem aao {A:cH} (S:aD P w I β hp B M w0) (hg:gL P A.aC w I) {a:Act} {sl:Nat→V} (hs:kz P w I β hp a sl) {ix nb:Nat} {o:Oper} (IX:IW o.op=false) {r:R} {rd:List Nat}
  (h:(fE P A sl ix nb o).run C hp=some (r,rd)):pb P ((execOp a.eval o).run P w) w I β hp B M w0 r:=by
 obtain ⟨dst,op,ty,pos,after,guard⟩:=o
 cases op<;>simp only[fE] at h<;>first|(cases h;done)|skip
 case move x=>
  obtain rfl:=aI h
  exact ⟨_,w,I,β,.inl (by simp[execOp]),Le.refl w I β hp,S,hs.ev hg ty x⟩
 case assign x=>
  obtain rfl:=aI h
  exact ⟨_,w,I,β,.inl (by simp[execOp]),Le.refl w I β hp,S,hs.ev hg ty x⟩
 case pick c x y=>
  have hc:=hs.ev hg ty c
  cases tL:aJ P A.aC ty sl c<;>rw[tL] at h hc<;>simp only at h<;>first|(cases h;done)|skip
  rename_i t
  have aap:=hc.jw
  have hx:=hs.ev hg ty x
  have hy:=hs.ev hg ty y
  have fin: ∀z:V,ah P w I β hp (if t then a.eval x else a.eval y) z→pb P ((execOp a.eval ⟨dst,.pick c x y,ty,pos,after,guard⟩).run P w) w I β hp B M w0 ⟨z,[]⟩:=by
   intro z hz
   exact ⟨_,w,I,β,.inl (by simp[execOp,aap,asBool]),Le.refl w I β hp,S,hz⟩
  cases D3:gone (aJ P A.aC ty sl x) with
  | true=>
   rw[D3] at h
   obtain ⟨h1,h⟩:=aE h
   obtain rfl:=aI h
   have:t=false:=by simpa using h1
   subst this
   refine fin _ ?_
   simpa using hy
  | false=>
   rw[D3] at h
   simp only[cond_false] at h
   cases PB:gone (aJ P A.aC ty sl y) with
   | true=>
    rw[PB] at h
    obtain ⟨h1,h⟩:=aE h
    obtain rfl:=aI h
    subst h1
    refine fin _ ?_
    simpa using hx
   | false=>
    rw[PB] at h
    obtain rfl:=aI h
    exact fin _ (Oo hx hy)
 case makeFunc fn x y=>
  cases fn<;>simp only[fE] at h<;>first|(cases h;done)|skip
  rename_i f
  obtain rfl:=aI h
  refine ⟨.func (.func f) (x.map a.eval) (y.map a.eval),w,I,β,.inl (by simp[execOp,Instr.makeFunc]),Le.refl w I β hp,S,.fn (by simp) (fun j v z hj hz=> ?_) (by simp) (fun j v z hj hz=> ?_)⟩
  ·rw[Array.getElem?_map] at hj
   rw[List.getElem?_map,Array.getElem?_toList] at hz
   cases hx:x[j]? with
   | none=>rw[hx] at hj;cases hj
   | some o1=>
    rw[hx] at hj hz
    cases hj
    cases hz
    exact hs.ev hg ty o1
  ·rw[Array.getElem?_map] at hj
   rw[List.getElem?_map,Array.getElem?_toList] at hz
   cases hx:y[j]? with
   | none=>rw[hx] at hj;cases hj
   | some o1=>
    rw[hx] at hj hz
    cases hj
    cases hz
    exact hs.ev hg ty o1
 case defer c=>cases IX
 case makeMap t res=>
  cases res with
  | some x=>cases h
  | none=>exact .val rfl (Z3 S h)
 case lookup t m k ok=>
  cases ht:kX P t with
  | none=>rw[ht] at h;cases h
  | some q=>
   obtain ⟨kt,vt⟩:=q
   rw[ht] at h
   exact .val (s:=Instr.lookup t (a.eval m) (a.eval k) ok) rfl (Z2 S ht (hs.ev hg t m) (hs.ev hg kt k) h)
 case mapUpdate t m k x=>
  cases ht:kX P t with
  | none=>rw[ht] at h;cases h
  | some q=>
   obtain ⟨kt,vt⟩:=q
   rw[ht] at h
   have:=Ps S ht (hs.ev hg t m) (hs.ev hg kt k) (hs.ev hg vt x) h
   exact this.op
 case insert t m k x=>
  cases ht:kX P t with
  | none=>rw[ht] at h;cases h
  | some q=>
   obtain ⟨kt,vt⟩:=q
   rw[ht] at h
   have:=Ps S ht (hs.ev hg t m) (hs.ev hg kt k) (hs.ev hg vt x) h
   exact this.op
 case alloc e=>
  exact .val rfl (Zf S h)
 case box e x=>
  exact .val rfl (Zg S (hs.ev hg e x) h)
 case build t ps=>exact .val rfl (Zi S hs hg h)
 case buildSlice t len ps=>
  cases hu:P.underlying t with
  | none=>rw[hu] at h;cases h
  | some d=>
   rw[hu] at h
   cases d<;>simp only at h<;>first|(cases h;done)|skip
   exact .val rfl (Zp S hs hg hu h)
 case load t x=>exact .val rfl (YQ S (hs.ev hg ty x) h)
 case store t x y=>
  have:=Zb S (hs.ev hg ty x) (hs.ev hg t y) h
  exact this.op
 case nilCheck x=>
  have hx:=hs.ev hg ty x
  cases fv:aJ P A.aC ty sl x<;>rw[fv] at h hx<;>simp only at h<;>first|(cases h;done)|skip
  ·obtain ⟨⟨blk,ab,hd⟩,l,h⟩:=vS h
   obtain rfl:=aI h
   have cC:=hx
   obtain ⟨b,hb,he⟩:=hx.gO ab hd
   rw[he] at cC
   exact ⟨_,w,I,β,.inl (by simp only[execOp,he];rfl),Le.refl w I β hp,S,cC⟩
  ·obtain rfl:=aI h
   have cC:=hx
   obtain ⟨b,o,he,_⟩:=hx.Dz
   rw[he] at cC
   exact ⟨_,w,I,β,.inl (by simp only[execOp,he];rfl),Le.refl w I β hp,S,cC⟩
  ·obtain ⟨e0,es,ai,l,ab,h1,h2,h3,h⟩:=oa h
   obtain rfl:=aI h
   have cC:=hx
   obtain ⟨b,o,he,_⟩:=hx.Om ab h1 h2 h3
   rw[he] at cC
   exact ⟨_,w,I,β,.inl (by simp only[execOp,he];rfl),Le.refl w I β hp,S,cC⟩
 case binOp op t x y yt=>
  have hx:=hs.ev hg t x
  have hy:=hs.ev hg t y
  refine .val (s:=do eqGuard op t x y (a.eval x) (a.eval y);binOp op t (a.eval x) (a.eval y)) rfl ?_
  cases fv:aJ P A.aC t sl x<;>cases sj:aJ P A.aC t sl y<;>rw[fv,sj] at h<;>rw[fv] at hx<;>rw[sj] at hy<;>first|(simp only[jO] at h;cases h;done)|skip
  ·rw[hx.eI,hy.eI]
   have:=YG S h
   simpa[YD] using this
  ·rw[hx.jw,hy.jw]
   have:=YI S h
   simpa[YE] using this
  ·obtain ⟨s1,e1,l1⟩:=hx.lW
   obtain ⟨s2,e2,l2⟩:=hy.lW
   rw[e1,e2]
   rw[←l1,←l2] at h
   have:=YJ (t:=t) S h
   simpa[YF] using this
  ·obtain ⟨cs,e1,h1,h2⟩:=hx.kB
   obtain ⟨ds,e2,h3,h4⟩:=hy.kB
   rw[e1,e2]
   exact YK S h1 h3 h2 h4 h
  ·
   simp only[jO] at h
   obtain ⟨h1,h2⟩:=aE h
   clear h
   simp only[Bool.and_eq_true,Nat.beq_eq] at h1
   obtain ⟨rfl,rfl,rfl⟩:=h1
   obtain ⟨⟨blk,ab,hd⟩,l,h⟩:=vS h2
   obtain ⟨b,hb,e1⟩:=hx.gO ab hd
   obtain ⟨b',ax,e2⟩:=hy.gO ab hd
   rw[hb] at ax;cases ax
   rw[e1,e2]
   exact D2 S h (by cases op<;>simp[eqGuard]) fun e j he hj=>⟨run_eql_ptr_same w _ he hj,Lib.run_neq_ptr_same w _ he hj⟩
  ·simp only[jO] at h
   obtain ⟨⟨blk,ab,hd⟩,l,h⟩:=vS h
   obtain ⟨b,_,e1⟩:=hx.gO ab hd
   rw[e1,hy.D1]
   exact D2 S h (by cases op<;>simp[eqGuard]) fun e j he hj=>⟨aae w t e _ he,aaf w t e _ he⟩
  ·simp only[jO] at h
   obtain ⟨⟨blk,ab,hd⟩,l,h⟩:=vS h
   obtain ⟨b,_,e1⟩:=hy.gO ab hd
   rw[e1,hx.D1]
   exact D2 S h (by cases op<;>simp[eqGuard]) fun e j he hj=>⟨aag w t e _ he,aah w t e _ he⟩
  ·simp only[jO] at h
   rw[hx.D1,hy.D1]
   exact D2 S h (by cases op<;>simp[eqGuard]) fun e j he hj=>⟨aai w t e he,aaj w t e he⟩
  ·
   simp only[jO] at h
   obtain ⟨l,h⟩:=run_get h
   split at h
   ·rename_i t2 es ab
    obtain ⟨b,hb⟩:=hx.Z7 ab
    rw[hy.IT,hb]
    exact Pv (a:=some b) S x y h
   ·cases h
  ·simp only[jO] at h
   rw[hx.IT,hy.IT]
   exact Pv (a:=none) S x y h
 case unOp op t x=>exact .val rfl (YL S (hs.ev hg ty x) h)
 case convert src dst x=>
  have hx:=hs.ev hg ty x
  refine .val (s:=convert src dst (a.eval x)) rfl ?_
  cases jv:P.underlying src with
  | none=>rw[jv] at h;cases h
  | some d1=>
   cases jA:P.underlying dst with
   | none=>rw[jv,jA] at h;cases d1<;>cases h
   | some d2=>
    rw[jv,jA] at h
    have gx: ∀{b:Nat} {T:TypeId} {cs:List V} {id:Nat},hp id=some (.var T cs)→β id=some b→w.shape? b=some (T,cs.length):=by
     intro b T cs id ab hb
     have hr:=S.h.rel id _ ab
     rw[hb] at hr
     cases hr with
     | var ax hh aZ _ _ _=>cases ax;simp[World.shape?,hh,aZ]
    cases d1<;>(try (cases d2<;>cases h;done))
    ·cases d2<;>(try (cases h;done))
     rename_i k1 k2
     cases fv:aJ P A.aC ty sl x<;>rw[fv] at h hx<;>simp only at h<;>first|(cases h;done)|skip
     obtain rfl:=aI h
     rw[hx.eI]
     exact .same S (by simp[convert,run_underlying jv,run_underlying jA,Conv.intToInt]) .int
    ·cases d2<;>(try (cases h;done))
     rename_i u
     cases fv:aJ P A.aC ty sl x<;>rw[fv] at h hx<;>simp only at h<;>first|(cases h;done)|skip
     rename_i id i c
     obtain ⟨l,h1⟩:=run_get h
     cases ab:hp id with
     | none=>rw[ab] at h1;cases h1
     | some blk=>
      rw[ab] at h1
      cases blk<;>simp only at h1<;>first|(cases h1;done)|skip
      rename_i T cs
      obtain ⟨h2,h3⟩:=aE h1
      simp only[Bool.and_eq_true,Nat.beq_eq] at h2
      obtain ⟨rfl,h4,h5⟩:=h2
      obtain ⟨b,hb,e1⟩:=hx.gO ab (by simp)
      obtain rfl:=aI h3
      obtain ⟨j,hj⟩:=Option.isSome_iff_exists.1 h4
      have cC:=hx
      rw[e1] at cC⊢
      exact .same S (Lib.run_from_unsafe w _ jv jA hj (gx ab hb) (by simpa using h5)) cC
    ·cases d2<;>(try (cases h;done))
     rename_i t
     cases fv:aJ P A.aC ty sl x<;>rw[fv] at h hx<;>simp only at h<;>first|(cases h;done)|skip
     rename_i id i c
     obtain ⟨l,h1⟩:=run_get h
     cases ab:hp id with
     | none=>rw[ab] at h1;cases h1
     | some blk=>
      rw[ab] at h1
      cases blk<;>simp only at h1<;>first|(cases h1;done)|skip
      rename_i T cs
      obtain ⟨h2,h3⟩:=aE h1
      simp only[Bool.and_eq_true,Nat.beq_eq,Nat.blt_eq] at h2
      obtain ⟨rfl,h4,h5⟩:=h2
      obtain ⟨b,hb,e1⟩:=hx.gO ab (by simp)
      obtain rfl:=aI h3
      cases hj:P.info? t with
      | none=>rw[hj] at h5;cases h5
      | some j=>
       rw[hj] at h5
       simp only[Bool.not_eq_true'] at h5
       have h6:j.size≠0:=fun e=>by rw[e] at h5;cases h5
       have cC:=hx
       rw[e1] at cC⊢
       exact .same S (Lib.run_to_unsafe w _ jv jA hj h6 (gx ab hb) (by simpa using h4)) cC
    ·rename_i e
     cases d2<;>(try (cases h;done))
     simp only at h
     cases he:P.underlying e with
     | none=>rw[he] at h;cases h
     | some d3=>
      rw[he] at h
      cases d3<;>(try (cases h;done))
      rename_i k
      cases k<;>(try (cases h;done))
      exact aad S jv he jA hx h
 case fieldAddr s x f=>exact .val rfl (YM S (hs.ev hg ty x) h)
 case field s x f=>exact .val rfl (ZG S (hs.ev hg ty x) h)
 case indexAddr t x y=>exact .val rfl (ZP S (hs.ev hg ty x) (hs.ev hg 0 y) h)
 case index t x y=>
  have hx:=hs.ev hg ty x
  have hy:=hs.ev hg 0 y
  refine .val (s:=Instr.index t (a.eval x) (a.eval y)) rfl ?_
  cases hu:P.underlying t with
  | none=>rw[hu] at h;cases h
  | some d=>
   rw[hu] at h
   cases d<;>(try (cases h;done))
   cases fv:aJ P A.aC ty sl x<;>rw[fv] at h hx<;>(try (cases h;done))
   cases sj:aJ P A.aC 0 sl y<;>rw[sj] at h hy<;>(try (cases h;done))
   obtain ⟨s,e1,l1⟩:=hx.lW
   rw[e1,hy.eI]
   exact ZI S hu l1 h
 case slice t x lo hi mx=>
  cases mx with
  | some m=>
   simp only at h
   refine .val (s:=Instr.sliceAt t (a.eval x) (lo.map a.eval) (hi.map a.eval) (some (a.eval m))) (by simp[execOp]) (ZN S (hs.ev hg ty x) (fun hy=> ?_) (fun y hy=> ?_) (fun y hy=> ?_) h)
   ·cases lo with
    | none=>rfl
    | some l=>cases hy
   ·cases hi with
    | none=>cases hy
    | some l=>cases hy;exact ⟨_,rfl,hs.ev hg 0 l⟩
   ·cases hy;exact ⟨_,rfl,hs.ev hg 0 m⟩
  | none=>
   simp only at h
   have plain:(Db P t (aJ P A.aC ty sl x) (lo.map (aJ P A.aC 0 sl)) (hi.map (aJ P A.aC 0 sl))).run C hp=some (r,rd)→pb P ((execOp a.eval ⟨dst,.slice t x lo hi none,ty,pos,after,guard⟩).run P w) w I β hp B M w0 r:=by
    intro h
    refine .val (s:=Instr.sliceAt t (a.eval x) (lo.map a.eval) (hi.map a.eval) none) (by simp[execOp]) (ZM S (hs.ev hg ty x) (fun y hy=> ?_) (fun y hy=> ?_) (fun hy=> ?_) (fun hy=> ?_) h)
    ·cases lo with
     | none=>cases hy
     | some l=>cases hy;exact ⟨_,rfl,hs.ev hg 0 l⟩
    ·cases hi with
     | none=>cases hy
     | some l=>cases hy;exact ⟨_,rfl,hs.ev hg 0 l⟩
    ·cases lo with
     | none=>rfl
     | some l=>cases hy
    ·cases hi with
     | none=>rfl
     | some l=>cases hy
   have tr:(Dc P nb t (aJ P A.aC ty sl x) (lo.map (aJ P A.aC 0 sl)) (hi.map (aJ P A.aC 0 sl))).run C hp=some (r,rd)→pb P ((execOp a.eval ⟨dst,.slice t x lo hi none,ty,pos,after,guard⟩).run P w) w I β hp B M w0 r:=by
    intro h
    refine .val (s:=Instr.sliceAt t (a.eval x) (lo.map a.eval) (hi.map a.eval) none) (by simp[execOp]) (ZS S (hs.ev hg ty x) (fun y hy=> ?_) (fun hy=> ?_) h)
    ·cases hi with
     | none=>cases hy
     | some l=>cases hy;exact ⟨_,rfl,hs.ev hg 0 l⟩
    ·cases lo with
     | none=>rfl
     | some l=>cases hy
   cases dst with
   | none=>exact plain h
   | some d=>
    simp only at h
    cases wm:jM A.vA d with
    | true=>rw[wm] at h;exact tr h
    | false=>rw[wm] at h;exact plain h
 case extract x i=>
  have hx:=hs.ev hg ty x
  cases fv:aJ P A.aC ty sl x<;>rw[fv] at h hx<;>simp only at h<;>first|(cases h;done)|skip
  exact .val (s:=Instr.extract (a.eval x) i) rfl (ZH S hx h)
 case makeSlice t l c=>
  have hl:=hs.ev hg 0 l
  have hc:=hs.ev hg 0 c
  refine .val (s:=Instr.makeSlice t (a.eval l) (a.eval c)) rfl ?_
  cases hu:P.underlying t with
  | none=>rw[hu] at h;cases h
  | some d=>
   rw[hu] at h
   cases d<;>(try (cases h;done))
   cases IY:aJ P A.aC 0 sl l<;>rw[IY] at h hl<;>(try (cases h;done))
   cases tL:aJ P A.aC 0 sl c<;>rw[tL] at h hc<;>(try (cases h;done))
   rw[hl.eI,hc.eI]
   cases dst with
   | none=>exact O1 S hu h
   | some d=>
    simp only at h
    cases hg:jM A.vA d with
    | true=>rw[hg] at h;exact Zr S hu h
    | false=>rw[hg] at h;exact O1 S hu h
 case call c=>
  obtain ⟨callee,args,argTypes⟩:=c
  cases callee with
  | invoke r m=>cases h
  | value f=>
   cases f with
   | func f=>cases IX
   | tmp f=>cases IX
   | _=>cases h
  | builtin b=>
   have one: ∀{x:Operand},args.toList=[x]→args= #[x]:=fun h=>by rw[←Array.toArray_toList (xs:=args),h]
   have qy: ∀(s:Array TypeId→TypeId→Array Value→Sem Value),builtin b argTypes ty (args.map fun| .const _=>true|_=>false) (args.map a.eval)=(do Pure.pure (Next.value (←s argTypes ty (args.map a.eval))))→
     execOp a.eval ⟨dst,.call ⟨.builtin b,args,argTypes⟩,ty,pos,after,guard⟩=(do Pure.pure (Next.value (←s argTypes ty (args.map a.eval)))):=by
    intro s hb
    simp only[execOp,resolve,pure_bind,invoke]
    exact hb
   cases b<;>(try (cases h;done))
   case append=>
    simp only at h
    cases ha:args.toList with
    | nil=>rw[ha] at h;cases h
    | cons x l=>
     cases l with
     | nil=>rw[ha] at h;cases h
     | cons y l2=>
      cases l2 with
      | cons _ _=>rw[ha] at h;cases h
      | nil=>
       cases dA:argTypes.toList with
       | nil=>rw[ha,dA] at h;cases h
       | cons t l3=>
        cases l3 with
        | nil=>rw[ha,dA] at h;cases h
        | cons u l4=>
         cases l4 with
         | cons _ _=>rw[ha,dA] at h;cases h
         | nil=>
          rw[ha,dA] at h
          simp only at h
          have e1:args= #[x,y]:=by rw[←Array.toArray_toList (xs:=args),ha]
          have e2:argTypes= #[t,u]:=by rw[←Array.toArray_toList (xs:=argTypes),dA]
          cases hu:P.underlying t with
          | none=>rw[hu] at h;cases h
          | some d=>
           rw[hu] at h
           cases d<;>(try (cases h;done))
           cases hc:Nat.beq t u with
           | true=>
            rw[hc] at h
            rw[Nat.beq_eq] at hc
            subst hc
            have:=Zu (ty:=ty) S hu (hs.ev hg t x) (hs.ev hg t y) h
            refine .val (qy Builtin.append_ rfl) ?_
            rw[e1,e2]
            simpa using this
           | false=>
            rw[hc] at h
            simp only[cond_false] at h
            have hy:=hs.ev hg u y
            cases oq:P.underlying u with
            | none=>rw[oq] at h;cases h
            | some du=>
             rw[oq] at h
             cases du<;>(try (cases h;done))
             cases sj:aJ P A.aC u sl y<;>rw[sj] at h hy<;>(try (cases h;done))
             simp only at h
             obtain ⟨hb,h⟩:=aE h
             obtain ⟨s1,q1,q2⟩:=hy.lW
             subst q2
             have:=aac (ty:=ty) S hu oq (aal hb) (hs.ev hg t x) h
             refine .val (qy Builtin.append_ rfl) ?_
             rw[e1,e2]
             simpa[q1] using this
   case len=>
    simp only at h
    cases ha:args.toList with
    | nil=>rw[ha] at h;cases h
    | cons x l=>
     cases l with
     | cons _ _=>rw[ha] at h;cases h
     | nil=>
      cases dA:argTypes.toList with
      | nil=>rw[ha,dA] at h;cases h
      | cons t l3=>
       cases l3 with
       | cons _ _=>rw[ha,dA] at h;cases h
       | nil=>
        rw[ha,dA] at h
        simp only at h
        have e1:args= #[x]:=by rw[←Array.toArray_toList (xs:=args),ha]
        have e2:argTypes= #[t]:=by rw[←Array.toArray_toList (xs:=argTypes),dA]
        have hx:=hs.ev hg ty x
        refine .val (qy Builtin.len_ rfl) ?_
        rw[e1,e2]
        cases hu:P.underlying t with
        | none=>rw[hu] at h;cases h
        | some d=>
         rw[hu] at h
         cases d<;>(try (cases h;done))
         ·cases fv:aJ P A.aC ty sl x<;>rw[fv] at h hx<;>(try (cases h;done))
          have:=Oq (t:=t) (ty:=ty) S hx (fun l hl=>hu) (fun hn=>absurd rfl (hn _)) h
          simpa using this
         ·have h2:(∀l,aJ P A.aC ty sl x≠ .str l)∧(C4 P (aJ P A.aC ty sl x)).run C hp=some (r,rd):=by
           cases fv:aJ P A.aC ty sl x<;>rw[fv] at h<;>first|(cases h;done)|exact ⟨fun l=>by simp,h⟩
          have:=Oq (t:=t) (ty:=ty) S hx (fun l hl=>absurd hl (h2.1 l)) (fun _=>⟨_,hu⟩) h2.2
          simpa using this
         ·have h2:(C9 (aJ P A.aC ty sl x)).run C hp=some (r,rd):=by
           cases fv:aJ P A.aC ty sl x<;>rw[fv] at h<;>exact h
          have:=Z6 (t:=t) (ty:=ty) S hu hx h2
          simpa using this
   case unsafeSliceData=>
    simp only at h
    cases ha:args.toList with
    | nil=>rw[ha] at h;cases h
    | cons x l=>
     cases l with
     | cons _ _=>rw[ha] at h;cases h
     | nil=>
      rw[ha] at h
      simp only at h
      have e1:args= #[x]:=by rw[←Array.toArray_toList (xs:=args),ha]
      have hx:=hs.ev hg ty x
      refine .val (qy Builtin.unsafeSliceData_ rfl) ?_
      rw[e1]
      cases fv:aJ P A.aC ty sl x<;>rw[fv] at h hx<;>simp only at h<;>first|(cases h;done)|skip
      rename_i e id
      obtain ⟨l2,h1⟩:=run_get h
      cases ab:hp id with
      | none=>rw[ab] at h1;cases h1
      | some blk=>
       rw[ab] at h1
       cases blk<;>simp only at h1<;>first|(cases h1;done)|skip
       rename_i e' es fz
       obtain ⟨h2,h3⟩:=aE h1
       simp only[Bool.and_eq_true,Nat.beq_eq,Nat.blt_eq] at h2
       obtain ⟨rfl,h4⟩:=h2
       obtain rfl:=aI h3
       have:=aam (ts:=argTypes) (ty:=ty) S hx ab h4
       simpa using this
   case unsafeString=>
    simp only at h
    cases ha:args.toList with
    | nil=>rw[ha] at h;cases h
    | cons x l=>
     cases l with
     | nil=>rw[ha] at h;cases h
     | cons y l2=>
      cases l2 with
      | cons _ _=>rw[ha] at h;cases h
      | nil=>
       cases dA:argTypes.toList with
       | nil=>rw[ha,dA] at h;cases h
       | cons t l3=>
        cases l3 with
        | nil=>rw[ha,dA] at h;cases h
        | cons u l4=>
         cases l4 with
         | cons _ _=>rw[ha,dA] at h;cases h
         | nil=>
          rw[ha,dA] at h
          simp only at h
          have e1:args= #[x,y]:=by rw[←Array.toArray_toList (xs:=args),ha]
          have e2:argTypes= #[t,u]:=by rw[←Array.toArray_toList (xs:=argTypes),dA]
          have hx:=hs.ev hg ty x
          have hy:=hs.ev hg ty y
          cases hu:P.underlying t with
          | none=>rw[hu] at h;cases h
          | some d=>
           rw[hu] at h
           cases d<;>(try (cases h;done))
           rename_i e
           cases fv:aJ P A.aC ty sl x<;>rw[fv] at h hx<;>(try (cases h;done))
           cases sj:aJ P A.aC ty sl y<;>rw[sj] at h hy<;>(try (cases h;done))
           rename_i id i c k n
           cases k<;>(try (cases h;done))
           simp only at h
           obtain ⟨l2,h1⟩:=run_get h
           cases ab:hp id with
           | none=>rw[ab] at h1;cases h1
           | some blk=>
            rw[ab] at h1
            cases blk<;>simp only at h1<;>first|(cases h1;done)|skip
            rename_i e' es fz
            cases fz<;>simp only at h1<;>first|(cases h1;done)|skip
            obtain ⟨h2,h3⟩:=aE h1
            simp only[Bool.and_eq_true,Nat.beq_eq,Nat.ble_eq,decide_eq_true_eq] at h2
            obtain ⟨rfl,h4,rfl,rfl,h5,h6,h7,h8⟩:=h2
            obtain rfl:=aI h3
            have:=aan (u:=u) (ty:=ty) S hu h4 hx ab h5 h6 h7 h8
            refine .val (qy Builtin.unsafeString_ rfl) ?_
            rw[e1,e2]
            simpa[hy.eI] using this
   case copy=>
    simp only at h
    cases ha:args.toList with
    | nil=>rw[ha] at h;cases h
    | cons x l=>
     cases l with
     | nil=>rw[ha] at h;cases h
     | cons y l2=>
      cases l2 with
      | cons _ _=>rw[ha] at h;cases h
      | nil=>
       cases dA:argTypes.toList with
       | nil=>rw[ha,dA] at h;cases h
       | cons t l3=>
        cases l3 with
        | nil=>rw[ha,dA] at h;cases h
        | cons u l4=>
         cases l4 with
         | cons _ _=>rw[ha,dA] at h;cases h
         | nil=>
          rw[ha,dA] at h
          simp only at h
          have e1:args= #[x,y]:=by rw[←Array.toArray_toList (xs:=args),ha]
          have e2:argTypes= #[t,u]:=by rw[←Array.toArray_toList (xs:=argTypes),dA]
          cases hu:P.underlying t with
          | none=>rw[hu] at h;cases h
          | some d=>
           rw[hu] at h
           cases d<;>(try (cases h;done))
           have:=ZA (u:=u) (ty:=ty) S hu (hs.ev hg t x) (hs.ev hg u y) h
           refine .val (qy Builtin.copy_ rfl) ?_
           rw[e1,e2]
           simpa using this
   case clear=>
    simp only at h
    cases ha:args.toList with
    | nil=>rw[ha] at h;cases h
    | cons x l=>
     cases l with
     | cons _ _=>rw[ha] at h;cases h
     | nil=>
      cases dA:argTypes.toList with
      | nil=>rw[ha,dA] at h;cases h
      | cons t l3=>
       cases l3 with
       | cons _ _=>rw[ha,dA] at h;cases h
       | nil=>
        rw[ha,dA] at h
        simp only at h
        have e1:args= #[x]:=by rw[←Array.toArray_toList (xs:=args),ha]
        have e2:argTypes= #[t]:=by rw[←Array.toArray_toList (xs:=argTypes),dA]
        cases hu:P.underlying t with
        | none=>rw[hu] at h;cases h
        | some d=>
         rw[hu] at h
         cases d<;>(try (cases h;done))
         have:=ZB (ty:=ty) S hu (hs.ev hg t x) h
         refine .val (qy Builtin.clear_ rfl) ?_
         rw[e1,e2]
         simpa using this
   case max=>
    simp only at h
    cases ha:args.toList with
    | nil=>rw[ha] at h;cases h
    | cons x l=>
     rw[ha] at h
     simp only at h
     have:=IF S true (vs:=l.map a.eval) (xs:=l.map (aJ P A.aC ty sl)) (hs.ev hg ty x) (by simp) (fun j u y hu hy=>by
      simp only[List.getElem?_map] at hu hy
      cases hl:l[j]? with
      | none=>rw[hl] at hu;cases hu
      | some z=>rw[hl] at hu hy;cases hu;cases hy;exact hs.ev hg ty z) h
     refine .val (qy Builtin.max_ rfl) ?_
     simpa[Builtin.max_,ha] using this
   case min=>
    simp only at h
    cases ha:args.toList with
    | nil=>rw[ha] at h;cases h
    | cons x l=>
     rw[ha] at h
     simp only at h
     have:=IF S false (vs:=l.map a.eval) (xs:=l.map (aJ P A.aC ty sl)) (hs.ev hg ty x) (by simp) (fun j u y hu hy=>by
      simp only[List.getElem?_map] at hu hy
      cases hl:l[j]? with
      | none=>rw[hl] at hu;cases hu
      | some z=>rw[hl] at hu hy;cases hu;cases hy;exact hs.ev hg ty z) h
     refine .val (qy Builtin.min_ rfl) ?_
     simpa[Builtin.min_,ha] using this
end
section
variable {P:Program} {A:cH} {w w':World} {I I' I2:Nat→Prop} {μ β an:Nat→Option Nat} {hp hp':Nat→Option ag} {C:ae} {B:Nat} {M:Nat→Prop} {w0:Start}
theorem wo: ∀{l m:List Nat},eO.nY l m=true→l=m
 | [],[],_=>rfl
 | [],_::_,h=>by cases h
 | _::_,[],h=>by cases h
 | a::l,b::m,h=>by
  simp only[eO.nY,Bool.and_eq_true,Nat.beq_eq] at h
  rw[h.1,wo h.2]
@[simp] theorem PC (n:Nat):kp (eu n)=n:=by simp[kp,eu,V.toInt]
theorem D4: ∀(path:List (Nat × Nat)) (rest:List V),yk (path.map (·.2)) ((path.map fun p=>eu p.1)++rest)=path
 | [],_=>rfl
 | p::l,rest=>by
  simp only[List.map_cons,List.cons_append,yk,V.nth,PC,List.drop_succ_cons,List.drop_zero,D4 l rest]
theorem D5 {l:LS} {x:V} {ds:List V} (h:eO l x=some ds):ds.length=l.size∧(l= .rI∨∀rest,iE l (ds++rest)=x):=by
 cases l with
 | rI=>simp only[eO,Option.some.injEq] at h;subst h;exact ⟨rfl,.inl rfl⟩
 | int k=>
  cases x<;>simp only[eO] at h<;>first|(cases h;done)|skip
  rename_i k' n
  by_cases hk:k=k'
  ·subst hk
   simp only[decide_true,cond_true,Option.some.injEq] at h
   subst h
   exact ⟨rfl,.inr fun _=>rfl⟩
  ·simp[hk] at h
 | bool=>
  cases x<;>simp only[eO] at h<;>first|(cases h;done)|skip
  cases h
  exact ⟨rfl,.inr fun _=>rfl⟩
 | str=>
  cases x<;>simp only[eO] at h<;>first|(cases h;done)|skip
  cases h
  exact ⟨rfl,.inr fun _=>rfl⟩
 | list e=>
  cases x<;>simp only[eO] at h<;>first|(cases h;done)|skip
  rename_i e' es
  cases hb:Nat.beq e e' with
  | false=>rw[hb] at h;cases h
  | true=>
   rw[hb] at h
   rw[Nat.beq_eq] at hb
   subst hb
   cases h
   exact ⟨rfl,.inr fun _=>rfl⟩
 | whole e j=>
  cases x<;>simp only[eO] at h<;>first|(cases h;done)|skip
  rename_i e' id
  cases hb:(Nat.beq e e'&&Nat.beq j id) with
  | false=>rw[hb] at h;cases h
  | true=>
   rw[hb] at h
   simp only[Bool.and_eq_true,Nat.beq_eq] at hb
   obtain ⟨rfl,rfl⟩:=hb
   cases h
   exact ⟨rfl,.inr fun _=>rfl⟩
 | sub e j=>
  cases x<;>simp only[eO] at h<;>first|(cases h;done)|skip
  rename_i e' id o n
  cases hb:(Nat.beq e e'&&Nat.beq j id) with
  | false=>rw[hb] at h;cases h
  | true=>
   rw[hb] at h
   simp only[Bool.and_eq_true,Nat.beq_eq] at hb
   obtain ⟨rfl,rfl⟩:=hb
   cases h
   exact ⟨rfl,.inr fun _=>by simp[iE,V.nth]⟩
 | ptr j=>
  cases x<;>simp only[eO] at h<;>first|(cases h;done)|skip
  rename_i id i c
  cases hb:(Nat.beq j id) with
  | false=>rw[hb] at h;cases h
  | true=>
   rw[hb] at h
   rw[Nat.beq_eq] at hb
   subst hb
   cases h
   exact ⟨rfl,.inr fun _=>by simp[iE,V.nth]⟩
 | eg j i c=>
  cases x<;>simp only[eO] at h<;>first|(cases h;done)|skip
  rename_i id i' c'
  cases hb:(Nat.beq j id&&(Nat.beq i i'&&Nat.beq c c')) with
  | false=>rw[hb] at h;cases h
  | true=>
   rw[hb] at h
   simp only[Bool.and_eq_true,Nat.beq_eq] at hb
   obtain ⟨rfl,rfl,rfl⟩:=hb
   cases h
   exact ⟨rfl,.inr fun _=>rfl⟩
 | nilS e=>
  cases x<;>simp only[eO] at h<;>first|(cases h;done)|skip
  rename_i e'
  cases hb:Nat.beq e e' with
  | false=>rw[hb] at h;cases h
  | true=>
   rw[hb] at h
   rw[Nat.beq_eq] at hb
   subst hb
   cases h
   exact ⟨rfl,.inr fun _=>rfl⟩
 | dE=>
  cases x<;>simp only[eO] at h<;>first|(cases h;done)|skip
  cases h
  exact ⟨rfl,.inr fun _=>rfl⟩
 | bX e j=>
  cases x<;>simp only[eO] at h<;>first|(cases h;done)|skip
  rename_i e' id
  cases hb:(Nat.beq e e'&&Nat.beq j id) with
  | false=>rw[hb] at h;cases h
  | true=>
   rw[hb] at h
   simp only[Bool.and_eq_true,Nat.beq_eq] at hb
   obtain ⟨rfl,rfl⟩:=hb
   cases h
   exact ⟨rfl,.inr fun _=>rfl⟩
 | dF e=>
  cases x<;>simp only[eO] at h<;>first|(cases h;done)|skip
  rename_i e'
  cases hb:Nat.beq e e' with
  | false=>rw[hb] at h;cases h
  | true=>
   rw[hb] at h
   rw[Nat.beq_eq] at hb
   subst hb
   cases h
   exact ⟨rfl,.inr fun _=>rfl⟩
 | vz k n=>
  cases x<;>simp only[eO] at h<;>first|(cases h;done)|skip
  rename_i k' m
  cases hb:(decide (k=k')&&decide (m=n)) with
  | false=>rw[hb] at h;cases h
  | true=>
   rw[hb] at h
   simp only[Bool.and_eq_true,decide_eq_true_eq] at hb
   obtain ⟨rfl,rfl⟩:=hb
   cases h
   exact ⟨rfl,.inr fun _=>rfl⟩
 | row e j cs=>
  cases x<;>simp only[eO] at h<;>first|(cases h;done)|skip
  rename_i e' id ver path
  cases hb:(Nat.beq e e'&&(Nat.beq j id&&(Nat.beq ver 0&&eO.nY cs (path.map (·.2))))) with
  | false=>rw[hb] at h;cases h
  | true=>
   rw[hb] at h
   simp only[Bool.and_eq_true,Nat.beq_eq] at hb
   obtain ⟨rfl,rfl,rfl,og⟩:=hb
   have:=wo og
   subst this
   cases h
   exact ⟨by simp[LS.size],.inr fun rest=>by simp only[iE,D4]⟩
 | cG j cs c=>
  cases x<;>simp only[eO] at h<;>first|(cases h;done)|skip
  rename_i id ver path i c'
  cases hb:(Nat.beq j id&&(Nat.beq ver 0&&(Nat.beq c c'&&eO.nY cs (path.map (·.2))))) with
  | false=>rw[hb] at h;cases h
  | true=>
   rw[hb] at h
   simp only[Bool.and_eq_true,Nat.beq_eq] at hb
   obtain ⟨rfl,rfl,rfl,og⟩:=hb
   have:=wo og
   subst this
   cases h
   exact ⟨by simp[LS.size],.inr fun rest=>by simp only[iE,List.cons_append,V.nth,PC,List.drop_succ_cons,List.drop_zero,D4]⟩
def LS.below (n:Nat) (x:V):Prop:= ∀id∈eG x,id<n
def PD:V→Prop
 | .agg _=>False
 | .bh _=>False
 | .fn .. =>False
 | .pref .. =>False
 | _=>True
theorem tT {c:Bool} {a d:List V} (h:(bif c then some a else none)=some d):c=true:=by
 cases c with
 | true=>rfl
 | false=>cases h
theorem aaq {l:LS} {x:V} {ds:List V} {n:Nat} (h:eO l x=some ds) (hl:l≠ .rI) (au:l.ok n=true):PD x∧LS.below n x:=by
 cases l<;>cases x<;>simp only[eO] at h<;>first|(cases h;done)|(exact absurd rfl hl)|skip
 all_goals refine ⟨trivial,fun id ab=> ?_⟩
 all_goals simp only[eG,List.mem_singleton,List.not_mem_nil] at ab
 all_goals subst ab
 all_goals simp only[LS.ok,Nat.blt_eq] at au
 all_goals
  have hb:=tT h
  simp only[Bool.and_eq_true,Nat.beq_eq] at hb
  omega
theorem ah.aar {v:Value} {x:V} (h:ah P w I β hp v x) (hx:PD x) (hs: ∀id∈eG x,hp' id=hp id∧an id=β id):ah P w I an hp' v x:=by
 have one: ∀{id},id∈eG x→hp' id=hp id∧an id=β id:=fun h=>hs _ h
 cases h with
 | undef=>exact .undef
 | int=>exact .int
 | bool=>exact .bool
 | str h=>exact .str h
 | list h=>exact .list h
 | nilS=>exact .nilS
 | agg=>exact hx.elim
 | bh=>exact hx.elim
 | dE=>exact .dE
 | fn=>exact hx.elim
 | pref=>exact hx.elim
 | ey h=>exact .ey ((one (by simp[eG])).1.trans h)
 | gk h=>exact .gk ((one (by simp[eG])).1.trans h)
 | jT h=>exact .jT ((one (by simp[eG])).1.trans h)
 | dU h hb=>exact .dU ((one (by simp[eG])).1.trans h) ((one (by simp[eG])).2.trans hb)
 | whole h hb a b c=>exact .whole ((one (by simp[eG])).1.trans h) ((one (by simp[eG])).2.trans hb) a b c
 | eH h hb a b c=>exact .eH ((one (by simp[eG])).1.trans h) ((one (by simp[eG])).2.trans hb) a b c
 | fT h hb=>exact .fT ((one (by simp[eG])).1.trans h) ((one (by simp[eG])).2.trans hb)
 | sub h hb a b c=>exact .sub ((one (by simp[eG])).1.trans h) ((one (by simp[eG])).2.trans hb) a b c
 | ptr h hd hb=>exact .ptr ((one (by simp[eG])).1.trans h) hd ((one (by simp[eG])).2.trans hb)
 | jr h qu=>exact .jr ((one (by simp[eG])).1.trans h) qu
 | js h qu=>exact .js ((one (by simp[eG])).1.trans h) qu
 | row h hb a b c d=>exact .row ((one (by simp[eG])).1.trans h) ((one (by simp[eG])).2.trans hb) a b c d
 | cG h hb a b c d e=>exact .cG ((one (by simp[eG])).1.trans h) ((one (by simp[eG])).2.trans hb) a b c d e
 | dF=>exact .dF
 | ic h=>exact .ic ((one (by simp[eG])).1.trans h)
 | bX h hb=>exact .bX ((one (by simp[eG])).1.trans h) ((one (by simp[eG])).2.trans hb)
theorem m8 {a b:List V} {n:Nat} (h:a.length=n):(a++b).drop n=b:=by subst h;simp
def za (n:Nat) (β:Nat→Option Nat) (hp:Nat→Option ag) (an:Nat→Option Nat) (hp':Nat→Option ag):Prop:= ∀id,id<n→hp' id=hp id∧an id=β id
theorem PE {l:LS} {x:V} {ds:List V} {n:Nat} {v:Value} (h:eO l x=some ds) (au:l.ok n=true) (iN:za n β hp an hp') (hv:ah P w I β hp v x) (rest:List V):
  ah P w I an hp' v (iE l (ds++rest)):=by
 rcases (D5 h).2 with e|e
 ·subst e;exact .undef
 ·rw[e rest]
  by_cases hu:l= .rI
  ·subst hu
   have:x= .undef:=(e rest).symm
   subst this
   exact .undef
  ·obtain ⟨h1,h2⟩:=aaq h hu au
   exact hv.aar h1 fun id ab=>iN id (h2 id ab)
theorem zb {n:Nat} (iN:za n β hp an hp'): ∀{ls:List LS} {xs:List V} {ds:List V},o5 ls xs=some ds→ls.all (LS.ok n)=true→
  ds.length=jP ls∧(∀rest,(gZ ls (ds++rest)).length=xs.length)∧
  ∀(rest:List V) (j:Nat) (v:Value) (y:V),(∀x,xs[j]? =some x→ah P w I β hp v x)→(gZ ls (ds++rest))[j]? =some y→ah P w I an hp' v y
 | [],[],ds,h,_=>by cases h;exact ⟨rfl,fun _=>rfl,fun rest j v y _ hy=>by simp[gZ] at hy⟩
 | [],_::_,ds,h,_=>by cases h
 | _::_,[],ds,h,_=>by cases h
 | l::ls,x::xs,ds,h,au=>by
  simp only[o5] at h
  obtain ⟨a,h1,h⟩:=bind_some h
  obtain ⟨b,h2,h⟩:=bind_some h
  cases h
  simp only[List.all_cons,Bool.and_eq_true] at au
  obtain ⟨i1,i2,i3⟩:=zb iN h2 au.2
  have ch:=(D5 h1).1
  have hd: ∀rest,(a++b++rest).drop l.size=b++rest:=fun rest=>by rw[List.append_assoc];exact m8 ch
  refine ⟨by simp only[List.length_append,jP];omega,fun rest=>by simp only[gZ,List.length_cons,hd,i2],fun rest j v y hv hy=> ?_⟩
  simp only[gZ,hd] at hy
  cases j with
  | zero=>
   simp at hy
   subst hy
   exact PE h1 au.1 iN (hv x rfl) _
  | succ j=>exact i3 rest j v y (fun x hx=>hv x (by simpa using hx)) (by simpa using hy)
theorem IZ: ∀{ls:List LS} {xs:List V} {ds:List V},o5 ls xs=some ds→ls.all LS.plain=true→ds.length=jP ls∧∀rest,gZ ls (ds++rest)=xs
 | [],[],ds,h,_=>by cases h;exact ⟨rfl,fun _=>rfl⟩
 | [],_::_,ds,h,_=>by cases h
 | _::_,[],ds,h,_=>by cases h
 | l::ls,x::xs,ds,h,au=>by
  simp only[o5] at h
  obtain ⟨a,h1,h⟩:=bind_some h
  obtain ⟨b,h2,h⟩:=bind_some h
  cases h
  simp only[List.all_cons,Bool.and_eq_true] at au
  obtain ⟨i1,i2⟩:=IZ h2 au.2
  obtain ⟨ch,hm⟩:=D5 h1
  refine ⟨by simp only[List.length_append,jP];omega,fun rest=> ?_⟩
  simp only[gZ]
  rw[show (a++b++rest).drop l.size=b++rest by rw[List.append_assoc];exact m8 ch,i2,List.append_assoc]
  rcases hm with e|e
  ·subst e;cases au.1
  ·rw[e]
theorem I0 {n:Nat} (iN:za n β hp an hp') {s:VS} {x:V} {ds:List V} (h:o6 s x=some ds) (au:s.ok n=true):
  ds.length=s.size∧∀(rest:List V) (v:Value),ah P w I β hp v x→ah P w I an hp' v (ku s (ds++rest)):=by
 cases s with
 | one l=>exact ⟨(D5 h).1,fun rest v hv=>PE h au iN hv rest⟩
 | agg ls=>
  cases x<;>simp only[o6] at h<;>first|(cases h;done)|skip
  rename_i xs
  obtain ⟨i1,i2,i3⟩:=zb (P:=P) (w:=w) (I:=I) iN h au
  refine ⟨i1,fun rest v hv=> ?_⟩
  obtain ⟨cs,rfl,e1,e2⟩:=hv.kB
  exact .agg (by rw[i2];exact e1) fun j v y hj hy=>i3 rest j v y (fun x hx=>e2 j v x hj hx) hy
 | bh ls=>
  cases x<;>simp only[o6] at h<;>first|(cases h;done)|skip
  rename_i xs
  obtain ⟨i1,i2,i3⟩:=zb (P:=P) (w:=w) (I:=I) iN h au
  refine ⟨i1,fun rest v hv=> ?_⟩
  obtain ⟨cs,rfl,e1,e2⟩:=hv.tD
  exact .bh (by rw[i2];exact e1) fun j v y hj hy=>i3 rest j v y (fun x hx=>e2 j v x hj hx) hy
 | fn f a b=>
  cases x<;>simp only[o6] at h<;>first|(cases h;done)|skip
  rename_i f' xs ys
  cases hb:Nat.beq f f' with
  | false=>rw[hb] at h;cases h
  | true=>
   rw[hb] at h
   rw[Nat.beq_eq] at hb
   subst hb
   simp only[cond_true] at h
   obtain ⟨p,h1,h⟩:=bind_some h
   obtain ⟨q,h2,h⟩:=bind_some h
   cases h
   simp only[VS.ok,Bool.and_eq_true] at au
   obtain ⟨i1,i2,i3⟩:=zb (P:=P) (w:=w) (I:=I) iN h1 au.1
   obtain ⟨j1,j2,j3⟩:=zb (P:=P) (w:=w) (I:=I) iN h2 au.2
   refine ⟨by simp only[List.length_append,VS.size];omega,fun rest v hv=> ?_⟩
   cases hv with
   | fn a1 a2 b1 b2=>
    simp only[ku]
    rw[show (p++q++rest).drop (jP a)=q++rest by rw[List.append_assoc];exact m8 i1,List.append_assoc]
    exact .fn (by rw[i2];exact a1) (fun j v y hj hy=>i3 _ j v y (fun x hx=>a2 j v x hj hx) hy) (by rw[j2];exact b1) (fun j v y hj hy=>j3 _ j v y (fun x hx=>b2 j v x hj hx) hy)
 | pref ts ls=>
  cases x<;>simp only[o6] at h<;>first|(cases h;done)|skip
  rename_i vG xs
  cases hb:eO.nY ts vG with
  | false=>rw[hb] at h;cases h
  | true=>
   rw[hb] at h
   have:=wo hb
   subst this
   simp only[cond_true] at h
   refine ⟨?_,fun rest v hv=> ?_⟩
   ·exact (IZ h au).1
   ·simp only[ku]
    rw[(IZ h au).2]
    cases hv with
    | pref hl hI hc=>exact .pref hl hI hc
theorem zc {n:Nat} (iN:za n β hp an hp'): ∀{ls:List VS} {xs:List V} {ds:List V},rH ls xs=some ds→ls.all (VS.ok n)=true→
  ds.length=rR ls∧(∀rest,(fD ls (ds++rest)).length=xs.length)∧
  ∀(rest:List V) (j:Nat) (v:Value) (y:V),(∀x,xs[j]? =some x→ah P w I β hp v x)→(fD ls (ds++rest))[j]? =some y→ah P w I an hp' v y
 | [],[],ds,h,_=>by cases h;exact ⟨rfl,fun _=>rfl,fun rest j v y _ hy=>by simp[fD] at hy⟩
 | [],_::_,ds,h,_=>by cases h
 | _::_,[],ds,h,_=>by cases h
 | l::ls,x::xs,ds,h,au=>by
  simp only[rH] at h
  obtain ⟨a,h1,h⟩:=bind_some h
  obtain ⟨b,h2,h⟩:=bind_some h
  cases h
  simp only[List.all_cons,Bool.and_eq_true] at au
  obtain ⟨i1,i2,i3⟩:=zc iN h2 au.2
  obtain ⟨ch,wh⟩:=I0 (P:=P) (w:=w) (I:=I) iN h1 au.1
  have hd: ∀rest,(a++b++rest).drop l.size=b++rest:=fun rest=>by rw[List.append_assoc];exact m8 ch
  refine ⟨by simp only[List.length_append,rR];omega,fun rest=>by simp only[fD,List.length_cons,hd,i2],fun rest j v y hv hy=> ?_⟩
  simp only[fD,hd] at hy
  cases j with
  | zero=>
   simp at hy
   subst hy
   exact wh _ v (hv x rfl)
  | succ j=>exact i3 rest j v y (fun x hx=>hv x (by simpa using hx)) (by simpa using hy)
end
section
variable {P:Program} {A:cH} {w w':World} {I I' I2:Nat→Prop} {μ β an:Nat→Option Nat} {hp hp' hp0:Nat→Option ag} {C:ae} {B:Nat} {M:Nat→Prop} {w0:Start}
theorem gQ: ∀{l:List ag} {j:Nat},jq l j=l[j]?
 | [],j=>by simp[jq]
 | b::l,0=>rfl
 | b::l,j+1=>by simp only[jq,gQ,List.getElem?_cons_succ]
theorem I1 {sl:Nat→V} {k:Nat} {y:V}: ∀{l:List (Nat × VS)} {ds:List V},yi sl l=some ds→(∀p∈l,∀d,o6 p.2 (sl p.1)=some d→d.length=p.2.size)→
  ds.length=nZ l∧∀rest,dS (fq l (ds++rest)) k=some y→∃s d gp,(k,s)∈l∧o6 s (sl k)=some d∧y=ku s (d++gp)
 | [],ds,h,_=>by cases h;exact ⟨rfl,fun rest h=>by cases h⟩
 | (q,s)::l,ds,h,hz=>by
  simp only[yi] at h
  obtain ⟨a,h1,h⟩:=bind_some h
  obtain ⟨b,h2,h⟩:=bind_some h
  cases h
  obtain ⟨i1,i2⟩:=I1 (k:=k) (y:=y) h2 fun p hp=>hz p (List.mem_cons_of_mem _ hp)
  have ch:=hz (q,s) (List.mem_cons_self ..) a h1
  refine ⟨by simp only[List.length_append,nZ];simp only at ch;omega,fun rest hl=> ?_⟩
  simp only[fq,dS] at hl
  rw[show (a++b++rest).drop s.size=b++rest by rw[List.append_assoc];exact m8 ch] at hl
  cases hb:Nat.beq k q with
  | true=>
   rw[hb] at hl
   rw[Nat.beq_eq] at hb
   subst hb
   cases hl
   exact ⟨s,a,b++rest,List.mem_cons_self ..,h1,by rw[List.append_assoc]⟩
  | false=>
   rw[hb] at hl
   obtain ⟨s',d,gp,m1,m2,m3⟩:=i2 rest hl
   exact ⟨s',d,gp,List.mem_cons_of_mem _ m1,m2,m3⟩
theorem I4 {α:Type} {c:Bool} {x:Option α} {a:α} (h:(bif c then x else none)=some a):c=true∧x=some a:=by
 cases c with
 | true=>exact ⟨rfl,h⟩
 | false=>cases h
theorem aas {n:Nat} {b:BS} {o:Option ag} {ds:List V} (h:kq b o=some ds) (au:b.ok n=true):ds.length=b.size:=by
 cases b with
 | dead=>cases o<;>(cases h;rfl)
 | var T0 ls=>
  cases o with
  | none=>cases h
  | some blk=>
   cases blk<;>simp only[kq] at h<;>first|(cases h;done)|skip
   exact (zc (P:=default) (w:=default) (I:=fun _=>False) (β:=fun _=>none) (hp:=fun _=>none) (fun _ _=>⟨rfl,rfl⟩) (I4 h).2 au).1
 | arr e fz=>
  cases o with
  | none=>cases h
  | some blk=>
   cases blk<;>simp only[kq] at h<;>first|(cases h;done)|skip
   rw[tT h] at h
   cases h
   rfl
 | nest e=>
  cases o with
  | none=>cases h
  | some blk=>
   cases blk<;>simp only[kq] at h<;>first|(cases h;done)|skip
   rw[tT h] at h
   cases h
   rfl
 | map t=>
  cases o with
  | none=>cases h
  | some blk=>
   cases blk<;>simp only[kq] at h<;>first|(cases h;done)|skip
   rw[tT h] at h
   cases h
   rfl
theorem PF {n:Nat}: ∀{l:List BS} {j:Nat} {ds:List V},yj hp j l=some ds→l.all (BS.ok n)=true→
  (∀rest,(eV l (ds++rest)).length=l.length)∧∀(rest:List V) (i:Nat) (blk:ag),(eV l (ds++rest))[i]? =some blk→∃b d gp,l[i]? =some b∧b.ok n=true∧kq b (hp (j+i))=some d∧blk=fP b (d++gp)
 | [],j,ds,h,_=>by cases h;exact ⟨fun _=>rfl,fun rest i blk hb=>by simp[eV] at hb⟩
 | b::l,j,ds,h,au=>by
  simp only[yj] at h
  obtain ⟨a,h1,h⟩:=bind_some h
  obtain ⟨c,h2,h⟩:=bind_some h
  cases h
  simp only[List.all_cons,Bool.and_eq_true] at au
  obtain ⟨i1,i2⟩:=PF h2 au.2
  have ch:=aas h1 au.1
  have hd: ∀rest,(a++c++rest).drop b.size=c++rest:=fun rest=>by rw[List.append_assoc];exact m8 ch
  refine ⟨fun rest=>by simp only[eV,List.length_cons,hd,i1],fun rest i blk hb=> ?_⟩
  simp only[eV,hd] at hb
  cases i with
  | zero=>
   simp at hb
   exact ⟨b,a,c++rest,rfl,au.1,h1,by rw[←hb]⟩
  | succ i=>
   obtain ⟨b',d,gp,m1,m2,m3,m4⟩:=i2 rest i blk (by simpa using hb)
   exact ⟨b',d,gp,by simpa using m1,m2,by rw[show j+(i+1)=j+1+i by omega];exact m3,m4⟩
theorem aat {n:Nat} {b:BS} {blk:ag} {ds rest:List V} (h:kq b (some blk)=some ds) (au:b.ok n=true):
  blk.le (fP b (ds++rest))∧(fP b (ds++rest)= .dead∨fP b (ds++rest)=blk∨∃T ls cs,b= .var T ls∧blk= .var T cs∧rH ls cs=some ds∧fP b (ds++rest)= .var T (fD ls (ds++rest))):=by
 cases b with
 | dead=>exact ⟨by cases blk<;>trivial,.inl rfl⟩
 | var T0 ls=>
  cases blk<;>simp only[kq] at h<;>first|(cases h;done)|skip
  obtain ⟨hT,h0⟩:=I4 h
  clear h
  rw[Nat.beq_eq] at hT
  subst hT
  exact ⟨rfl,.inr (.inr ⟨_,_,_,rfl,rfl,h0,rfl⟩)⟩
 | arr e fz=>
  cases blk<;>simp only[kq] at h<;>first|(cases h;done)|skip
  rename_i e' es mM
  have hb:=tT h
  simp only[Bool.and_eq_true,Nat.beq_eq,beq_iff_eq] at hb
  obtain ⟨rfl,rfl⟩:=hb
  simp only[Nat.beq_refl,beq_self_eq_true,Bool.and_self,cond_true,Option.some.injEq] at h
  subst h
  exact ⟨⟨rfl,rfl⟩,.inr (.inl rfl)⟩
 | nest e=>
  cases blk<;>simp only[kq] at h<;>first|(cases h;done)|skip
  rename_i e' es ai
  have hb:=tT h
  simp only[Bool.and_eq_true,Nat.beq_eq] at hb
  obtain ⟨rfl,hv⟩:=hb
  have:=wo hv
  subst this
  simp only[Nat.beq_refl,Bool.true_and] at h
  cases h
  exact ⟨⟨rfl,rfl,rfl,fun _=>Nat.le_refl _⟩,.inr (.inl rfl)⟩
 | map t=>
  cases blk<;>simp only[kq] at h<;>first|(cases h;done)|skip
  rename_i t' es
  have hb:=tT h
  rw[Nat.beq_eq] at hb
  subst hb
  simp only[Nat.beq_refl,cond_true,Option.some.injEq] at h
  subst h
  exact ⟨rfl,.inr (.inl rfl)⟩
theorem PH {m:Nat} {S:Shape} {st:St} {ds:List V} (h:iF m S st=some ds):
  S.ok=true∧m≤S.a8.length∧∃a b,yi st.sl S.bI=some a∧yj st.hp 0 S.a8=some b∧ds=a++b:=by
 unfold iF at h
 cases hc:(S.ok&&Nat.ble m S.a8.length) with
 | false=>rw[hc] at h;cases h
 | true=>
  rw[hc] at h
  simp only[cond_true] at h
  simp only[Bool.and_eq_true,Nat.ble_eq] at hc
  obtain ⟨a,h1,h⟩:=bind_some h
  obtain ⟨b,h2,h⟩:=bind_some h
  cases h
  exact ⟨hc.1,hc.2,a,b,h1,h2,rfl⟩
theorem reshape {m:Nat} {S:Shape} {st:St} {ds:List V} (h:iF m S st=some ds) (hS:aD P w I β st.hp B M w0):
  aD P w I β (bq S ds).hp B M w0∧(∀(k:Nat) (v:Value),ah P w I β st.hp v (st.sl k)→ah P w I β (bq S ds).hp v ((bq S ds).sl k))∧
  (∀(μ:Nat→Option Nat) (hp0:Nat→Option ag),(∀id blk,hp0 id=some blk→id<m)→Le P w0.w w0.I μ hp0 w I β st.hp→Le P w0.w w0.I μ hp0 w I β (bq S ds).hp)∧
  ∀j blk',(bq S ds).hp j=some blk'→blk'≠ .dead→∃blk,st.hp j=some blk∧blk.le blk'∧∀o b,bA P w o blk' b→bA P w o blk b:=by
 obtain ⟨au,hm,a,b,h1,h2,rfl⟩:=PH h
 unfold Shape.ok at au
 rw[Bool.and_eq_true] at au
 obtain ⟨PI,IH⟩:=au
 have aZ: ∀p∈S.bI,∀d,o6 p.2 (st.sl p.1)=some d→d.length=p.2.size:=fun p hp d hd=>
  (I0 (P:=P) (w:=w) (I:=I) (β:=β) (hp:=st.hp) (fun _ _=>⟨rfl,rfl⟩) hd (List.all_eq_true.1 PI p hp)).1
 have ch:a.length=nZ S.bI:=(I1 (k:=0) (y:= .undef) h1 aZ).1
 have DV:(bq S (a++b)).hp=jq (eV S.a8 (b++[])):=by
  simp only[bq,mk,List.append_nil]
  rw[m8 ch]
 obtain ⟨bl,bg⟩:=PF h2 IH
 have get: ∀j blk',(bq S (a++b)).hp j=some blk'→j<S.a8.length∧∃bs d gp,bs.ok S.a8.length=true∧kq bs (st.hp j)=some d∧blk'=fP bs (d++gp):=by
  intro j blk' hj
  rw[DV,gQ] at hj
  obtain ⟨bs,d,gp,m1,m2,m3,m4⟩:=bg [] j blk' hj
  rw[Nat.zero_add] at m3
  exact ⟨(List.getElem?_eq_some_iff.1 m1).1,bs,d,gp,m2,m3,m4⟩
 have have': ∀j,j<S.a8.length→∃blk',(bq S (a++b)).hp j=some blk':=by
  intro j hj
  rw[DV,gQ]
  exact ⟨_,List.getElem?_eq_getElem (by rw[bl];exact hj)⟩
 generalize gM:(bq S (a++b)).hp=tU at*
 let bx:Nat→Option ag:=fun id=>if id<S.a8.length then tU id else st.hp id
 have back: ∀j blk',tU j=some blk'→blk'≠ .dead→∃blk,st.hp j=some blk∧blk.le blk'∧(blk'=blk∨∃T ls cs d gp,ls.all (VS.ok S.a8.length)=true∧blk= .var T cs∧rH ls cs=some d∧blk'= .var T (fD ls (d++gp))):=by
  intro j blk' hj hd
  obtain ⟨dg,bs,d,gp,m1,m2,m3⟩:=get j blk' hj
  cases bP:st.hp j with
  | none=>
   rw[bP] at m2
   cases bs<;>simp only[kq] at m2<;>first|(cases m2;done)|skip
   exact absurd m3 hd
  | some blk=>
   rw[bP] at m2
   obtain ⟨n1,n2⟩:=aat (rest:=gp) m2 m1
   rw[←m3] at n1 n2
   refine ⟨blk,rfl,n1,?_⟩
   rcases n2 with e|e|⟨T,ls,cs,e1,e2,e3,e4⟩
   ·exact absurd e hd
   ·exact .inl e
   ·subst e1
    exact .inr ⟨T,ls,cs,d,gp,m1,e2,e3,e4⟩
 have le1: ∀j blk,st.hp j=some blk→j<S.a8.length→∃blk',tU j=some blk'∧blk.le blk':=by
  intro j blk hj dg
  obtain ⟨blk',ax⟩:=have' j dg
  refine ⟨blk',ax,?_⟩
  by_cases hd:blk'= .dead
  ·subst hd;cases blk<;>trivial
  ·obtain ⟨b8,e1,e2,_⟩:=back j blk' ax hd
   rw[hj] at e1;cases e1
   exact e2
 have aau: ∀j e es ai e' aH vers',st.hp j=some (.nest e es ai)→tU j=some (.nest e' aH vers')→e'=e∧aH=es∧vers'=ai:=by
  intro j e es ai e' aH vers' hj gA
  obtain ⟨blk,e1,_,e3⟩:=back j _ gA (by simp)
  rw[hj] at e1;cases e1
  rcases e3 with e3|⟨_,_,_,_,_,_,e3,_⟩
  ·cases e3;exact ⟨rfl,rfl,rfl⟩
  ·cases e3
 have hle:Le P w I β st.hp w I β bx:=by
  refine ⟨fun _ h=>h,fun _ _=>rfl,fun id blk ab=> ?_,fun _ _ _ _ _ _ _ _=>rfl,Le.rX (fun _ _ _ _ _ _=>rfl) fun id e es ai e' aH vers' ab bE=> ?_⟩
  ·by_cases hl:id<S.a8.length
   ·obtain ⟨blk',e1,e2⟩:=le1 id blk ab hl
    exact ⟨blk',by simp only[bx,if_pos hl];exact e1,e2,fun _=>rfl⟩
   ·exact ⟨blk,by simp only[bx,if_neg hl];exact ab,ag.le_refl _,fun _=>rfl⟩
  ·by_cases hl:id<S.a8.length
   ·simp only[bx,if_pos hl] at bE
    exact aau _ _ _ _ _ _ _ ab bE
   ·simp only[bx,if_neg hl] at bE
    rw[ab] at bE;cases bE
    exact ⟨rfl,rfl,rfl⟩
 have iN:za S.a8.length β bx β tU:=fun id ab=>⟨by simp only[bx,if_pos ab],rfl⟩
 have v7: ∀j blk' blk o b,tU j=some blk'→st.hp j=some blk→bA P w o blk' b→bA P w o blk b:=by
  intro j blk' blk o b gA hj ho
  obtain ⟨b8,e1,_,e3⟩:=back j blk' gA ho.alive
  rw[hj] at e1;cases e1
  rcases e3 with e3|⟨T,ls,cs,d,gp,_,e3,_,e5⟩
  ·subst e3;exact ho
  ·subst e3;subst e5
   exact .root (by simp) (ho.flat (by simp))
 refine ⟨⟨⟨fun j blk' hj=> ?_,fun j1 j2 b1 b2 b' e1 e2 o1 o2=> ?_,fun j blk b' hj ho=> ?_,hS.h.jt⟩,hS.cg,hS.size,hS.new,hS.io⟩,fun k v hv=> ?_,fun μ hp0 aR hE=> ?_,fun j blk' hj hd=> ?_⟩
 ·by_cases hd:blk'= .dead
  ·subst hd;exact .dead
  ·obtain ⟨blk,e1,_,e3⟩:=back j blk' hj hd
   have hr:=hS.h.rel j blk e1
   generalize β j=o at hr
   rcases e3 with e3|⟨T0,ls,cs,d,gp,q1,e3,e4,e5⟩
   ·subst e3
    cases hr with
    | @var xs b' Ca T hb hh hs cW hx gm=>
     obtain ⟨dg,bs,d,gp,m1,m2,m3⟩:=get j _ hj
     rw[e1] at m2
     cases bs<;>simp only[kq] at m2<;>first|(cases m2;done)|skip
     ·rename_i T0 ls
      simp only[fP] at m3
      obtain ⟨hT,m2⟩:=I4 m2
      obtain ⟨i1,i2,i3⟩:=zc (P:=P) (w:=w) (I:=I) iN m2 m1
      injection m3 with m4 m3
      rw[m3]
      exact .var hb hh (by rw[i2];exact hs) cW (fun i v y hi hy=>i3 gp i v y (fun x cC=>(hx i v x hi cC).mono hle) hy) gm
     ·simp only[fP] at m3
      cases m3
    | dV hb=>exact .dV hb
    | arr a1 a2 a3 a4 a5 a6 a7=>exact .arr a1 a2 a3 a4 a5 a6 a7
    | dead=>exact absurd rfl hd
    | nest a1 a2 a3=>exact .nest a1 a2 a3
    | map a1 a2 a3 a4 a5 a6 a7=>exact .map a1 a2 a3 a4 a5 a6 a7
   ·subst e3
    subst e5
    cases hr with
    | @var xs b' Ca T hb hh hs cW hx gm=>
     obtain ⟨i1,i2,i3⟩:=zc (P:=P) (w:=w) (I:=I) iN e4 q1
     exact .var hb hh (by rw[i2];exact hs) cW (fun i v y hi hy=>i3 gp i v y (fun x cC=>(hx i v x hi cC).mono hle) hy) gm
 ·obtain ⟨c1,x1,_,_⟩:=back j1 b1 e1 o1.alive
  obtain ⟨c2,x2,_,_⟩:=back j2 b2 e2 o2.alive
  exact hS.h.inj j1 j2 c1 c2 b' x1 x2 (v7 _ _ _ _ _ e1 x1 o1) (v7 _ _ _ _ _ e2 x2 o2)
 ·obtain ⟨c1,x1,_,_⟩:=back j blk hj ho.alive
  exact hS.h.own j c1 b' x1 (v7 _ _ _ _ _ hj x1 ho)
 ·change ah P w I β tU v (iZ (fq S.bI (a++b)) k)
  unfold iZ
  cases I5:dS (fq S.bI (a++b)) k with
  | none=>exact .undef
  | some y=>
   obtain ⟨s,d,gp,n1,n2,n3⟩:=(I1 h1 aZ).2 b I5
   simp only[Option.getD_some,n3]
   exact (I0 (P:=P) (w:=w) (I:=I) iN n2 (List.all_eq_true.1 PI _ n1)).2 gp v (hv.mono hle)
 ·have h3:=hE.trans hle
  refine ⟨h3.dz,h3.cg,fun id blk ab=> ?_,fun id blk blk' b' ab bE hd hb=> ?_,fun id e es ai e' aH vers' b2 q i c t v e1 l ab bE=> ?_⟩
  ·have hl:=aR id blk ab
   obtain ⟨blk',k1,k2,k3⟩:=h3.blk id blk ab
   simp only[bx,if_pos (show id<S.a8.length by omega)] at k1
   exact ⟨blk',k1,k2,k3⟩
  ·have hl:=aR id blk ab
   exact h3.size id blk blk' b' ab (by simp only[bx,if_pos (show id<S.a8.length by omega)];exact bE) hd hb
  ·have hl:=aR id _ ab
   exact h3.row id e es ai e' aH vers' b2 q i c t v e1 l ab (by simp only[bx,if_pos (show id<S.a8.length by omega)];exact bE)
 ·obtain ⟨blk,e1,e2,_⟩:=back j blk' hj hd
  exact ⟨blk,e1,e2,fun o b' ho=>v7 _ _ _ _ _ hj e1 ho⟩
end
section
variable {P:Program} {A:cH} {w w':World} {I I' I2:Nat→Prop} {μ β an:Nat→Option Nat} {hp hp' hp0:Nat→Option ag} {C:ae} {B:Nat} {M:Nat→Prop} {w0:Start}
inductive eo (P:Program) (w:World) (β:Nat→Option Nat) (hp:Nat→Option ag):Place→Option Nat→ag→Prop
 | var {id:Nat} {T:TypeId} {cs I6:List V}:hp id=some (.var T cs)→eo P w β hp (.blk id) (β id) (.var T I6)
 | arr {id:Nat} {e:TypeId} {es:List V}:hp id=some (.arr e es false)→eo P w β hp (.blk id) (β id) (.arr e es false)
 | nest {id:Nat} {e:TypeId} {es:List V} {ai:List Nat}:hp id=some (.nest e es ai)→eo P w β hp (.blk id) (β id) (.nest e es [0,0,0])
 | row {id ver b b':Nat} {path:Path} {e0 e':TypeId} {es l:List V} {ai:List Nat}:hp id=some (.nest e0 es ai)→β id=some b→At P w b e0 es path b' e' l→yh P e'=true→
   0<path.length→path.length≤ai.length→bD ai (path.length-1)=ver→0<l.length→eo P w β hp (.row id ver path) (some b') (.arr e' l false)
 | map {id:Nat} {t:TypeId} {es:List V}:hp id=some (.map t es)→eo P w β hp (.blk id) (β id) (.map t es)
def zd (P:Program) (w:World) (β:Nat→Option Nat) (hp:Nat→Option ag) (ρ:List Place) (μ:Nat→Option Nat) (hp0:Nat→Option ag):Prop:=
 ∀j p,ew ρ j=some p→∃blk,hp0 j=some blk∧eo P w β hp p (μ j) blk
theorem ot: ∀{l m:List Place} {j:Nat} {p:Place},ew l j=some p→ew (l++m) j=some p
 | [],m,j,p,h=>by cases h
 | a::l,m,0,p,h=>h
 | a::l,m,j+1,p,h=>ot (l:=l) h
theorem lk: ∀{l:List Place} {j:Nat},ew l j=l[j]?
 | [],j=>by simp[ew]
 | a::l,0=>rfl
 | a::l,j+1=>by simp only[ew,lk,List.getElem?_cons_succ]
structure Ext (P:Program) (w:World) (I:Nat→Prop) (β:Nat→Option Nat) (hp:Nat→Option ag) (h h':Hand) (d:List V) (u:List (Nat × ag)):Prop where
 ds:h'.ds=h.ds++d
 upd:h'.upd=h.upd++u
 D6: ∀q∈u,yE hp q
 pl: ∃m,h'.pl=h.pl++m
 nodup:(h.pl.map Place.id).Nodup→(h'.pl.map Place.id).Nodup
theorem Ext.refl (h:Hand):Ext P w I β hp h h [] []:=⟨by simp,by simp,by simp,⟨[],by simp⟩,id⟩
theorem Ext.trans {h1 h2 h3:Hand} {d1 d2:List V} {u1 u2:List (Nat × ag)} (a:Ext P w I β hp h1 h2 d1 u1) (b:Ext P w I β hp h2 h3 d2 u2):Ext P w I β hp h1 h3 (d1++d2) (u1++u2):=by
 obtain ⟨m1,e1⟩:=a.pl
 obtain ⟨m2,e2⟩:=b.pl
 exact ⟨by rw[b.ds,a.ds,List.append_assoc],by rw[b.upd,a.upd,List.append_assoc],fun q hq=>(List.mem_append.1 hq).elim (a.D6 q) (b.D6 q),⟨m1++m2,by rw[e2,e1,List.append_assoc]⟩,fun h=>b.nodup (a.nodup h)⟩
theorem Ext.look {h h':Hand} {d:List V} {u:List (Nat × ag)} (a:Ext P w I β hp h h' d u) {j:Nat} {p:Place} (hj:ew h.pl j=some p):ew h'.pl j=some p:=by
 obtain ⟨m,e⟩:=a.pl
 rw[e]
 exact ot hj
theorem Ext.leaf (h:Hand) (x:V):Ext P w I β hp h {h with ds:=h.ds++[x]} [x] []:=⟨rfl,by simp,by simp,⟨[],by simp⟩,id⟩
theorem aav {α:Type} {ρ:List Place} {j:Nat} {p:Place} {k:List Place→Rd α} {r:α} {rd:List Nat} (h:(unify ρ j p k).run C hp=some (r,rd)) (hb: ∃id,p= .blk id∨∃ver path,p= .row id ver path):
  ∃jB,(k jB).run C hp=some (r,rd)∧(∃m,jB=ρ++m)∧ew jB j=some p∧((ρ.map Place.id).Nodup→(jB.map Place.id).Nodup):=by
 unfold unify at h
 cases hc:Nat.blt j ρ.length with
 | true=>
  rw[hc] at h
  obtain ⟨h1,h2⟩:=aE h
  refine ⟨ρ,h2,⟨[],by simp⟩,?_,id⟩
  unfold Oc at h1
  split at h1
  ·rename_i a b he
   rw[Nat.beq_eq] at h1
   subst h1
   exact he
  ·cases h1
 | false=>
  rw[hc] at h
  obtain ⟨h1,h2⟩:=aE h
  simp only[Bool.and_eq_true,Nat.beq_eq,Bool.not_eq_true'] at h1
  obtain ⟨rfl,h3⟩:=h1
  refine ⟨ρ++[p],h2,⟨[p],rfl⟩,?_,fun hn=> ?_⟩
  ·rw[lk];simp
  ·rw[List.map_append,List.nodup_append]
   refine ⟨hn,by simp,fun a ha b hb=> ?_⟩
   simp only[List.map_cons,List.map_nil,List.mem_singleton] at hb
   subst hb
   intro e
   subst e
   rw[vX ha] at h3
   cases h3
theorem tW {α:Type} {h:Hand} {j:Nat} {p:Place} {k:List Place→Rd α} {r:α} {rd:List Nat} (hr:(unify h.pl j p k).run C hp=some (r,rd)) (ds:List V):
  ∃jB,(k jB).run C hp=some (r,rd)∧ew jB j=some p∧Ext P w I β hp h {h with pl:=jB,ds:=h.ds++ds} ds []:=by
 obtain ⟨jB,a,b,c,d⟩:=aav hr (by cases p with|blk id=>exact ⟨id,.inl rfl⟩|row id ver path=>exact ⟨id,.inr ⟨ver,path,rfl⟩⟩)
 exact ⟨jB,a,c,⟨rfl,by simp,by simp,b,d⟩⟩
theorem aaw {o:Option Nat} {blk:ag} {e:TypeId} {id j:Nat} {v:Value} (hv:ah P w I β hp v (.whole e id)) (hl:eo P w β hp (.blk id) o blk) (hj:hp0 j=some blk) (jC:μ j=o):ah P w I' μ hp0 v (.whole e j):=by
 cases hl with
 | var h=>
  cases hv with
  | ey h2=>rw[h] at h2;cases h2
  | dU h2=>rw[h] at h2;cases h2
  | whole h2=>rw[h] at h2;cases h2
  | eH h2=>rw[h] at h2;cases h2
 | arr h=>
  cases hv with
  | ey h2=>rw[h] at h2;cases h2
  | dU h2 hb=>rw[h] at h2;cases h2;exact .dU hj (jC.trans hb)
  | whole h2 hb a b c=>rw[h] at h2;cases h2;exact .whole hj (jC.trans hb) a b c
  | eH h2=>rw[h] at h2;cases h2
 | nest h=>
  cases hv with
  | ey h2=>rw[h] at h2;cases h2
  | dU h2=>rw[h] at h2;cases h2
  | whole h2=>rw[h] at h2;cases h2
  | eH h2 hb a b c=>rw[h] at h2;cases h2;exact .eH hj (jC.trans hb) a b c
 | map h=>
  cases hv with
  | ey h2=>rw[h] at h2;cases h2
  | dU h2=>rw[h] at h2;cases h2
  | whole h2=>rw[h] at h2;cases h2
  | eH h2=>rw[h] at h2;cases h2
theorem aax {o:Option Nat} {blk:ag} {t:TypeId} {id j:Nat} {v:Value} (hv:ah P w I β hp v (.bX t id)) (hl:eo P w β hp (.blk id) o blk) (hj:hp0 j=some blk) (jC:μ j=o):ah P w I' μ hp0 v (.bX t j):=by
 cases hv with
 | ic h2=>cases hl<;>(rename_i h;rw[h] at h2;cases h2)
 | bX h2 hb=>
  cases hl<;>(rename_i h;rw[h] at h2;cases h2)
  exact .bX hj (jC.trans hb)
theorem aay {o:Option Nat} {blk:ag} {e:TypeId} {id off n j:Nat} {v:Value} (hv:ah P w I β hp v (.sub e id off n)) (hl:eo P w β hp (.blk id) o blk) (hj:hp0 j=some blk) (jC:μ j=o):ah P w I' μ hp0 v (.sub e j off n):=by
 cases hl with
 | var h=>
  cases hv with
  | gk h2=>rw[h] at h2;cases h2
  | fT h2=>rw[h] at h2;cases h2
  | sub h2=>rw[h] at h2;cases h2
 | arr h=>
  cases hv with
  | gk h2=>rw[h] at h2;cases h2
  | fT h2 hb=>rw[h] at h2;cases h2;exact .fT hj (jC.trans hb)
  | sub h2 hb a b c=>rw[h] at h2;cases h2;exact .sub hj (jC.trans hb) a b c
 | nest h=>
  cases hv with
  | gk h2=>rw[h] at h2;cases h2
  | fT h2=>rw[h] at h2;cases h2
  | sub h2=>rw[h] at h2;cases h2
 | map h=>
  cases hv with
  | gk h2=>rw[h] at h2;cases h2
  | fT h2=>rw[h] at h2;cases h2
  | sub h2=>rw[h] at h2;cases h2
theorem PJ {o:Option Nat} {blk:ag} {id i c j:Nat} {v:Value} (hv:ah P w I β hp v (.ptr id i c)) (hl:eo P w β hp (.blk id) o blk) (hj:hp0 j=some blk) (jC:μ j=o):ah P w I' μ hp0 v (.ptr j i c):=by
 cases hl with
 | @var _ T0 cs I6 h=>
  obtain ⟨b,hb,rfl⟩:=hv.gO h (by simp)
  exact ah.ptr (blk:= .var T0 I6) hj (by simp) (jC.trans hb)
 | @arr _ e es h=>
  obtain ⟨b,hb,rfl⟩:=hv.gO h (by simp)
  exact ah.ptr (blk:= .arr e es false) hj (by simp) (jC.trans hb)
 | @nest _ e es ai h=>
  obtain ⟨b,hb,rfl⟩:=hv.gO h (by simp)
  exact ah.ptr (blk:= .nest e es [0,0,0]) hj (by simp) (jC.trans hb)
 | @map _ t es h=>
  obtain ⟨b,hb,rfl⟩:=hv.gO h (by simp)
  exact ah.ptr (blk:= .map t es) hj (by simp) (jC.trans hb)
theorem aaz (cJ: ∀id blk,hp id=some blk→eh P w I β hp (β id) blk) {id b i c:Nat} {e0 t:TypeId} {es l:List V} {ai:List Nat} {q:Path} {e:TypeId} {v:Value} (ab:hp id=some (.nest e0 es ai)) (hb:β id=some b)
  (ht:P.underlying t=some (.slice e)) (hc:lS P w b e0 es q i c t v (.list e l)) (hl:0<l.length): ∃b1 cap,v= .slice (some ⟨b1,0,none⟩) l.length cap∧cap*P.cellsOf e=bsize w b1∧l.length≤cap∧cap≤maxLen∧At P w b e0 es (q++[(i,c)]) b1 e l:=by
 obtain ⟨b2,e1,m,Ca,T,f,x,n1,n2,n3,n4,n5,n6⟩:=hc
 have hr:=cJ _ _ ab
 cases hr with
 | nest ax hr hn=>
  rw[hb] at ax;cases ax
  have hR:=hr _ _ _ _ n1
  obtain ⟨yI,c1,c2,c3⟩:=hR.cells
  rw[n2] at c1
  cases c1
  have tC:c<P.cellsOf e1:=by rw[←fG hR.ok];exact (List.getElem?_eq_some_iff.1 n4).1
  obtain ⟨v',d1,d2⟩:=c3 i c x t n3 n4 tC
  rw[n6] at d1
  cases d1
  rw[n5] at d2
  generalize hy:V.list e l=y at d2
  cases d2 with
  | fS a p=>unfold fO at a;rw[ht] at a;cases a
  | emp hu ha=>cases hy;simp at hl
  | row hu lU aZ cd oc=>
   cases hy
   exact ⟨_,_,rfl,aZ,cd,oc,n1.snoc n2 n3 n4 ht n5 lU n6⟩
theorem aaA (S:aD P w I β hp B M w0) {o:Option Nat} {blk:ag} {e:TypeId} {id ver j:Nat} {path:Path} {v:Value} (hv:ah P w I β hp v (.row e id ver path)) (hl:eo P w β hp (.row id ver path) o blk) (hj:hp0 j=some blk) (jC:μ j=o):ah P w I' μ hp0 v (.whole e j):=by
 cases hl with
 | row h hb ha hf h1 h2 h3 h4=>
  obtain ⟨b2,q,i,c,t,l2,rfl,iJ,ht,hc⟩:=hv.Oj h h1 h2 h3
  rw[hb] at iJ;cases iJ
  obtain ⟨p1,p2⟩:=H3 ha
  have ju:=hc
  obtain ⟨b3,e3,m3,Ca,T,f,x,n1,n2,n3,n4,n5,n6⟩:=ju
  obtain ⟨q1,q2⟩:=Ds n1 n3 n4 ht n5
  rw[p1] at q1
  rw[p2] at q2
  cases q1
  cases q2
  obtain ⟨b1,cap,rfl,m1,m2,m4,m5⟩:=aaz S.h.rel h hb ht hc h4
  have:=aaB ha m5
  subst this
  exact .whole hj jC m1 m2 m4
where
 aaB {b b1 b2:Nat} {e e1 e2:TypeId} {es l l2:List V} {q:Path} (h:At P w b e es q b1 e1 l) (h2:At P w b e es q b2 e2 l2):b2=b1:=(h.fun h2).1
theorem PK (S:aD P w I β hp B M w0) {α:Type} {l:LS} {x:V} {h:Hand} {k:Hand→Rd α} {r:α} {rd:List Nat} {v:Value} (hr:(De P l x h k).run C hp=some (r,rd)) (hv:ah P w I β hp v x):
  ∃h' fc d u,(k h').run C hp=some (r,fc)∧Ext P w I β hp h h' d u∧d.length=l.size∧
   ∀(I':Nat→Prop) (μ:Nat→Option Nat) (hp0:Nat→Option ag),(∀b,I b→I' b)→(∀q∈u,∀b,rY P w β hp q.1 b→I' b)→∀ρ m,ρ=h'.pl++m→zd P w β hp ρ μ hp0→∀rest,ah P w I' μ hp0 v (iE l (d++rest)):=by
 have plain: ∀{x':V} {jg:List Nat},(k {h with ds:=h.ds++[x']}).run C hp=some (r,jg)→l.size=1→(∀I' μ hp0 rest,ah P w I' μ hp0 v (iE l ([x']++rest)))→∃h' fc d u,(k h').run C hp=some (r,fc)∧Ext P w I β hp h h' d u∧d.length=l.size∧
   ∀(I':Nat→Prop) (μ:Nat→Option Nat) (hp0:Nat→Option ag),(∀b,I b→I' b)→(∀q∈u,∀b,rY P w β hp q.1 b→I' b)→∀ρ m,ρ=h'.pl++m→zd P w β hp ρ μ hp0→∀rest,ah P w I' μ hp0 v (iE l (d++rest)):=
  fun hk hs hx=>⟨_,_,_,_,hk,Ext.leaf h _,hs.symm,fun I' μ hp0 _ _ _ _ _ _ rest=>hx I' μ hp0 rest⟩
 have pn: ∀{jg:List Nat},(k h).run C hp=some (r,jg)→l.size=0→(∀I' μ hp0 rest,ah P w I' μ hp0 v (iE l rest))→∃h' fc d u,(k h').run C hp=some (r,fc)∧Ext P w I β hp h h' d u∧d.length=l.size∧
   ∀(I':Nat→Prop) (μ:Nat→Option Nat) (hp0:Nat→Option ag),(∀b,I b→I' b)→(∀q∈u,∀b,rY P w β hp q.1 b→I' b)→∀ρ m,ρ=h'.pl++m→zd P w β hp ρ μ hp0→∀rest,ah P w I' μ hp0 v (iE l (d++rest)):=
  fun hk hs hx=>⟨_,_,_,_,hk,Ext.refl h,by simp[hs],fun I' μ hp0 _ _ _ _ _ _ rest=>hx I' μ hp0 rest⟩
 unfold De at hr
 cases l with
 | rI=>exact pn hr rfl fun _ _ _ _=> .undef
 | int kd=>
  cases x<;>simp only at hr<;>first|(cases hr;done)|skip
  obtain ⟨h1,h2⟩:=aE hr
  simp only[decide_eq_true_eq] at h1
  subst h1
  obtain rfl:=hv.eI
  exact plain h2 rfl fun _ _ _ _=> .int
 | bool=>
  cases x<;>simp only at hr<;>first|(cases hr;done)|skip
  obtain rfl:=hv.jw
  exact plain hr rfl fun _ _ _ _=> .bool
 | str=>
  cases x<;>simp only at hr<;>first|(cases hr;done)|skip
  obtain ⟨s,rfl,hl⟩:=hv.lW
  exact plain hr rfl fun _ _ _ _=> .str hl
 | nilS e=>
  cases x<;>simp only at hr<;>first|(cases hr;done)|skip
  obtain ⟨h1,h2⟩:=aE hr
  cases hv with
  | nilS=>exact pn h2 rfl fun _ _ _ _=> .nilS
 | dE=>
  cases x<;>simp only at hr<;>first|(cases hr;done)|skip
  cases hv with
  | dE=>exact pn hr rfl fun _ _ _ _=> .dE
 | row e j cs=>
  cases x<;>simp only at hr<;>first|(cases hr;done)|skip
  rename_i e' id ver path
  obtain ⟨e0,es,ai,l0,ab,p1,p2,p3,hr⟩:=oa hr
  obtain ⟨h1,h2⟩:=aE hr
  simp only[Bool.and_eq_true,Nat.beq_eq,Nat.ble_eq] at h1
  obtain ⟨rfl,og,hp3⟩:=h1
  have:=wo og
  subst this
  obtain ⟨jB,a,b,c⟩:=tW (P:=P) (w:=w) (I:=I) (β:=β) h2 (path.map fun p=>eu p.1)
  refine ⟨_,_,path.map fun p=>eu p.1,[],a,c,by simp[LS.size],fun I' μ hp0 i1 i2 ρ m dK dq rest=> ?_⟩
  obtain ⟨blk,k1,k2⟩:=dq j _ (by rw[dK];exact ot b)
  obtain ⟨bb,q,i,cc,t,l,rfl,hb,ht,hc⟩:=hv.Oj ab p1 p2 p3
  have qk:blk= .nest e0 es [0,0,0]∧μ j=β id:=by
   generalize μ j=o at k2
   cases k2 with
   | var h=>rw[ab] at h;cases h
   | arr h=>rw[ab] at h;cases h
   | map h=>rw[ab] at h;cases h
   | nest h=>rw[ab] at h;cases h;exact ⟨rfl,rfl⟩
  obtain ⟨rfl,jC⟩:=qk
  simp only[iE,D4]
  have hq:q.length<3:=by rw[List.length_append,List.length_singleton] at hp3;omega
  refine .row k1 (jC.trans hb) (by simpa using hq) ?_ ht hc
  match q.length,hq with
  | 0,_=>rfl
  | 1,_=>rfl
  | 2,_=>rfl
 | cG j cs c=>cases hr
 | vz k n=>cases hr
 | dF t=>
  cases x<;>simp only at hr<;>first|(cases hr;done)|skip
  obtain ⟨h1,h2⟩:=aE hr
  cases hv with
  | dF=>exact pn h2 rfl fun _ _ _ _=> .dF
 | bX t j=>
  cases x<;>simp only at hr<;>first|(cases hr;done)|skip
  rename_i t' id
  obtain ⟨h1,h2⟩:=aE hr
  rw[Nat.beq_eq] at h1
  subst h1
  obtain ⟨jB,a,b,c⟩:=tW (P:=P) (w:=w) (I:=I) (β:=β) h2 []
  refine ⟨_,_,[],[],a,by simpa using c,rfl,fun I' μ hp0 i1 i2 ρ m dK dq rest=> ?_⟩
  obtain ⟨blk,k1,k2⟩:=dq j _ (by rw[dK];exact ot b)
  exact aax hv k2 k1 rfl
 | list e=>
  obtain ⟨⟨y,u⟩,l1,l2,h1,h2⟩:=kA hr
  cases y<;>simp only at h2<;>first|(cases h2;done)|skip
  rename_i e' es
  obtain ⟨h3,h4⟩:=aE h2
  rw[Nat.beq_eq] at h3
  subst h3
  obtain ⟨p1,p2⟩:=Dt S.h.rel h1 hv
  exact ⟨_,_,[.list e es],u,h4,⟨rfl,rfl,p1,⟨[],by simp⟩,id⟩,rfl,fun I' μ hp0 i1 i2 _ _ _ _ rest=> .list (p2 I' i1 i2)⟩
 | whole e j=>
  cases x<;>simp only at hr<;>first|(cases hr;done)|skip
  ·rename_i e' id
   obtain ⟨h1,h2⟩:=aE hr
   rw[Nat.beq_eq] at h1
   subst h1
   obtain ⟨jB,a,b,c⟩:=tW (P:=P) (w:=w) (I:=I) (β:=β) h2 []
   refine ⟨_,_,[],[],a,by simpa using c,rfl,fun I' μ hp0 i1 i2 ρ m dK dq rest=> ?_⟩
   obtain ⟨blk,k1,k2⟩:=dq j _ (by rw[dK];exact ot b)
   exact aaw hv k2 k1 rfl
  ·rename_i e' id ver path
   obtain ⟨h1,h2⟩:=aE hr
   rw[Nat.beq_eq] at h1
   subst h1
   obtain ⟨jB,a,b,c⟩:=tW (P:=P) (w:=w) (I:=I) (β:=β) h2 []
   refine ⟨_,_,[],[],a,by simpa using c,rfl,fun I' μ hp0 i1 i2 ρ m dK dq rest=> ?_⟩
   obtain ⟨blk,k1,k2⟩:=dq j _ (by rw[dK];exact ot b)
   exact aaA S hv k2 k1 rfl
 | sub e j=>
  cases x<;>simp only at hr<;>first|(cases hr;done)|skip
  rename_i e' id o n
  obtain ⟨h1,h2⟩:=aE hr
  rw[Nat.beq_eq] at h1
  subst h1
  obtain ⟨jB,a,b,c⟩:=tW (P:=P) (w:=w) (I:=I) (β:=β) h2 [eu o,eu n]
  refine ⟨_,_,[eu o,eu n],[],a,c,rfl,fun I' μ hp0 i1 i2 ρ m dK dq rest=> ?_⟩
  obtain ⟨blk,k1,k2⟩:=dq j _ (by rw[dK];exact ot b)
  simpa[iE,V.nth] using aay (I':=I') hv k2 k1 rfl
 | ptr j=>
  cases x<;>simp only at hr<;>first|(cases hr;done)|skip
  rename_i id i c
  obtain ⟨jB,a,b,c'⟩:=tW (P:=P) (w:=w) (I:=I) (β:=β) hr [eu i,eu c]
  refine ⟨_,_,[eu i,eu c],[],a,c',rfl,fun I' μ hp0 i1 i2 ρ m dK dq rest=> ?_⟩
  obtain ⟨blk,k1,k2⟩:=dq j _ (by rw[dK];exact ot b)
  simpa[iE,V.nth] using PJ (I':=I') hv k2 k1 rfl
 | eg j i c=>
  cases x<;>simp only at hr<;>first|(cases hr;done)|skip
  rename_i id i' c'
  obtain ⟨h1,h2⟩:=aE hr
  simp only[Bool.and_eq_true,Nat.beq_eq] at h1
  obtain ⟨rfl,rfl⟩:=h1
  obtain ⟨jB,a,b,c'⟩:=tW (P:=P) (w:=w) (I:=I) (β:=β) h2 []
  refine ⟨_,_,[],[],a,by simpa using c',rfl,fun I' μ hp0 i1 i2 ρ m dK dq rest=> ?_⟩
  obtain ⟨blk,k1,k2⟩:=dq j _ (by rw[dK];exact ot b)
  exact PJ hv k2 k1 rfl
end
section
variable {P:Program} {A:cH} {w w':World} {I I' I2:Nat→Prop} {μ β an:Nat→Option Nat} {hp hp' hp0:Nat→Option ag} {C:ae} {B:Nat} {M:Nat→Prop} {w0:Start}
def me (P:Program) (w:World) (I:Nat→Prop) (β:Nat→Option Nat) (hp:Nat→Option ag) (h':Hand) (u:List (Nat × ag)) (K:(Nat→Prop)→(Nat→Option Nat)→(Nat→Option ag)→Prop):Prop:=
 ∀(I':Nat→Prop) (μ:Nat→Option Nat) (hp0:Nat→Option ag),(∀b,I b→I' b)→(∀q∈u,∀b,rY P w β hp q.1 b→I' b)→∀ρ m,ρ=h'.pl++m→zd P w β hp ρ μ hp0→K I' μ hp0
theorem me.later {h h':Hand} {d:List V} {u u':List (Nat × ag)} {K:(Nat→Prop)→(Nat→Option Nat)→(Nat→Option ag)→Prop} (t:me P w I β hp h u K) (e:Ext P w I β hp h h' d u'):me P w I β hp h' (u++u') K:=by
 obtain ⟨m1,e1⟩:=e.pl
 exact fun I' μ hp0 i1 i2 ρ m dK dq=>t I' μ hp0 i1 (fun q hq=>i2 q (List.mem_append.2 (.inl hq))) ρ (m1++m) (by rw[dK,e1,List.append_assoc]) dq
theorem me.more {h:Hand} {u u':List (Nat × ag)} {K:(Nat→Prop)→(Nat→Option Nat)→(Nat→Option ag)→Prop} (t:me P w I β hp h u K):me P w I β hp h (u'++u) K:=
 fun I' μ hp0 i1 i2 ρ m dK dq=>t I' μ hp0 i1 (fun q hq=>i2 q (List.mem_append.2 (.inr hq))) ρ m dK dq
theorem D7 (S:aD P w I β hp B M w0) {α:Type}: ∀{ls:List LS} {xs:List V} {h:Hand} {k:Hand→Rd α} {r:α} {rd:List Nat} {vs:List Value},(vH P ls xs h k).run C hp=some (r,rd)→vs.length=xs.length→
  (∀(j:Nat) v x,vs[j]? =some v→xs[j]? =some x→ah P w I β hp v x)→
  ∃h' fc d u,(k h').run C hp=some (r,fc)∧Ext P w I β hp h h' d u∧d.length=jP ls∧ls.length=xs.length∧
   me P w I β hp h' u fun I' μ hp0=> ∀rest,(gZ ls (d++rest)).length=xs.length∧∀(j:Nat) v y,vs[j]? =some v→(gZ ls (d++rest))[j]? =some y→ah P w I' μ hp0 v y
 | [],[],h,k,r,rd,vs,hr,hl,hv=>⟨h,rd,[],[],hr,Ext.refl h,rfl,rfl,fun I' μ hp0 _ _ _ _ _ _ rest=>⟨rfl,fun j v y _ hy=>by simp[gZ] at hy⟩⟩
 | [],_::_,h,k,r,rd,vs,hr,hl,hv=>by cases hr
 | _::_,[],h,k,r,rd,vs,hr,hl,hv=>by cases hr
 | l::ls,x::xs,h,k,r,rd,vs,hr,hl,hv=>by
  cases vs with
  | nil=>simp at hl
  | cons v vs=>
   simp only[vH] at hr
   obtain ⟨h1,jg,d1,u1,a1,a2,a3,a4⟩:=PK S hr (hv 0 v x rfl rfl)
   obtain ⟨h2,sk,d2,u2,b1,b2,b3,b5,b4⟩:=D7 S a1 (by simpa using hl) (vs:=vs) (fun j v x hj hx=>hv (j+1) v x (by simpa using hj) (by simpa using hx))
   have a4':me P w I β hp h1 u1 fun I' μ hp0=> ∀rest,ah P w I' μ hp0 v (iE l (d1++rest)):=a4
   refine ⟨h2,sk,d1++d2,u1++u2,b1,a2.trans b2,by simp only[List.length_append,jP];omega,by simp[b5],fun I' μ hp0 i1 i2 ρ m dK dq rest=> ?_⟩
   have k1:=(a4'.later b2) I' μ hp0 i1 i2 ρ m dK dq (d2++rest)
   obtain ⟨k2,k3⟩:=b4.more I' μ hp0 i1 i2 ρ m dK dq rest
   simp only[gZ]
   rw[show (d1++d2++rest).drop l.size=d2++rest by rw[List.append_assoc];exact m8 a3,List.append_assoc]
   refine ⟨by simp[k2],fun j v' y hj hy=> ?_⟩
   cases j with
   | zero=>simp at hj hy;subst hj;subst hy;exact k1
   | succ j=>exact k3 j v' y (by simpa using hj) (by simpa using hy)
theorem aaC (S:aD P w I β hp B M w0) {α:Type} {s:VS} {x:V} {h:Hand} {k:Hand→Rd α} {r:α} {rd:List Nat} {v:Value} (hr:(yl P s x h k).run C hp=some (r,rd)) (hv:ah P w I β hp v x):
  ∃h' fc d u,(k h').run C hp=some (r,fc)∧Ext P w I β hp h h' d u∧d.length=s.size∧
   me P w I β hp h' u fun I' μ hp0=> ∀rest,ah P w I' μ hp0 v (ku s (d++rest)):=by
 cases s with
 | one l=>
  simp only[yl] at hr
  obtain ⟨h1,jg,d1,u1,a1,a2,a3,a4⟩:=PK S hr hv
  exact ⟨h1,jg,d1,u1,a1,a2,a3,a4⟩
 | agg ls=>
  cases x<;>simp only[yl] at hr<;>first|(cases hr;done)|skip
  rename_i xs
  obtain ⟨cs,rfl,e1,e2⟩:=hv.kB
  obtain ⟨h1,jg,d1,u1,a1,a2,a3,a5,a4⟩:=D7 S hr (vs:=cs.toList) (by simpa using e1) (fun j v x hj hx=>e2 j v x (by simpa using hj) hx)
  refine ⟨h1,jg,d1,u1,a1,a2,a3,fun I' μ hp0 i1 i2 ρ m dK dq rest=> ?_⟩
  obtain ⟨k1,k2⟩:=a4 I' μ hp0 i1 i2 ρ m dK dq rest
  exact .agg (by rw[k1];exact e1) fun j v y hj hy=>k2 j v y (by simpa using hj) hy
 | bh ls=>cases x<;>cases hr
 | pref ts ls=>cases x<;>cases hr
 | fn f a b=>
  cases x<;>simp only[yl] at hr<;>first|(cases hr;done)|skip
  rename_i f' xs ys
  obtain ⟨hc,ou⟩:=aE hr
  clear hr
  rw[Nat.beq_eq] at hc
  subst hc
  cases hv with
  | @fn _ fs cs _ _ q1 q2 q3 q4=>
   obtain ⟨h1,jg,d1,u1,a1,a2,a3,a5,a4⟩:=D7 S ou (vs:=fs.toList) (by simpa using q1) (fun j v x hj hx=>q2 j v x (by simpa using hj) hx)
   obtain ⟨h2,sk,d2,u2,b1,b2,b3,b5,b4⟩:=D7 S a1 (vs:=cs.toList) (by simpa using q3) (fun j v x hj hx=>q4 j v x (by simpa using hj) hx)
   refine ⟨h2,sk,d1++d2,u1++u2,b1,a2.trans b2,by simp only[List.length_append,VS.size];omega,fun I' μ hp0 i1 i2 ρ m dK dq rest=> ?_⟩
   obtain ⟨k1,k2⟩:=(a4.later b2) I' μ hp0 i1 i2 ρ m dK dq (d2++rest)
   obtain ⟨k3,k4⟩:=b4.more I' μ hp0 i1 i2 ρ m dK dq rest
   simp only[ku]
   rw[show (d1++d2++rest).drop (jP a)=d2++rest by rw[List.append_assoc];exact m8 a3,List.append_assoc]
   exact .fn (by rw[k1];exact q1) (fun j v y hj hy=>k2 j v y (by simpa using hj) hy) (by rw[k3];exact q3) (fun j v y hj hy=>k4 j v y (by simpa using hj) hy)
theorem I7 (S:aD P w I β hp B M w0) {α:Type}: ∀{ls:List VS} {xs:List V} {h:Hand} {k:Hand→Rd α} {r:α} {rd:List Nat} {vs:List Value},(ym P ls xs h k).run C hp=some (r,rd)→vs.length=xs.length→
  (∀(j:Nat) v x,vs[j]? =some v→xs[j]? =some x→ah P w I β hp v x)→
  ∃h' fc d u,(k h').run C hp=some (r,fc)∧Ext P w I β hp h h' d u∧d.length=rR ls∧ls.length=xs.length∧
   me P w I β hp h' u fun I' μ hp0=> ∀rest,(fD ls (d++rest)).length=xs.length∧∀(j:Nat) v y,vs[j]? =some v→(fD ls (d++rest))[j]? =some y→ah P w I' μ hp0 v y
 | [],[],h,k,r,rd,vs,hr,hl,hv=>⟨h,rd,[],[],hr,Ext.refl h,rfl,rfl,fun I' μ hp0 _ _ _ _ _ _ rest=>⟨rfl,fun j v y _ hy=>by simp[fD] at hy⟩⟩
 | [],_::_,h,k,r,rd,vs,hr,hl,hv=>by cases hr
 | _::_,[],h,k,r,rd,vs,hr,hl,hv=>by cases hr
 | l::ls,x::xs,h,k,r,rd,vs,hr,hl,hv=>by
  cases vs with
  | nil=>simp at hl
  | cons v vs=>
   simp only[ym] at hr
   obtain ⟨h1,jg,d1,u1,a1,a2,a3,a4⟩:=aaC S hr (hv 0 v x rfl rfl)
   obtain ⟨h2,sk,d2,u2,b1,b2,b3,b5,b4⟩:=I7 S a1 (by simpa using hl) (vs:=vs) (fun j v x hj hx=>hv (j+1) v x (by simpa using hj) (by simpa using hx))
   refine ⟨h2,sk,d1++d2,u1++u2,b1,a2.trans b2,by simp only[List.length_append,rR];omega,by simp[b5],fun I' μ hp0 i1 i2 ρ m dK dq rest=> ?_⟩
   have k1:=(a4.later b2) I' μ hp0 i1 i2 ρ m dK dq (d2++rest)
   obtain ⟨k2,k3⟩:=b4.more I' μ hp0 i1 i2 ρ m dK dq rest
   simp only[fD]
   rw[show (d1++d2++rest).drop l.size=d2++rest by rw[List.append_assoc];exact m8 a3,List.append_assoc]
   refine ⟨by simp[k2],fun j v' y hj hy=> ?_⟩
   cases j with
   | zero=>simp at hj hy;subst hj;subst hy;exact k1
   | succ j=>exact k3 j v' y (by simpa using hj) (by simpa using hy)
def D8:List BS→Nat
 | []=>0
 | b::l=>b.size+D8 l
theorem PL: ∀{b:Nat} {e e':TypeId} {es:List V} {v:V},(∀q b' e' m,At P w b e es q b' e' m→ja P w I b' e' m)→∀(path:Path),jN P e path=some e'→iD P e es path=some v→0<v.toList.length→
  ∃b1,At P w b e es path b1 e' v.toList
 | b,e,e',es,v,cq,[],ht,hv,hl=>by
  simp only[jN,Option.some.injEq] at ht
  simp only[iD,Option.some.injEq] at hv
  subst ht;subst hv
  exact ⟨b,.here⟩
 | b,e,e',es,v,cq,(i,c)::q,ht,hv,hl=>by
  simp only[jN] at ht
  simp only[iD] at hv
  obtain ⟨x,hx,hv⟩:=bind_some hv
  cases I8:(jN.yc P e)[c]? with
  | none=>rw[I8] at ht;cases ht
  | some t=>
   rw[I8] at ht
   simp only at ht
   have D9:(aU P e)[c]? =some t:=I8
   cases hu:P.underlying t with
   | none=>rw[hu] at ht;cases ht
   | some d=>
    rw[hu] at ht
    cases d<;>simp only at ht<;>first|(cases ht;done)|skip
    rename_i e1
    rw[mQ D9] at hv
    have hR:=cq _ _ _ _ .here
    obtain ⟨Ca,c1,c2,c3⟩:=hR.cells
    have tC:c<P.cellsOf e:=by rw[←fG hR.ok];exact (List.getElem?_eq_some_iff.1 D9).1
    obtain ⟨u,d1,d2⟩:=c3 i c x t hx D9 tC
    rw[d2.sa] at hv
    generalize hy:bK P e x c=y at d2 hv
    cases d2 with
    | fS a p=>unfold fO at a;rw[hu] at a;cases a
    | @emp e2 a cap po ha=>
     rw[hu] at po;cases po
     simp only at hv
     cases q with
     | nil=>simp only[iD,Option.some.injEq] at hv;subst hv;simp[V.toList] at hl
     | cons a q=>simp[iD] at hv
    | @row e2 cb b2 cap po lU aZ cd oc=>
     rw[hu] at po;cases po
     simp only at hv
     have ig: ∀{q b' e' aH},At P w b2 e1 cb q b' e' aH→At P w b e es ((i,c)::q) b' e' aH:=fun h=> .step c1 hx D9 hu hy lU d1 h
     obtain ⟨b1,lg⟩:=PL (fun q b' e' m h=>cq _ _ _ _ (ig h)) q ht hv hl
     exact ⟨b1,ig lg⟩
theorem PM (S:aD P w I β hp B M w0) {α:Type}: ∀{bs:List BS} {j:Nat} {h:Hand} {k:Hand→Rd α} {r:α} {rd:List Nat},(qa P bs j h k).run C hp=some (r,rd)→
  ∃h' fc d u,(k h').run C hp=some (r,fc)∧Ext P w I β hp h h' d u∧d.length=D8 bs∧
   ∀rest,(eV bs (d++rest)).length=bs.length∧∃o:Nat→Option Nat,
    (∀(i:Nat) blk,(eV bs (d++rest))[i]? =some blk→∃p,ew h'.pl (j+i)=some p∧eo P w β hp p (o i) blk)∧
    me P w I β hp h' u fun I' μ hp0=> ∀(i:Nat) blk,(eV bs (d++rest))[i]? =some blk→(∀b,bA P w (o i) blk b→¬I' b)→eh P w I' μ hp0 (o i) blk
 | [],j,h,k,r,rd,hr=>⟨h,rd,[],[],hr,Ext.refl h,rfl,fun rest=>⟨rfl,fun _=>none,fun i blk hb=>by simp[eV] at hb,fun I' μ hp0 _ _ _ _ _ _ i blk hb=>by simp[eV] at hb⟩⟩
 | b::bs,j,h,k,r,rd,hr=>by
  simp only[qa] at hr
  have fin: ∀{h1:Hand} {jg:List Nat} {d1:List V} {u1:List (Nat × ag)} {o1:Option Nat} {p:Place},(qa P bs (j+1) h1 k).run C hp=some (r,jg)→Ext P w I β hp h h1 d1 u1→d1.length=b.size→ew h.pl j=some p→
    (∀rest,eo P w β hp p o1 (fP b (d1++rest)))→(∀rest,me P w I β hp h1 u1 fun I' μ hp0=>(∀bb,bA P w o1 (fP b (d1++rest)) bb→¬I' bb)→eh P w I' μ hp0 o1 (fP b (d1++rest)))→
    ∃h' fc d u,(k h').run C hp=some (r,fc)∧Ext P w I β hp h h' d u∧d.length=D8 (b::bs)∧
     ∀rest,(eV (b::bs) (d++rest)).length=(b::bs).length∧∃o:Nat→Option Nat,
      (∀(i:Nat) blk,(eV (b::bs) (d++rest))[i]? =some blk→∃p,ew h'.pl (j+i)=some p∧eo P w β hp p (o i) blk)∧
      me P w I β hp h' u fun I' μ hp0=> ∀(i:Nat) blk,(eV (b::bs) (d++rest))[i]? =some blk→(∀b,bA P w (o i) blk b→¬I' b)→eh P w I' μ hp0 (o i) blk:=by
   intro h1 jg d1 u1 o1 p hk he hd bx hl ht
   obtain ⟨h2,sk,d2,u2,b1,b2,b3,b4⟩:=PM S hk
   refine ⟨h2,sk,d1++d2,u1++u2,b1,he.trans b2,by simp only[List.length_append,D8];omega,fun rest=> ?_⟩
   obtain ⟨c1,o,c2,c3⟩:=b4 rest
   simp only[eV]
   rw[show (d1++d2++rest).drop b.size=d2++rest by rw[List.append_assoc];exact m8 hd,List.append_assoc]
   refine ⟨by simp[c1],fun i=>match i with|0=>o1|i+1=>o i,fun i blk hb=> ?_,fun I' μ hp0 i1 i2 ρ m dK dq i blk hb cW=> ?_⟩
   ·cases i with
    | zero=>
     simp at hb
     subst hb
     exact ⟨p,b2.look (he.look bx),hl _⟩
    | succ i=>
     obtain ⟨q,e1,e2⟩:=c2 i blk (by simpa using hb)
     exact ⟨q,by rw[show j+(i+1)=j+1+i by omega];exact e1,e2⟩
   ·cases i with
    | zero=>
     simp at hb
     subst hb
     exact ((ht _).later b2) I' μ hp0 i1 i2 ρ m dK dq cW
    | succ i=>exact c3.more I' μ hp0 i1 i2 ρ m dK dq i blk (by simpa using hb) cW
  cases bx:ew h.pl j with
  | none=>rw[bx] at hr;cases hr
  | some p=>
   rw[bx] at hr
   cases p with
   | blk id=>
    obtain ⟨l1,hr⟩:=run_get hr
    cases ab:hp id with
    | none=>rw[ab] at hr;cases hr
    | some blk=>
     rw[ab] at hr
     cases blk with
     | dead=>cases hr
     | var T0 cs=>
      cases b<;>simp only at hr<;>first|(cases hr;done)|skip
      rename_i T1 ss
      obtain ⟨hT,hr1⟩:=aE hr
      clear hr
      rw[Nat.beq_eq] at hT
      subst hT
      have cJ:=S.h.rel id _ ab
      generalize ho:β id=o at cJ
      cases cJ with
      | @var _ bb Ca T hb hh hs hI hx gm=>
       obtain ⟨h1,jg,d1,u1,a1,a2,a3,a5,a4⟩:=I7 S hr1 (vs:=Ca.toList) (by simpa using hs) (fun j v x hj cC=>hx j v x (by simpa using hj) cC)
       refine fin (o1:=β id) a1 a2 a3 bx (fun rest=> .var ab) fun rest I' μ hp0 i1 i2 ρ m dK dq cW=> ?_
       obtain ⟨k1,k2⟩:=a4 I' μ hp0 i1 i2 ρ m dK dq rest
       exact .var (ho.trans hb) hh (by rw[k1];exact hs) (cW _ (.root (by simp[fP]) (ho.trans hb))) (fun i v y hi hy=>k2 i v y (by simpa using hi) hy) gm
     | arr e' es fz=>
      cases fz with
      | true=>cases hr
      | false=>
       cases b with
       | arr e fz=>
        cases fz with
        | true=>cases hr
        | false=>
         obtain ⟨hc,ou⟩:=aE hr
         clear hr
         rw[Nat.beq_eq] at hc
         subst hc
         refine fin (d1:=[.list e es]) (o1:=β id) ou (Ext.leaf h _) rfl bx (fun rest=>eo.arr ab) fun rest I' μ hp0 i1 i2 ρ m dK dq cW=> ?_
         change eh P w I' μ hp0 (β id) (.arr e es false)
         have cJ:=S.h.rel id _ ab
         generalize ho:β id=o at cJ cW⊢
         cases cJ with
         | dV hb=>exact .dV hb
         | arr a1 a2 a3 a4 a5 a6 a7=>
          refine .arr a1 a2 a3 a4 (fun h=>by cases h) (fun _=>cW _ (.root (by simp[fP]) a2)) fun i j x t' y1 y2 y3=> ?_
          obtain ⟨v,z1,z2⟩:=a7 i j x t' y1 y2 y3
          exact ⟨v,z1,z2.mono i1 fun _ _=>rfl⟩
       | _=>cases hr
     | nest e' es ai=>
      cases b with
      | nest e=>
       obtain ⟨hc,ou⟩:=aE hr
       clear hr
       rw[Nat.beq_eq] at hc
       subst hc
       refine fin (d1:=[.list e es]) (o1:=β id) ou (Ext.leaf h _) rfl bx (fun rest=>eo.nest ab) fun rest I' μ hp0 i1 i2 ρ m dK dq cW=> ?_
       have PN: ∀bb,bA P w (β id) (.nest e es [0,0,0]) bb→¬I' bb:=cW
       change eh P w I' μ hp0 (β id) (.nest e es [0,0,0])
       have cJ:=S.h.rel id _ ab
       generalize ho:β id=o at cJ PN⊢
       cases cJ with
       | nest hb cq oh=>
        refine .nest hb (fun q b' e1 m1 hq=> ?_) oh
        obtain ⟨ok,⟨Ca,c1,c2,c3⟩,nI⟩:=cq q b' e1 m1 hq
        refine ⟨ok,⟨Ca,c1,c2,fun i j x t' y1 y2 y3=> ?_⟩,PN _ (.row hb hq)⟩
        obtain ⟨v,z1,z2⟩:=c3 i j x t' y1 y2 y3
        exact ⟨v,z1,z2.mono i1 (fun _ _=>rfl) fun _ _ _ _ _=>rfl⟩
      | _=>cases hr
     | map t' es=>
      cases b with
      | map t=>
       obtain ⟨hc,ou⟩:=aE hr
       clear hr
       rw[Nat.beq_eq] at hc
       subst hc
       refine fin (d1:=[.list t es]) (o1:=β id) ou (Ext.leaf h _) rfl bx (fun rest=>eo.map ab) fun rest I' μ hp0 i1 i2 ρ m dK dq cW=> ?_
       change eh P w I' μ hp0 (β id) (.map t es)
       have cJ:=S.h.rel id _ ab
       generalize ho:β id=o at cJ cW⊢
       cases cJ with
       | map a1 a2 a3 a4 a5 a6 a7=>exact .map a1 a2 a3 a4 (cW _ (.root (by simp[fP]) a2)) a6 a7
      | _=>cases hr
   | row id ver path=>
    obtain ⟨e0,es,ai,l1,k1,k2,k3,k4,k5⟩:=oa hr
    obtain ⟨e',vv,m1,m2,m3⟩:=vP k5
    cases b with
    | arr e fz=>
     cases fz with
     | true=>cases m3
     | false=>
      obtain ⟨hc,m4⟩:=aE m3
      clear m3
      simp only[Bool.and_eq_true,Nat.beq_eq,Nat.blt_eq] at hc
      obtain ⟨rfl,ze,lU⟩:=hc
      have cJ:=S.h.rel id _ k1
      cases hb:β id with
      | none=>
       rw[hb] at cJ
       cases cJ with
       | nest ax _ _=>cases ax
      | some b0=>
       rw[hb] at cJ
       cases cJ with
       | nest ax cq oh=>
        cases ax
        obtain ⟨b1,dA⟩:=PL cq path m1 m2 lU
        refine fin (d1:=[.list e vv.toList]) (o1:=some b1) m4 (Ext.leaf h _) rfl bx (fun rest=>eo.row k1 hb dA ze k2 k3 k4 lU) fun rest I' μ hp0 i1 i2 ρ m dK dq cW=> ?_
        change eh P w I' μ hp0 (some b1) (.arr e vv.toList false)
        obtain ⟨ok,⟨Ca,c1,c2,c3⟩,nI⟩:=cq _ _ _ _ dA
        refine .arr ok rfl c1 c2 (fun h=>by cases h) (fun _=>cW _ (.root (by simp[fP]) rfl)) fun i j x t' y1 y2 y3=> ?_
        obtain ⟨v,z1,z2⟩:=c3 i j x t' y1 y2 y3
        refine ⟨v,z1,?_⟩
        generalize bK P e x j=y at z2⊢
        cases z2 with
        | fS _ p=>exact p.mono i1 fun _ _=>rfl
        | emp hu _=>exact absurd hu (PO ze y2 _)
        | row hu _ _ _ _=>exact absurd hu (PO ze y2 _)
    | _=>cases m3
where
 PO {e t:TypeId} {j:Nat} (h:yh P e=true) (ht:(aU P e)[j]? =some t) (e':TypeId):P.underlying t≠some (.slice e'):=by
  intro hu
  have h2:=List.all_eq_true.1 h t (List.mem_of_getElem? ht)
  rw[hu] at h2
  cases h2
end
end Go.AM
