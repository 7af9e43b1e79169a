/-
  Functions of vE program, lifted to plain data.
-/
import Derived.Great.BuildSlice
import Derived.Maps.Keyed
import Derived.WideKeyArr
import Derived.MapKept
import Derived.ChangeMaps4
import Derived.Carry
import Derived.Lib.AppendStr
import Derived.Laws.BytesString
import Derived.Lib.Builder
import Derived.Lib.UnsafeStr
import Derived.Test.YtmcdbnalaobmpaaDoorP1
set_option linter.unusedVariables false
set_option linter.unusedSimpArgs false
namespace Go.AM
section
variable {P:Program} {w w':World} {I I':Nat→Prop} {β au:Nat→Option Nat} {hp hp':Nat→Option ah} {C:ae} {B:Nat} {M:Nat→Prop} {w0:Start}
theorem aaO (S:aE P w I β hp B M w0) {t:TypeId} {a v:Value} {xa x:V} {r:R} {rd:List Nat} (ha:ai P w I β hp a xa) (hv:ai P w I β hp v x)
  (h:(Iy P t xa x).run C hp=some (r,rd)):o8 P ((Instr.storeAt t a v).run P w) w I β hp B M w0 r:=by
 unfold Iy at h
 obtain ⟨h0,h⟩:=aH h
 simp only[Bool.and_eq_true,Nat.beq_eq] at h0
 obtain ⟨ht,hn⟩:=h0
 cases xa with
 | ptr id i c=>
  obtain ⟨l,h⟩:=run_get h
  cases af:hp id with
  | none=>rw[af] at h;cases h
  | some blk=>
   rw[af] at h
   cases blk with
   | dead=>cases h
   | var T0 cs=>
    obtain ⟨QE,h⟩:=aH h
    have mz:oV P T0=true→0<c:=fun cK=>by
     rw[cK] at QE
     simpa using QE
    obtain ⟨b,hb,rfl⟩:=ha.gU af (by simp)
    simp only[ah.sz,Nat.mul_zero,Nat.zero_add]
    cases o7:(y5 P t cs&&eR P t x) with
    | true=>
     dsimp only at h
     rw[o7] at h
     simp only[cond_true] at h
     obtain ⟨hc,h⟩:=aH h
     obtain rfl:=aS h
     simp only[Bool.and_eq_true,Nat.blt_eq] at hc o7
     obtain ⟨o1,o2⟩:=Qx hv o7.2
     have lD:=aaz o7.2
     refine Qv S af hb ht hn (by rw[o2,lD];rfl) mz (fun j u y hu hy=> ?_) (by rw[o2];simp[o1]) (by rw[lD];simp;omega) (Qu _ _ _ _) (fun j y hy hj u hu=> ?_) (fun j y hy hj u hu=> ?_)
     ·rw[o2] at hu
      rw[lD] at hy
      cases j with
      | zero=>simp at hu hy;subst hu;subst hy;exact hv
      | succ j=>simp at hy
     ·rw[Jd] at hy
      cases wo:cs[j]? with
      | none=>rw[wo] at hy;cases hy
      | some y0=>
       rw[wo] at hy
       simp only[Option.map_some,Option.some.injEq] at hy
       rw[lD] at hj
       simp only[List.length_singleton] at hj
       have bP:Nat.beq c (0+j)=false:=by
        cases hq:Nat.beq c (0+j) with
        | false=>rfl
        | true=>rw[Nat.beq_eq] at hq;omega
       rw[bP] at hy
       have:=Qj (c:=false) hv (hu y0 wo)
       rw[←hy]
       simpa using this
     ·rw[lD] at hj hu
      have hj0:j=0:=by simpa using hj
      subst hj0
      rw[Jd] at hy
      cases wo:cs[c+0]? with
      | none=>rw[wo] at hy;cases hy
      | some y0=>
       rw[wo] at hy
       simp only[Option.map_some,Option.some.injEq] at hy
       have heq:Nat.beq c (0+(c+0))=true:=by rw[Nat.beq_eq];omega
       rw[heq] at hy
       have h2:ai P w I β hp u x:=hu x rfl
       have:se true x y0=x:=aaA x y0
       rw[←hy,this]
       exact h2
    | false=>
     dsimp only at h
     rw[o7] at h
     simp only[cond_false] at h
     obtain ⟨hc,h⟩:=aH h
     simp only[Bool.and_eq_true,Nat.ble_eq] at hc
     obtain ⟨e1,e2⟩:=Jb hv h
     obtain ⟨h1,l2,h⟩:=ES h (vs:=v.cells.toList) (by simpa using e1) (fun j u y a b=>e2 j u y (by simpa using a) b)
     obtain rfl:=aS h
     refine Qv S af hb ht hn e1 mz e2 h1 hc.2 (zJ _ _ _ hc.2) (fun j y hy hj u hu=> ?_) (fun j y hy hj u hu=> ?_)
     ·unfold fZ at hy
      rw[ny _ _ _ _ hc.2] at hy
      rcases hj with hj|hj
      ·rw[if_pos hj] at hy;exact hu y hy
      ·rw[if_neg (by omega),if_neg (by omega)] at hy;exact hu y hy
     ·unfold fZ at hy
      rw[ny _ _ _ _ hc.2,if_neg (by omega),if_pos (by omega)] at hy
      rw[show c+j-c=j by omega] at hy
      exact hu y hy
   | arr e es fz=>
    cases fz with
    | true=>cases h
    | false=>
    obtain ⟨b,hb,rfl⟩:=ha.gU af (by simp)
    obtain ⟨aw,h⟩:=aH h
    obtain ⟨⟨ys,fr⟩,l1,l2,br,h⟩:=kG h
    obtain ⟨hc,h⟩:=aH h
    obtain ⟨x0,qv,h⟩:=lA h
    obtain rfl:=aS h
    simp only[Bool.and_eq_true,Bool.not_eq_true',Nat.ble_eq] at hc
    obtain ⟨ed,hc3,jD⟩:=hc
    have o9:v.cells.size=x.cells.length∧∀(j:Nat) u y,v.cells.toList[j]? =some u→x.cells[j]? =some y→ai P w I β hp u y:=by
     cases x with
     | agg xs=>
      obtain ⟨cs,rfl,h1,h2⟩:=hv.kH
      exact ⟨h1,fun j u y a b=>h2 j u y (by simpa[Value.cells] using a) b⟩
     | _=>
      simp only[V.cells] at br jD⊢
      simp only[sd] at br
      obtain ⟨⟨y1,u1⟩,l3,l4,hq,br⟩:=kG br
      obtain ⟨q1,q2⟩:=EG S.h.rel hq hv
      obtain ⟨⟨y2,u2⟩,l5,l6,pb,br⟩:=kG br
      cases pb
      have:=aS br
      cases this
      obtain ⟨tl,tg⟩:=tN jD
      have fO:=tg 0 _ y1 (List.getElem?_eq_getElem (by rw[tl];exact Nat.one_pos)) rfl
      have fN:=q2 (iJ P w I β hp u1) (fun _ h=> .inl h) (fun p hp b h=> .inr ⟨p,hp,h⟩)
      have ho:=fN.pure fO
      have Jr:v.cells= #[v]:=by cases ho<;>rfl
      rw[Jr]
      refine ⟨rfl,fun j u y hu hy=> ?_⟩
      cases j with
      | zero=>simp at hu hy;subst hu;subst hy;exact hv
      | succ j=>simp at hy
    obtain ⟨k1,k2,k3⟩:=I5 S.h.rel br (vs:=v.cells.toList) (by simpa using o9.1) o9.2
    obtain ⟨qt,S1⟩:=zA S k2
    have zQ:bO hp fr id=some (.arr e es false):=by
     rcases tH (hp:=hp) (l:=fr) (id:=id) with h|⟨b',hm,_⟩
     ·exact h.trans af
     ·exfalso
      have pc:jZ (fr.map (·.1)) id=true:=we (List.mem_map.2 ⟨_,hm,rfl⟩)
      rw[pc] at ed;cases ed
    have QF:=k3 (iJ P w I β hp fr) (fun _ h=> .inl h) (fun p hp b h=> .inr ⟨p,hp,h⟩)
    obtain ⟨tl,tg⟩:=tN jD
    have v5:=(kf aw).1
    have tQ:ys.length=v.cells.size:=by rw[k1,o9.1]
    have hcn:c+v.cells.size≤P.cellsOf e:=by rw[o9.1];exact hc3
    have hr:=S1.h.rel id _ zQ
    cases hr with
    | eb ax=>simp at qv
    | @arr _ _ _ b' Ca Ja ax hh hs hf eE hx=>
     rw[hb] at ax
     cases ax
     have lE:i<es.length:=(List.getElem?_eq_some_iff.1 qv).1
     have hbound:i*P.cellsOf e+P.cellsOf e≤Ca.size:=by
      have:(i+1)*P.cellsOf e≤es.length*P.cellsOf e:=Nat.mul_le_mul_right _ lE
      rw[Nat.add_mul] at this
      omega
     simp only[ah.sz]
     have sD:i*P.cellsOf e+c+v.cells.size≤Ca.size:=by omega
     have cW: ¬iJ P w I β hp fr b:=eE rfl
     have h1: ∀u∈v.cells.toList,u.oneCell'=true:=by
      intro u hu
      obtain ⟨j,hj⟩:=List.getElem?_of_mem hu
      have dd:j<ys.length:=by rw[tQ];simpa using (List.getElem?_eq_some_iff.1 hj).1
      have oj:j<(((flat P e).drop c).take x.cells.length).length:=by rw[tl];exact dd
      exact (QF j u ys[j] hj (List.getElem?_eq_getElem dd)).one (tg j _ ys[j] (List.getElem?_eq_getElem oj) (List.getElem?_eq_getElem dd))
     have cX:=Jc (t:=t) (o:=i*P.cellsOf e+c) (v:=v) ht (by rw[o9.1];exact hn.symm) hh sD h1
     have hlen:(Ca.toList.take (i*P.cellsOf e+c)++(v.cells.toList++Ca.toList.drop (i*P.cellsOf e+c+v.cells.toList.length))).length=Ca.size:=by
      rw[zJ _ _ _ (by simpa using sD)];simp
     have fN:(parts P e x0).length=P.cellsOf e:=by rw[v9];exact fM aw
     have zK:=ET S1 (blk':= .arr e (es.set i (cG P e (fZ (parts P e x0) c ys))) false)
      (Cb:=(Ca.toList.take (i*P.cellsOf e+c)++(v.cells.toList++Ca.toList.drop (i*P.cellsOf e+c+v.cells.toList.length))).toArray) zQ (by simp) ⟨rfl,by simp⟩ hb cW (by simp) hh (by simpa using hlen)
      (fun hle fe=> .arr aw rfl fe (by simp only[List.size_toArray,List.length_set];omega) (fun h=>by cases h) (fun _=>cW) fun i' j z t' hz oj hj=>by
       simp only[List.getElem?_toArray]
       rw[ny _ _ _ _ (by simpa using sD)]
       simp only[Array.length_toList]
       rw[List.getElem?_set] at hz
       by_cases iM:i=i'
       ·subst iM
        rw[if_pos rfl,if_pos lE] at hz
        cases hz
        have E2:j<(parts P e x0).length:=by omega
        have tR:(fZ (parts P e x0) c ys)[j]? =if j<c then (parts P e x0)[j]? else if j<c+ys.length then ys[j-c]? else (parts P e x0)[j]? :=by
         unfold fZ;exact ny _ _ _ _ (by omega)
        by_cases qo:j<c
        ·rw[if_pos (by omega)]
         rw[if_pos qo] at tR
         obtain ⟨u,t2,a1,a2,a3⟩:=EO hx aw qv (List.getElem?_eq_getElem E2)
         rw[oj] at a1;cases a1
         refine ⟨u,by simpa using a2,?_⟩
         rw[qp (tR.trans (List.getElem?_eq_getElem E2)) oj]
         exact a3.mono hle.dE hle.cp
        ·rw[if_neg qo] at tR
         by_cases b8:j<c+ys.length
         ·rw[if_pos b8] at tR
          rw[if_neg (by omega),if_pos (by omega)]
          have pd:j-c<ys.length:=by omega
          have QG:j-c<v.cells.toList.length:=by simp;omega
          have alu:j-c<v.cells.size:=by omega
          refine ⟨v.cells.toList[j-c],?_,?_⟩
          ·rw[show i*P.cellsOf e+j-(i*P.cellsOf e+c)=j-c by omega]
           exact List.getElem?_eq_getElem QG
          ·rw[qp (tR.trans (List.getElem?_eq_getElem pd)) oj]
           have hft:(((flat P e).drop c).take x.cells.length)[j-c]? =some t':=by
            rw[List.getElem?_take_of_lt (by omega),List.getElem?_drop,show c+(j-c)=j by omega,←sA]
            exact oj
           exact ((QF (j-c) _ ys[j-c] (List.getElem?_eq_getElem QG) (List.getElem?_eq_getElem pd)).pure (tg (j-c) t' ys[j-c] hft (List.getElem?_eq_getElem pd))).mono hle.dE hle.cp
         ·rw[if_neg b8] at tR
          rw[if_neg (by omega),if_neg (by omega)]
          obtain ⟨u,t2,a1,a2,a3⟩:=EO hx aw qv (List.getElem?_eq_getElem E2)
          rw[oj] at a1;cases a1
          refine ⟨u,by simpa using a2,?_⟩
          rw[qp (tR.trans (List.getElem?_eq_getElem E2)) oj]
          exact a3.mono hle.dE hle.cp
       ·rw[if_neg iM] at hz
        obtain ⟨u,a2,a3⟩:=hx i' j z t' hz oj hj
        have bP:i'*P.cellsOf e+j<i*P.cellsOf e+c∨i*P.cellsOf e+c+v.cells.size≤i'*P.cellsOf e+j:=by
         rcases Nat.lt_or_ge i' i with aX|pe
         ·left
          have:(i'+1)*P.cellsOf e≤i*P.cellsOf e:=Nat.mul_le_mul_right _ aX
          rw[Nat.add_mul] at this
          omega
         ·right
          have:(i+1)*P.cellsOf e≤i'*P.cellsOf e:=Nat.mul_le_mul_right _ (by omega)
          rw[Nat.add_mul] at this
          omega
        refine ⟨u,?_,a3.mono hle.dE hle.cp⟩
        rcases bP with bP|bP
        ·rw[if_pos bP];simpa using a2
        ·rw[if_neg (by omega),if_neg (by omega)];simpa using a2)
     exact ⟨_,_,_,cX,qt.trans zK.1,zK.2,rfl⟩
   | map _ _=>cases h
   | nest e es ak=>
    obtain ⟨b,hb,rfl⟩:=ha.gU af (by simp)
    exact QD S ht hn hv af hb .here h
 | cL id ver path i c=>
  obtain ⟨e0,es,ak,l,af,h1,h2,h3,h⟩:=od h
  obtain ⟨b,b1,e1,l1,hb,dF,rfl⟩:=ha.Qg af h1 h2 h3
  exact QD S ht hn hv af hb dF h
 | _=>cases h
end
section
variable {P:Program} {w w':World} {I I':Nat→Prop} {β au:Nat→Option Nat} {hp hp':Nat→Option ah} {C:ae} {B:Nat} {M:Nat→Prop} {w0:Start}
theorem Js: ∀{ts:List TypeId} {vs:List Value} {j:Nat} {y:V},(jf P ts vs)[j]? =some y→∃t v,ts[j]? =some t∧vs[j]? =some v∧y=oU P t v
 | [],vs,j,y,h=>by simp[jf] at h
 | _::_,[],j,y,h=>by simp[jf] at h
 | t::ts,v::vs,0,y,h=>by simp[jf] at h;exact ⟨t,v,rfl,rfl,h.symm⟩
 | t::ts,v::vs,j+1,y,h=>by
  simp only[jf,List.getElem?_cons_succ] at h
  obtain ⟨t',v',a,b,c⟩:=Js h
  exact ⟨t',v',by simpa using a,by simpa using b,c⟩
theorem QH: ∀{ts:List TypeId} {vs:List Value},ts.length=vs.length→(jf P ts vs).length=vs.length
 | [],[],_=>rfl
 | [],_::_,h=>by simp at h
 | _::_,[],h=>by simp at h
 | t::ts,v::vs,h=>by simp[jf,QH (ts:=ts) (vs:=vs) (by simpa using h)]
theorem kh {e:TypeId} (h:c9 P e=true): ∃i z,P.info? e=some i∧i.zero=some z∧i.size=P.cellsOf e∧z.cells.size=P.cellsOf e∧zeroCells P e=jf P (flat P e) z.cells.toList:=by
 unfold c9 at h
 simp only[Bool.and_eq_true,Nat.beq_eq,Nat.blt_eq] at h
 obtain ⟨h1,h2,_,h3⟩:=h
 cases hi:P.info? e with
 | none=>rw[hi] at h3;cases h3
 | some i=>
  rw[hi] at h3
  simp only[Option.bind_some] at h3
  cases hz:i.zero with
  | none=>rw[hz] at h3;cases h3
  | some z=>
   rw[hz] at h3
   simp only[Nat.beq_eq] at h3
   exact ⟨i,z,rfl,hz,by simp[Program.cellsOf,hi],h3,by simp[zeroCells,hi,hz]⟩
theorem QI {e:TypeId} (h:c9 P e=true): ∃i z,P.info? e=some i∧i.zero=some z∧z.cells.size=(zeroCells P e).length∧z.cells.size=P.cellsOf e∧
  ∀(j:Nat) v x,z.cells[j]? =some v→(zeroCells P e)[j]? =some x→ai P w I β hp v x:=by
 obtain ⟨i,z,h1,h2,h3,h4,h5⟩:=kh h
 have hl:(flat P e).length=z.cells.toList.length:=by rw[(kf h).1];simpa using h4.symm
 refine ⟨i,z,h1,h2,?_,h4,fun j v x hv hx=> ?_⟩
 ·rw[h5,QH hl];simp
 ·rw[h5] at hx
  obtain ⟨t,v',_,wa,rfl⟩:=Js hx
  have:v'=v:=by
   have e1:z.cells[j]? =some v':=by simpa using wa
   rw[hv] at e1;exact (Option.some.inj e1).symm
  subst this
  exact ai.const t v'
theorem nA {nb:Nat} {b:ah} {v:V} {upd:List (Nat × ah)} {r:R} {rd:List Nat} (h:(ji nb b v upd).run C hp=some (r,rd)):hp nb=none∧r=⟨v,(nb,b)::upd⟩:=by
 obtain ⟨l,h⟩:=run_get h
 cases hn:hp nb with
 | none=>rw[hn] at h;exact ⟨rfl,(aS h).symm⟩
 | some x=>rw[hn] at h;cases h
theorem QJ (S:aE P w I β hp B M w0) {nb:Nat} {xs:List V} {C0:Array Value} {T:TypeId} (hn:hp nb=none) (hs:C0.size=xs.length)
  (hx: ∀(j:Nat) v x,C0[j]? =some v→xs[j]? =some x→ai P w I β hp v x) (gv:Qb P w.heap.size T C0):
  Le P w I β hp (w.alloc (.cells C0 T)) I (aK β nb (some w.heap.size)) (aK hp nb (some (.var T xs)))∧aE P (w.alloc (.cells C0 T)) I (aK β nb (some w.heap.size)) (aK hp nb (some (.var T xs))) B M w0∧
  ai P (w.alloc (.cells C0 T)) I (aK β nb (some w.heap.size)) (aK hp nb (some (.var T xs))) (.pointer (some ⟨w.heap.size,0,none⟩)) (.ptr nb 0 0):=by
 obtain ⟨h1,h2⟩:=I6 S (blk:= .var T xs) (c:=C0) (T:=T) hn (fun b' h=>(Option.some.inj (h.flat (by simp))).symm) (fun hle fe cW=> .var rfl fe hs cW (fun j v x a b=>(hx j v x a b).mono hle) gv)
 refine ⟨h1,h2,?_⟩
 have:=ai.ptr (P:=P) (w:=w.alloc (.cells C0 T)) (I:=I) (β:=aK β nb (some w.heap.size)) (hp:=aK hp nb (some (.var T xs))) (i:=0) (c:=0) (blk:= .var T xs) (dc _ _ _) (by simp) (dc _ _ _)
 simpa using this
theorem aaP (S:aE P w I β hp B M w0) {e:TypeId} {nb:Nat} {r:R} {rd:List Nat}
  (h:(Rd.ay (c9 P e&&(!(oV P e)||P7 (zeroCells P e))) (ji nb (.var e (zeroCells P e)) (.ptr nb 0 0) [])).run C hp=some (r,rd)):di P ((Instr.alloc e true (.tuple #[])).run P w) w I β hp B M w0 r:=by
 obtain ⟨aw,h⟩:=aH h
 rw[Bool.and_eq_true] at aw
 obtain ⟨aw,mz⟩:=aw
 obtain ⟨hn,rfl⟩:=nA h
 obtain ⟨i,z,h1,h2,h3,h4,h5⟩:=QI (w:=w) (I:=I) (β:=β) (hp:=hp) aw
 obtain ⟨a,b,c⟩:=QJ S (T:=e) hn h3 h5 fun cK=>by
  rw[cK,Bool.not_true,Bool.false_or] at mz
  cases hz:zeroCells P e with
  | nil=>rw[hz] at mz;cases mz
  | cons y l=>
   rw[hz] at mz h3 h5
   cases y<;>first|(cases mz;done)|skip
   have aX:0<z.cells.size:=by rw[h3];simp
   have:=h5 0 z.cells[0] .dN (Array.getElem?_eq_getElem aX) rfl
   left
   rw[Array.getElem?_eq_getElem aX]
   generalize z.cells[0]=u at this
   cases this;rfl
 exact ⟨_,_,_,_,by simp[Instr.alloc,zeroValue,typeInfo,h1,h2,newVar,newRow],a,b,c⟩
theorem aaQ (S:aE P w I β hp B M w0) {e:TypeId} {nb:Nat} {x:V} {v:Value} {r:R} {rd:List Nat} (hv:ai P w I β hp v x)
  (h:(Rd.ay (!(oV P e)) <| lx x.cells (ji nb (.var e x.cells) (.ptr nb 0 0) [])).run C hp=some (r,rd)):di P ((Instr.box e v).run P w) w I β hp B M w0 r:=by
 obtain ⟨mz,h⟩:=aH h
 obtain ⟨e1,e2⟩:=Jb hv h
 obtain ⟨_,l,h⟩:=ES h (vs:=v.cells.toList) (by simpa using e1) (fun j u y a b=>e2 j u y (by simpa using a) b)
 obtain ⟨hn,rfl⟩:=nA h
 obtain ⟨a,b,c⟩:=QJ S (T:=e) hn e1 e2 fun cK=>by rw[cK] at mz;cases mz
 exact ⟨_,_,_,_,by simp[Instr.box,newVar,newRow],a,b,c⟩
theorem foldl_set (off:Nat): ∀(vs:List Value) (k:Nat) (cs:Array Value) (i:Nat),off+k+vs.length≤cs.size→
  ((vs.zipIdx k).foldl (fun cs p=>cs.setIfInBounds (off+p.2) p.1) cs)[i]? =if i<off+k then cs[i]? else if i<off+k+vs.length then vs[i-(off+k)]? else cs[i]?
 | [],k,cs,i,h=>by simp;intro h1 h2;omega
 | v::vs,k,cs,i,h=>by
  simp only[List.zipIdx_cons,List.foldl_cons]
  simp only[List.length_cons] at h⊢
  rw[foldl_set off vs (k+1) _ i (by simp;omega)]
  by_cases h1:i<off+k
  ·rw[if_pos (by omega),if_pos h1]
   rw[Array.getElem?_setIfInBounds_ne (by omega)]
  ·rw[if_neg h1]
   by_cases h2:i=off+k
   ·subst h2
    rw[if_pos (by omega),if_pos (by omega)]
    rw[Array.getElem?_setIfInBounds_self_of_lt (by omega)]
    simp
   ·rw[if_neg (by omega)]
    by_cases h3:i<off+k+(vs.length+1)
    ·rw[if_pos (by omega),if_pos h3,show i-(off+k)=(i-(off+(k+1)))+1 by omega]
     simp
    ·rw[if_neg (by omega),if_neg h3,Array.getElem?_setIfInBounds_ne (by omega)]
theorem QK (off:Nat): ∀(vs:List Value) (k:Nat) (cs:Array Value),((vs.zipIdx k).foldl (fun cs p=>cs.setIfInBounds (off+p.2) p.1) cs).size=cs.size
 | [],k,cs=>rfl
 | v::vs,k,cs=>by
  simp only[List.zipIdx_cons,List.foldl_cons]
  rw[QK off vs (k+1)]
  simp
theorem QL {cells:Array Value} {off:Nat} {v:Value} (h:off+v.cells.size≤cells.size) (i:Nat):
  (v.cells.zipIdx.foldl (fun cs (p:Value × Nat)=>cs.setIfInBounds (off+p.2) p.1) cells)[i]? =if i<off then cells[i]? else if i<off+v.cells.size then v.cells[i-off]? else cells[i]? :=by
 have:=foldl_set off v.cells.toList 0 cells i (by simpa using h)
 rw[←Array.foldl_toList]
 simpa[Array.toList_zipIdx] using this
theorem QM {cells:Array Value} {off:Nat} {v:Value}:(v.cells.zipIdx.foldl (fun cs (p:Value × Nat)=>cs.setIfInBounds (off+p.2) p.1) cells).size=cells.size:=by
 have:=QK off v.cells.toList 0 cells
 rw[←Array.foldl_toList]
 simpa[Array.toList_zipIdx] using this
inductive wq (P:Program) (w:World) (I:Nat→Prop) (β:Nat→Option Nat) (hp:Nat→Option ah):List (Nat × Value)→List (Nat × V)→Prop
 | nil:wq P w I β hp [] []
 | cons {i:Nat} {v:Value} {x:V} {vs:List (Nat × Value)} {xs:List (Nat × V)}:v.cells.size=x.cells.length→(∀(j:Nat) u y,v.cells[j]? =some u→x.cells[j]? =some y→ai P w I β hp u y)→
   wq P w I β hp vs xs→wq P w I β hp ((i,v)::vs) ((i,x)::xs)
theorem QN (place:Nat→Option (Nat × Nat)): ∀{vs:List (Nat × Value)} {px:List (Nat × V)} {cells:Array Value} {xs ys:List V},wq P w I β hp vs px→cells.size=xs.length→
  (∀(j:Nat) v x,cells[j]? =some v→xs[j]? =some x→ai P w I β hp v x)→tq place xs px=some ys→
  ∃pf:Array Value,Instr.fill place cells vs=some pf∧pf.size=ys.length∧∀(j:Nat) v x,pf[j]? =some v→ys[j]? =some x→ai P w I β hp v x
 | _,_,cells,xs,ys,.nil,hs,hx,h=>by
  simp only[tq,Option.some.injEq] at h
  subst h
  exact ⟨cells,by simp[Instr.fill],hs,hx⟩
 | _,_,cells,xs,ys,@wq.cons _ _ _ _ _ i v x vs px h1 h2 h3,hs,hx,h=>by
  simp only[tq] at h
  cases fN:place i with
  | none=>rw[fN] at h;cases h
  | some os=>
   obtain ⟨off,size⟩:=os
   rw[fN] at h
   simp only at h
   cases hc:(Nat.beq x.cells.length size&&Nat.ble (off+size) xs.length) with
   | false=>rw[hc] at h;cases h
   | true=>
    rw[hc] at h
    simp only[cond_true] at h
    simp only[Bool.and_eq_true,Nat.beq_eq,Nat.ble_eq] at hc
    have hv:off+v.cells.size≤cells.size:=by omega
    have hb:off+x.cells.length≤xs.length:=by omega
    have hl:(fZ xs off x.cells).length=xs.length:=zJ _ _ _ hb
    obtain ⟨pf,f1,f2,f3⟩:=QN place (cells:=v.cells.zipIdx.foldl (fun cs (p:Value × Nat)=>cs.setIfInBounds (off+p.2) p.1) cells) (xs:=fZ xs off x.cells) h3 (by rw[QM,hl,hs])
     (fun j u y hu hy=>by
      rw[QL hv] at hu
      unfold fZ at hy
      rw[ny _ _ _ _ hb] at hy
      by_cases j1:j<off
      ·rw[if_pos j1] at hu hy;exact hx j u y hu hy
      ·rw[if_neg j1] at hu hy
       by_cases j2:j<off+x.cells.length
       ·rw[if_pos (by omega)] at hu
        rw[if_pos j2] at hy
        exact h2 (j-off) u y hu hy
       ·rw[if_neg (by omega)] at hu
        rw[if_neg j2] at hy
        exact hx j u y hu hy) h
    refine ⟨pf,?_,f2,f3⟩
    simp only[Instr.fill,fN]
    rw[if_neg (by simp;omega)]
    exact f1
theorem aaR {t:TypeId} {parts:Array (Nat × Value)} {cells:Array Value} {z:Value} {i:TypeInfo} (hi:P.info? t=some i) (hz:i.zero=some z) (h:Instr.fill (placeOf P t) z.cells parts.toList=some cells) (ha:bG P t=true)
  (fN: ∀fs,P.underlying t=some (.struct fs)→(fs.toList.mapM fun f=>(P.info? f.type).map fun i=>(f.offset,i.size)).isSome=true) (qw: ∀n e,P.underlying t=some (.array n e)→(P.info? e).isSome=true):
  (Instr.build t parts).run P w= .ok (.agg cells) w:=by
 refine run_build w t parts cells ?_
 unfold Program.built
 unfold bG at ha
 rw[hi]
 split at ha
 ·rename_i fs hu
  have:=fN fs hu
  cases hm:fs.toList.mapM fun f=>(P.info? f.type).map fun i=>(f.offset,i.size) with
  | none=>rw[hm] at this;cases this
  | some places=>
   simp only[hu,hz,hm]
   have hq:placeOf P t=fun i=>places[i]? :=by simp[placeOf,hu,hm]
   rw[hq] at h
   simpa using h
 ·rename_i n e hu
  have:=qw n e hu
  cases jH:P.info? e with
  | none=>rw[jH] at this;cases this
  | some ie=>
   simp only[hu,hz,jH]
   have hq:placeOf P t=fun i=>some (i*ie.size,ie.size):=by simp[placeOf,hu,jH]
   rw[hq] at h
   exact h
 ·cases ha
theorem QO {α:Type}: ∀(xs ys:List V) (k:Rd α),lx (xs++ys) k=lx xs (lx ys k)
 | [],_,_=>rfl
 | x::xs,ys,k=>by simp only[List.cons_append,lx,QO xs ys k]
theorem QP {a:Act} {sl:Nat→V} (hs:kF P w I β hp a sl) {G:Nat→V} (hg:gR P G w I) (t:TypeId) {α:Type}: ∀{l:List (Nat × Operand)} {k:Rd α} {r:α} {rd:List Nat},
  (lx ((l.map fun p=>(aT P G t sl p.2).cells).flatten) k).run C hp=some (r,rd)→
  wq P w I β hp (l.map fun p=>(p.1,a.eval p.2)) (l.map fun p=>(p.1,aT P G t sl p.2))∧∃ff,k.run C hp=some (r,ff)
 | [],k,r,rd,h=>⟨.nil,rd,h⟩
 | (i,x)::l,k,r,rd,h=>by
  simp only[List.map_cons,List.flatten_cons,QO] at h
  obtain ⟨e1,e2⟩:=Jb (hs.ev hg t x) h
  obtain ⟨_,l1,h⟩:=ES h (vs:=(a.eval x).cells.toList) (by simpa using e1) (fun j u y a b=>e2 j u y (by simpa using a) b)
  obtain ⟨h1,h2⟩:=QP hs hg t h
  exact ⟨.cons e1 e2 h1,h2⟩
theorem aaS (S:aE P w I β hp B M w0) {a:Act} {sl:Nat→V} (hs:kF P w I β hp a sl) {G:Nat→V} (hg:gR P G w I) {t ty:TypeId} {ps:Array (Nat × Operand)} {r:R} {rd:List Nat}
  (h:(Rd.ay (c9 P t&&(bG P t&&Es P t)) (lx ((ps.toList.map fun p=>(aT P G ty sl p.2).cells).flatten)
   (vN (tq (placeOf P t) (zeroCells P t) (ps.toList.map fun p=>(p.1,aT P G ty sl p.2))) fun cs=> .ret ⟨.agg cs,[]⟩))).run C hp=some (r,rd)):
  di P ((Instr.build t (ps.map fun (i,x)=>(i,a.eval x))).run P w) w I β hp B M w0 r:=by
 obtain ⟨aw,h⟩:=aH h
 simp only[Bool.and_eq_true] at aw
 obtain ⟨h1,l,h⟩:=QP hs hg ty h
 cases hf:tq (placeOf P t) (zeroCells P t) (ps.toList.map fun p=>(p.1,aT P G ty sl p.2)) with
 | none=>rw[hf] at h;cases h
 | some cs=>
  rw[hf] at h
  obtain rfl:=aS h
  obtain ⟨i,z,hi,hz,h3,h4,h5⟩:=QI (w:=w) (I:=I) (β:=β) (hp:=hp) aw.1
  obtain ⟨cells,f1,f2,f3⟩:=QN (placeOf P t) h1 h3 h5 hf
  have QQ:=aw.2.2
  refine .same S (v:= .agg cells) (aaR hi hz (by simpa using f1) aw.2.1 (fun fs hu=> ?_) (fun n e hu=> ?_)) (.agg f2 f3)
  ·simpa[Es,hu] using QQ
  ·simpa[Es,hu] using QQ
theorem aaT (cN: ∀id blk,hp id=some blk→en P w I β hp (β id) blk) {x:V} {v:Value} {ys:List V} {fr:List (Nat × ah)} {rd:List Nat} {ts:List TypeId} (hv:ai P w I β hp v x)
  (h:(sd P x.cells).run C hp=some ((ys,fr),rd)) (ht:p8 P ts ys=true):
  v.cells.size=x.cells.length∧∀(j:Nat) u y,v.cells.toList[j]? =some u→x.cells[j]? =some y→ai P w I β hp u y:=by
 cases x with
 | agg xs=>
  obtain ⟨cs,rfl,h1,h2⟩:=hv.kH
  exact ⟨h1,fun j u y a b=>h2 j u y (by simpa[Value.cells] using a) b⟩
 | _=>
  simp only[V.cells] at h⊢
  simp only[sd] at h
  obtain ⟨⟨y1,u1⟩,l3,l4,hq,h⟩:=kG h
  obtain ⟨q1,q2⟩:=EG cN hq hv
  obtain ⟨⟨y2,u2⟩,l5,l6,pb,h⟩:=kG h
  cases pb
  have:=aS h
  cases this
  obtain ⟨tl,tg⟩:=tN ht
  have fO:=tg 0 _ y1 (List.getElem?_eq_getElem (by rw[tl];exact Nat.one_pos)) rfl
  have fN:=q2 (iJ P w I β hp u1) (fun _ h=> .inl h) (fun p hp b h=> .inr ⟨p,hp,h⟩)
  have ho:=fN.pure fO
  have Jr:v.cells= #[v]:=by cases ho<;>rfl
  rw[Jr]
  refine ⟨rfl,fun j u y hu hy=> ?_⟩
  cases j with
  | zero=>simp at hu hy;subst hu;subst hy;exact hv
  | succ j=>simp at hy
def wu (P:Program) (w:World) (I:Nat→Prop) (e:TypeId) (cells:Array Value) (es:List V):Prop:=
 cells.size=es.length*P.cellsOf e∧∀(i j:Nat) (x:V) (t':TypeId),es[i]? =some x→(aY P e)[j]? =some t'→j<P.cellsOf e→∃v,cells[i*P.cellsOf e+j]? =some v∧Pure P w I t' v (bN P e x j)
theorem wu.set {e:TypeId} {cells:Array Value} {es ys:List V} {i:Nat} {v:Value} (h:wu P w I e cells es) (hi:i<es.length) (hv:v.cells.size=P.cellsOf e) (hy:ys.length=P.cellsOf e)
  (hr: ∀(j:Nat) (t':TypeId) (u:Value) (y:V),(aY P e)[j]? =some t'→v.cells[j]? =some u→ys[j]? =some y→Pure P w I t' u y):
  wu P w I e (v.cells.zipIdx.foldl (fun cs (p:Value × Nat)=>cs.setIfInBounds (i*P.cellsOf e+p.2) p.1) cells) (es.set i (cG P e ys)):=by
 obtain ⟨h1,h2⟩:=h
 have hb:i*P.cellsOf e+v.cells.size≤cells.size:=by
  have:(i+1)*P.cellsOf e≤es.length*P.cellsOf e:=Nat.mul_le_mul_right _ hi
  rw[Nat.add_mul] at this
  omega
 refine ⟨by rw[QM,List.length_set,h1],fun i' j x t' hx ht hj=> ?_⟩
 rw[QL hb]
 rw[List.getElem?_set] at hx
 by_cases iM:i=i'
 ·subst iM
  rw[if_pos rfl,if_pos hi] at hx
  cases hx
  rw[if_neg (by omega),if_pos (by omega),show i*P.cellsOf e+j-i*P.cellsOf e=j by omega]
  have h3:j<v.cells.size:=by omega
  have h4:j<ys.length:=by omega
  refine ⟨v.cells[j],Array.getElem?_eq_getElem h3,?_⟩
  rw[qp (List.getElem?_eq_getElem h4) ht]
  exact hr j t' _ _ ht (Array.getElem?_eq_getElem h3) (List.getElem?_eq_getElem h4)
 ·rw[if_neg iM] at hx
  have bP:i'*P.cellsOf e+j<i*P.cellsOf e∨i*P.cellsOf e+v.cells.size≤i'*P.cellsOf e+j:=by
   rcases Nat.lt_or_ge i' i with aX|pe
   ·left
    have:(i'+1)*P.cellsOf e≤i*P.cellsOf e:=Nat.mul_le_mul_right _ aX
    rw[Nat.add_mul] at this
    omega
   ·right
    have:(i+1)*P.cellsOf e≤i'*P.cellsOf e:=Nat.mul_le_mul_right _ (by omega)
    rw[Nat.add_mul] at this
    omega
  rcases bP with bP|bP
  ·rw[if_pos bP];exact h2 i' j x t' hx ht hj
  ·rw[if_neg (by omega),if_neg (by omega)];exact h2 i' j x t' hx ht hj
theorem aaU {t':TypeId} {v:Value} (fO:eR P t' (vH (oU P t' v))=true):Pure P w I t' v (vH (oU P t' v)):=by
 have hc:=ai.const (P:=P) (w:=w) (I:=I) (β:=fun _=>none) (hp:=fun _=>none) t' v
 cases tS:oU P t' v<;>rw[tS] at fO hc<;>simp only[vH] at fO⊢
 case int k n=>rw[hc.eM];exact Plain.pure (v:= .int k n) (y:= .int k n) rfl fO
 case bool b=>rw[hc.jF];exact Plain.pure (v:= .bool b) (y:= .bool b) rfl fO
 case str l=>obtain ⟨s,e1,e2⟩:=hc.my;rw[e1];exact Plain.pure (v:= .string s) (y:= .str l) ⟨s,rfl,e2⟩ fO
 case nilS e'=>
  cases hc
  exact Plain.pure (y:= .list e' []) (iH.any fun _=>rfl) fO
 case list e' es=>
  cases hc with
  | list hp=>exact Plain.pure (y:= .list e' es) hp fO
 all_goals (unfold eR at fO;split at fO<;>simp_all)
theorem zR {e:TypeId} (h:mi P e=true): ∃i z,P.info? e=some i∧i.zero=some z∧i.size=P.cellsOf e∧z.cells.size=P.cellsOf e∧
  ∀(j:Nat) (t':TypeId),(aY P e)[j]? =some t'→j<P.cellsOf e→∃v,z.cells[j]? =some v∧Pure P w I t' v (bN P e (cG P e (eY P e)) j):=by
 unfold mi at h
 simp only[Bool.and_eq_true] at h
 obtain ⟨i,z,h1,h2,h3,h4,h5⟩:=kh h.1
 refine ⟨i,z,h1,h2,h3,h4,fun j t' ht hj=> ?_⟩
 obtain ⟨tl,tg⟩:=tN h.2
 have dd:j<(eY P e).length:=by rw[←tl,(kf h.1).1];exact hj
 have hz:=List.getElem?_eq_getElem dd
 have fO:=tg j t' _ (by rw[←sA];exact ht) hz
 refine ⟨z.cells[j],Array.getElem?_eq_getElem (by omega),?_⟩
 rw[qp hz ht]
 have tT:(eY P e)[j]=vH (oU P t' z.cells[j]):=by
  have:(eY P e)[j]? =((zeroCells P e)[j]?).map vH:=by simp[eY]
  rw[hz] at this
  cases hc:(zeroCells P e)[j]? with
  | none=>rw[hc] at this;cases this
  | some y=>
   rw[hc] at this
   simp only[Option.map_some,Option.some.injEq] at this
   rw[h5] at hc
   obtain ⟨t2,v2,a1,a2,rfl⟩:=Js hc
   have Jt:t2=t':=by
    rw[←sA,ht] at a1;exact (Option.some.inj a1).symm
   have qg:v2=z.cells[j]:=by
    have hjz:j<z.cells.size:=by omega
    have:z.cells.toList[j]? =some z.cells[j]:=by simp[hjz]
    rw[this] at a2;exact (Option.some.inj a2).symm
   rw[this,Jt,qg]
 rw[tT] at fO⊢
 exact aaU fO
end
section
variable {P:Program} {w w':World} {I I':Nat→Prop} {β au:Nat→Option Nat} {hp hp':Nat→Option ah} {C:ae} {B:Nat} {M:Nat→Prop} {w0:Start}
theorem wv (S:aE P w I β hp B M w0) {nb cap:Nat} {e:TypeId} {es:List V} {C0:Array Value} (aw:c9 P e=true) (hn:hp nb=none) (hs:C0.size=cap*P.cellsOf e) (hl:es.length≤cap) (hm:cap≤maxLen)
  (hx: ∀(i j:Nat) (x:V) (t':TypeId),es[i]? =some x→(aY P e)[j]? =some t'→j<P.cellsOf e→∃v,C0[i*P.cellsOf e+j]? =some v∧Pure P w I t' v (bN P e x j)):
  Le P w I β hp (w.alloc (.cells C0 e)) I (aK β nb (some w.heap.size)) (aK hp nb (some (.arr e es false)))∧aE P (w.alloc (.cells C0 e)) I (aK β nb (some w.heap.size)) (aK hp nb (some (.arr e es false))) B M w0∧
  ai P (w.alloc (.cells C0 e)) I (aK β nb (some w.heap.size)) (aK hp nb (some (.arr e es false))) (.slice (some ⟨w.heap.size,0,none⟩) es.length cap) (.whole e nb):=by
 obtain ⟨h1,h2⟩:=I6 S (blk:= .arr e es false) (c:=C0) (T:=e) hn (fun b' h=>(Option.some.inj (h.flat (by simp))).symm) (fun hle fe cW=> .arr aw rfl fe (by rw[hs];exact Nat.mul_le_mul_right _ hl) (fun h=>by cases h) (fun _=>cW) fun i j x t' a b c=>by
  obtain ⟨v,hv,hp⟩:=hx i j x t' a b c
  exact ⟨v,hv,hp.mono hle.dE hle.cp⟩)
 refine ⟨h1,h2,.whole (dc _ _ _) (dc _ _ _) ?_ hl hm⟩
 rw[nt (heap_alloc_new w (.cells C0 e)),hs]
theorem At.only {b b':Nat} {e e':TypeId} {es aQ:List V} {q:Path} (hz: ∀(i j:Nat) x t' e1 l,es[i]? =some x→(aY P e)[j]? =some t'→bN P e x j= .list e1 l→l=[])
  (h:At P w b e es q b' e' aQ):q=[]∧b'=b∧e'=e∧aQ=es:=by
 cases h with
 | here=>exact ⟨rfl,rfl,rfl,rfl⟩
 | step h1 h2 h3 h4 h5 h6=>have:=hz _ _ _ _ _ _ h2 h3 h5;subst this;simp at h6
theorem mo.qf {t:TypeId} {v:Value} {x:V} (h:Pure P w I t v x) (hz: ∀e1 l,x= .list e1 l→l=[]):mo P w I t v x:=by
 cases h with
 | int h=>exact .gg (by unfold ga;rw[h]) (.int h)
 | bool h=>exact .gg (by unfold ga;rw[h]) (.bool h)
 | str h hl=>exact .gg (by unfold ga;rw[h]) (.str h hl)
 | nil h=>exact .emp h fun _=>rfl
 | emp h=>exact .emp h fun h=>by cases h
 | list g hu hl _ _ _ _=>
  have:=hz _ _ rfl
  subst this
  simp at hl
  subst hl
  exact .emp hu fun h=>by cases h
theorem aaV (S:aE P w I β hp B M w0) {nb cap:Nat} {e:TypeId} {es:List V} {C0:Array Value} (aw:c9 P e=true) (hn:hp nb=none) (hs:C0.size=cap*P.cellsOf e) (hl:es.length≤cap) (hm:cap≤maxLen)
  (hx: ∀(i j:Nat) (x:V) (t':TypeId),es[i]? =some x→(aY P e)[j]? =some t'→j<P.cellsOf e→∃v,C0[i*P.cellsOf e+j]? =some v∧Pure P w I t' v (bN P e x j))
  (hz: ∀(i j:Nat) x t' e1 l,es[i]? =some x→(aY P e)[j]? =some t'→bN P e x j= .list e1 l→l=[]):
  Le P w I β hp (w.alloc (.cells C0 e)) I (aK β nb (some w.heap.size)) (aK hp nb (some (.nest e es [0,0,0])))∧aE P (w.alloc (.cells C0 e)) I (aK β nb (some w.heap.size)) (aK hp nb (some (.nest e es [0,0,0]))) B M w0∧
  ai P (w.alloc (.cells C0 e)) I (aK β nb (some w.heap.size)) (aK hp nb (some (.nest e es [0,0,0]))) (.slice (some ⟨w.heap.size,0,none⟩) es.length cap) (.whole e nb):=by
 obtain ⟨h1,h2⟩:=I6 S (blk:= .nest e es [0,0,0]) (c:=C0) (T:=e) hn (fun b' h=>by
   cases h with
   | root _ h=>exact (Option.some.inj h).symm
   | row h ha=>cases h;exact (At.only hz ha).2.1)
  (fun hle fe cW=> .nest rfl (fun q b' e' aQ ha=>by
   obtain ⟨rfl,rfl,rfl,rfl⟩:=At.only hz ha
   refine ⟨aw,⟨C0,fe,by rw[hs];exact Nat.mul_le_mul_right _ hl,fun i j x t' a b c=> ?_⟩,cW⟩
   obtain ⟨v,hv,hp⟩:=hx i j x t' a b c
   exact ⟨v,hv,.qf (hp.mono hle.dE hle.cp) fun e1 l h=>hz i j x t' e1 l a b h⟩)
   fun q1 q2 b' e1 cy e2 cf a1 a2=>(At.only hz a1).1.trans (At.only hz a2).1.symm)
 refine ⟨h1,h2,.eL (dc _ _ _) (dc _ _ _) ?_ hl hm⟩
 rw[nt (heap_alloc_new w (.cells C0 e)),hs]
theorem QR (cN: ∀id blk,hp id=some blk→en P w I β hp (β id) blk) {a:Act} {sl:Nat→V} (hs:kF P w I β hp a sl) {G:Nat→V} (hg:gR P G w I) {e:TypeId} {len:Nat}: ∀{l:List (Nat × Operand)} {ps:List (Nat × V)} {upd:List (Nat × ah)} {rd:List Nat},
  (y8 P e len (l.map fun p=>(p.1,aT P G e sl p.2))).run C hp=some ((ps,upd),rd)→c9 P e=true→(∀p∈upd,zu hp p)∧∀I':Nat→Prop,(∀b,I b→I' b)→(∀p∈upd,∀b,sy P w β hp p.1 b→I' b)→
   ∀(cells:Array Value) (es:List V),es.length=len→wu P w I' e cells es→∃pf,Instr.fill (fun i=>some (i*P.cellsOf e,P.cellsOf e)) cells (l.map fun p=>(p.1,a.eval p.2))=some pf∧wu P w I' e pf (y7 es ps)∧(y7 es ps).length=len
 | [],ps,upd,rd,h,_=>by
  cases h
  exact ⟨by simp,fun I' _ _ cells es hl he=>⟨cells,by simp[Instr.fill],he,hl⟩⟩
 | (i,x)::l,ps,upd,rd,h,aw=>by
  simp only[List.map_cons,y8] at h
  obtain ⟨⟨ys,u1⟩,l1,l2,h1,h⟩:=kG h
  obtain ⟨hc,h⟩:=aH h
  obtain ⟨⟨ps',u2⟩,l3,l4,h2,h⟩:=kG h
  have:=aS h
  cases this
  simp only[Bool.and_eq_true,Nat.blt_eq] at hc
  obtain ⟨hi,fO⟩:=hc
  obtain ⟨tl,tg⟩:=tN fO
  have wc:=hs.ev hg e x
  obtain ⟨v1,v2⟩:=aaT cN wc h1 fO
  obtain ⟨k1,k2,k3⟩:=I5 cN h1 (vs:=(a.eval x).cells.toList) (by simpa using v1) v2
  obtain ⟨m1,m2⟩:=QR cN hs hg h2 aw
  refine ⟨fun p hp=> ?_,fun I' i1 i2 cells es hl he=> ?_⟩
  ·rcases List.mem_append.1 hp with h|h
   ·exact k2 p h
   ·exact m1 p h
  ·have fN:=k3 I' i1 (fun p hp=>i2 p (List.mem_append.2 (.inl hp)))
   have a8:=(kf aw).1
   have tQ:ys.length=P.cellsOf e:=by rw[←tl,a8]
   have Qw:(a.eval x).cells.size=P.cellsOf e:=by rw[v1,←k1,tQ]
   have tU:=he.set (i:=i) (ys:=ys) (by omega) Qw tQ (fun j t' u y ht hu hy=>by
    exact (fN j u y (by simpa using hu) hy).pure (tg j t' y (by rw[←sA];exact ht) hy))
   obtain ⟨pf,f1,f2,f3⟩:=m2 I' i1 (fun p hp=>i2 p (List.mem_append.2 (.inr hp))) _ (es.set i (cG P e ys)) (by simpa using hl) tU
   refine ⟨pf,?_,f2,f3⟩
   have hb:i*P.cellsOf e+P.cellsOf e≤cells.size:=by
    rw[he.1,hl]
    have:(i+1)*P.cellsOf e≤len*P.cellsOf e:=Nat.mul_le_mul_right _ hi
    rw[Nat.add_mul] at this
    omega
   simp only[List.map_cons,Instr.fill]
   rw[if_neg (by simp;omega)]
   exact f1
theorem QS {z:Array Value} {n k:Nat} (hk:k<n) (hz:0<z.size):((Array.range n).map (z[· %z.size]!))[k]? =z[k %z.size]? :=by
 have hm:k %z.size<z.size:=Nat.mod_lt _ hz
 simp[hk,hm]
theorem E3 {e:TypeId} (h:mi P e=true) {i:TypeInfo} {z:Value} (hi:P.info? e=some i) (hz:i.zero=some z) (n m:Nat) (nZ:n≤m):
  ∀(k j:Nat) (x:V) (t':TypeId),(List.replicate n (cG P e (eY P e)))[k]? =some x→(aY P e)[j]? =some t'→j<P.cellsOf e→
   ∃v,((Array.range (m*P.cellsOf e)).map (z.cells[· %z.cells.size]!))[k*P.cellsOf e+j]? =some v∧Pure P w I t' v (bN P e x j):=by
 intro k j x t' hx ht hj
 obtain ⟨i2,z2,h1,h2,h3,h4,h5⟩:=zR (w:=w) (I:=I) h
 rw[hi] at h1;cases h1
 rw[hz] at h2;cases h2
 rw[List.getElem?_replicate] at hx
 split at hx
 ·rename_i hk
  cases hx
  obtain ⟨v,hv,hp⟩:=h5 j t' ht hj
  refine ⟨v,?_,hp⟩
  have hb:k*P.cellsOf e+j<m*P.cellsOf e:=by
   have:(k+1)*P.cellsOf e≤m*P.cellsOf e:=Nat.mul_le_mul_right _ (by omega)
   rw[Nat.add_mul] at this
   omega
  rw[QS hb (by omega),h4,show (k*P.cellsOf e+j) %P.cellsOf e=j by rw[Nat.mul_comm,Nat.mul_add_mod];exact Nat.mod_eq_of_lt hj]
  exact hv
 ·cases hx
theorem aaW {P:Program} (w:World) (t e:TypeId) (len:Nat) (parts:Array (Nat × Value)) (cells:Array Value) (ie:TypeInfo) (z:Value)
  (hu:P.underlying t=some (.slice e)) (jH:P.info? e=some ie) (hz:ie.zero=some z) (aaX: ¬len*ie.size>2^24)
  (h:Instr.fill (fun i=>some (i*ie.size,ie.size)) ((Array.range (len*ie.size)).map (z.cells[· %z.cells.size]!)) parts.toList=some cells):
  (Instr.buildSlice t len parts).run P w= .ok (.slice (some ⟨w.heap.size,0,none⟩) len len) (w.alloc (.cells cells e)):=by
 by_cases nZ:len*ie.size=0
 ·have h0: ∀g:Nat→Value,(Array.range (len*ie.size)).map g= #[]:=by intro g;exact Array.eq_empty_of_size_eq_zero (by simp[nZ])
  have hp: ∀(u:Array Value),(Pure.pure u:Sem (Array Value)).run P w= .ok u w:=fun _=>rfl
  rw[h0] at h
  simp only[Instr.buildSlice,Sem.run_bind,run_underlying hu,Result.andThen_ok,sizeOf,typeInfo,jH]
  have h1:(Array.range (len*ie.size)).map (fun _:Nat=>(default:Value))= #[]:=h0 _
  have hs: ¬16777216<len*ie.size:=by omega
  simp[jH,hs,nZ]
  simp only[nZ] at h1
  simp[h1,h,newRow]
 ·exact run_buildSlice w t e len parts cells ie z hu jH hz aaX nZ h
theorem aaY (S:aE P w I β hp B M w0) {a:Act} {sl:Nat→V} (hs:kF P w I β hp a sl) {G:Nat→V} (hg:gR P G w I) {t e:TypeId} {len nb:Nat} {ps:Array (Nat × Operand)} {r:R} {rd:List Nat} (hu:P.underlying t=some (.slice e))
  (h:(Rd.ay (mi P e&&Nat.ble (len*P.cellsOf e) (2^24)) ((y8 P e len (ps.toList.map fun p=>(p.1,aT P G e sl p.2))).bind fun r=>
    ji nb (.arr e (y7 (List.replicate len (cG P e (eY P e))) r.1) false) (.whole e nb) r.2)).run C hp=some (r,rd)):
  di P ((Instr.buildSlice t len (ps.map fun (i,x)=>(i,a.eval x))).run P w) w I β hp B M w0 r:=by
 obtain ⟨hc,h⟩:=aH h
 simp only[Bool.and_eq_true,Nat.ble_eq] at hc
 obtain ⟨da,vV⟩:=hc
 have aw:c9 P e=true:=by
  unfold mi at da;simp only[Bool.and_eq_true] at da;exact da.1
 obtain ⟨⟨pv,upd⟩,l1,l2,h1,h⟩:=kG h
 obtain ⟨hn,rfl⟩:=nA h
 obtain ⟨m1,m2⟩:=QR S.h.rel hs hg h1 aw
 obtain ⟨qt,S1⟩:=zA S m1
 obtain ⟨i,z,hi,hz,h3,h4,_⟩:=zR (w:=w) (I:=I) da
 have iI:=(kf aw).2
 have h0:wu P w (iJ P w I β hp upd) e ((Array.range (len*P.cellsOf e)).map (z.cells[· %z.cells.size]!)) (List.replicate len (cG P e (eY P e))):=
  ⟨by simp,E3 da hi hz len len (Nat.le_refl _)⟩
 obtain ⟨cells,f1,f2,f3⟩:=m2 (iJ P w I β hp upd) (fun _ h=> .inl h) (fun p hp b h=> .inr ⟨p,hp,h⟩) _ _ (by simp) h0
 have ki:bO hp upd nb=none:=by
  rcases tH (hp:=hp) (l:=upd) (id:=nb) with h|⟨b',hm,_⟩
  ·exact h.trans hn
  ·obtain ⟨e1,cy,_,h5⟩:=m1 _ hm
   simp only[hn] at h5
   rcases h5 with ⟨_,h5⟩|⟨_,h5⟩<;>cases h5
 have lB:len≤maxLen:=by
  have:len*1≤len*P.cellsOf e:=Nat.mul_le_mul_left _ iI
  simp only[maxLen]
  omega
 obtain ⟨n1,n2,n3⟩:=wv S1 (cap:=len) aw ki (by rw[f2.1,f3]) (by rw[f3];exact Nat.le_refl _) lB f2.2
 have cX:=aaW w t e len (ps.map fun (i,x)=>(i,a.eval x)) cells i z hu hi hz (by rw[h3];omega) (by rw[h3];simpa using f1)
 refine ⟨_,_,_,_,cX,qt.trans n1,n2,?_⟩
 rw[f3] at n3
 exact n3
theorem QT (S:aE P w I β hp B M w0) {t e:TypeId} {nb:Nat} {kl kc:IntKind} {n m:Int} {r:R} {rd:List Nat} (hu:P.underlying t=some (.slice e))
  (h:(Rd.ay (mi P e&&(decide (0≤n)&&(decide (n≤m)&&Nat.ble (m.toNat*P.bytesOf e) cg)))
    (ji nb (.arr e (List.replicate n.toNat (cG P e (eY P e))) false) (.whole e nb) [])).run C hp=some (r,rd)):
  di P ((Instr.makeSlice t (.int kl n) (.int kc m)).run P w) w I β hp B M w0 r:=by
 obtain ⟨hc,h⟩:=aH h
 simp only[Bool.and_eq_true,Nat.ble_eq,decide_eq_true_eq] at hc
 obtain ⟨da,h0,nZ,eT⟩:=hc
 have aw:c9 P e=true:=by
  unfold mi at da;simp only[Bool.and_eq_true] at da;exact da.1
 obtain ⟨hn,rfl⟩:=nA h
 obtain ⟨i,z,hi,hz,h3,h4,_⟩:=zR (w:=w) (I:=I) da
 have mC:P.bytesOf e=i.bytes:=by simp[Program.bytesOf,hi]
 have Ju:m≤9223372036854775807:=by
  have h1:m.toNat*1≤m.toNat*P.bytesOf e:=Nat.mul_le_mul_left _ (vX aw)
  simp only[cg] at eT
  omega
 have cX:=run_make (P:=P) w t e i z hu hi hz kl kc n m h0 nZ (by
  rw[mC] at eT
  simp only[cg] at eT
  have:(i.bytes:Int)*m=((m.toNat*i.bytes:Nat):Int):=by
   rw[Int.natCast_mul,Int.toNat_of_nonneg (by omega),Int.mul_comm]
  rw[this]
  omega) Ju
 have hlen:(List.replicate n.toNat (cG P e (eY P e))).length=n.toNat:=by simp
 obtain ⟨n1,n2,n3⟩:=wv S (cap:=m.toNat) (es:=List.replicate n.toNat (cG P e (eY P e))) (C0:=madeCells z.cells (m.toNat*i.size)) aw hn (by rw[size_madeCells,h3]) (by rw[hlen];omega) (by simp only[maxLen];omega)
  (by rw[h3];exact E3 da hi hz n.toNat m.toNat (by omega))
 refine ⟨_,_,_,_,cX,n1,n2,?_⟩
 rw[hlen] at n3
 exact n3
theorem Jv: ∀{l:List V} {j:Nat} {e1:TypeId} {k:List V},zh l=true→V.nth l j= .list e1 k→k=[]
 | [],j,e1,k,_,h=>by cases j<;>cases h
 | x::l,0,e1,k,hn,h=>by
  simp only[V.nth] at h
  subst h
  cases k with
  | nil=>rfl
  | cons _ _=>cases hn
 | x::l,j+1,e1,k,hn,h=>by
  refine Jv (l:=l) (j:=j) ?_ h
  cases x with
  | list e2 k2=>
   cases k2 with
   | nil=>exact hn
   | cons _ _=>cases hn
  | _=>exact hn
theorem aaZ {e:TypeId} {n:Nat} (aw:c9 P e=true) (h:zh (eY P e)=true):
  ∀(i j:Nat) x t' e1 l,(List.replicate n (cG P e (eY P e)))[i]? =some x→(aY P e)[j]? =some t'→bN P e x j= .list e1 l→l=[]:=by
 intro i j x t' e1 l hx ht hl
 have:=List.eq_of_mem_replicate (List.mem_of_getElem? hx)
 subst this
 unfold bN cG at hl
 cases ha:bG P e with
 | true=>rw[ha] at hl;exact Jv h hl
 | false=>rw[ha] at hl;exact Jv h hl
theorem aa0 (S:aE P w I β hp B M w0) {t e:TypeId} {nb:Nat} {kl kc:IntKind} {n m:Int} {r:R} {rd:List Nat} (hu:P.underlying t=some (.slice e))
  (h:(Rd.ay (mi P e&&(decide (0≤n)&&(decide (n≤m)&&Nat.ble (m.toNat*P.bytesOf e) cg)))
    (Rd.ay (zh (eY P e)) (ji nb (.nest e (List.replicate n.toNat (cG P e (eY P e))) [0,0,0]) (.whole e nb) []))).run C hp=some (r,rd)):
  di P ((Instr.makeSlice t (.int kl n) (.int kc m)).run P w) w I β hp B M w0 r:=by
 obtain ⟨hc,h⟩:=aH h
 simp only[Bool.and_eq_true,Nat.ble_eq,decide_eq_true_eq] at hc
 obtain ⟨da,h0,nZ,eT⟩:=hc
 have aw:c9 P e=true:=by
  unfold mi at da;simp only[Bool.and_eq_true] at da;exact da.1
 obtain ⟨hnr,h⟩:=aH h
 obtain ⟨hn,rfl⟩:=nA h
 obtain ⟨i,z,hi,hz,h3,h4,_⟩:=zR (w:=w) (I:=I) da
 have mC:P.bytesOf e=i.bytes:=by simp[Program.bytesOf,hi]
 have Ju:m≤9223372036854775807:=by
  have h1:m.toNat*1≤m.toNat*P.bytesOf e:=Nat.mul_le_mul_left _ (vX aw)
  simp only[cg] at eT
  omega
 have cX:=run_make (P:=P) w t e i z hu hi hz kl kc n m h0 nZ (by
  rw[mC] at eT
  simp only[cg] at eT
  have:(i.bytes:Int)*m=((m.toNat*i.bytes:Nat):Int):=by
   rw[Int.natCast_mul,Int.toNat_of_nonneg (by omega),Int.mul_comm]
  rw[this]
  omega) Ju
 have hlen:(List.replicate n.toNat (cG P e (eY P e))).length=n.toNat:=by simp
 obtain ⟨n1,n2,n3⟩:=aaV S (cap:=m.toNat) (es:=List.replicate n.toNat (cG P e (eY P e))) (C0:=madeCells z.cells (m.toNat*i.size)) aw hn (by rw[size_madeCells,h3]) (by rw[hlen];omega) (by simp only[maxLen];omega)
  (by rw[h3];exact E3 da hi hz n.toNat m.toNat (by omega))
  (aaZ aw hnr)
 refine ⟨_,_,_,_,cX,n1,n2,?_⟩
 rw[hlen] at n3
 exact n3
theorem Pure.one {t:TypeId} {v:Value} {x:V} (h:Pure P w I t v x):v.oneCell'=true:=by cases h<;>rfl
structure Row (P:Program) (w:World) (I:Nat→Prop) (e:TypeId) (v:Value) (xs:List V) (a:Addr) (c:Nat) (news:List Value):Prop where
 val:v= .slice (some a) xs.length c
 len:news.length=xs.length*P.cellsOf e
 cell: ∀(j:Nat) u,news[j]? =some u→w.cell? (a.add j)=some u
 el: ∀(i j:Nat) (x:V) (t':TypeId),xs[i]? =some x→(aY P e)[j]? =some t'→j<P.cellsOf e→∃u,news[i*P.cellsOf e+j]? =some u∧Pure P w I t' u (bN P e x j)
theorem Row.one {e:TypeId} {v:Value} {xs:List V} {a:Addr} {c:Nat} {news:List Value} (h:Row P w I e v xs a c news) (aw:c9 P e=true): ∀u∈news,u.oneCell'=true:=by
 intro u hu
 obtain ⟨k,hk⟩:=List.getElem?_of_mem hu
 have lG:=(List.getElem?_eq_some_iff.1 hk).1
 have iI:=(kf aw).2
 rw[h.len] at lG
 have hi:k/P.cellsOf e<xs.length:=Nat.div_lt_of_lt_mul (by rw[Nat.mul_comm];exact lG)
 have hj:k %P.cellsOf e<P.cellsOf e:=Nat.mod_lt _ iI
 have gK:k %P.cellsOf e<(aY P e).length:=by rw[fM aw];exact hj
 obtain ⟨u',gi,hp⟩:=h.el (k/P.cellsOf e) (k %P.cellsOf e) _ _ (List.getElem?_eq_getElem hi) (List.getElem?_eq_getElem gK) hj
 rw[Nat.div_add_mod'] at gi
 rw[hk] at gi
 cases gi
 exact hp.one
theorem QU {e:TypeId} {es:List V} {b:Nat} {Ca:Array Value} {off len cap o:Nat} (hh:w.heap[b]? =some (.cells Ca e (0,0))) (hs:es.length*P.cellsOf e≤Ca.size)
  (hx: ∀(i j:Nat) (x:V) (t':TypeId),es[i]? =some x→(aY P e)[j]? =some t'→j<P.cellsOf e→∃v,Ca[i*P.cellsOf e+j]? =some v∧Pure P w I t' v (bN P e x j))
  (jn:off+len≤es.length) (ho:0<len→o=off*P.cellsOf e):
  Row P w I e (.slice (some ⟨b,o,none⟩) len cap) ((es.drop off).take len) ⟨b,o,none⟩ cap ((Ca.toList.drop (off*P.cellsOf e)).take (len*P.cellsOf e)):=by
 have hlen:((es.drop off).take len).length=len:=by simp;omega
 have hb:(off+len)*P.cellsOf e≤Ca.size:=Nat.le_trans (Nat.mul_le_mul_right _ jn) hs
 rw[Nat.add_mul] at hb
 refine ⟨by rw[hlen],by rw[hlen];simp;omega,fun j u hj=> ?_,fun i j x t' gI ht hj=> ?_⟩
 ·have dd:=(List.getElem?_eq_some_iff.1 hj).1
  have Jw:j<len*P.cellsOf e:=by
   rw[List.length_take] at dd;omega
  have mq:0<len:=by
   rcases Nat.eq_zero_or_pos len with h|h
   ·rw[h] at Jw;simp at Jw
   ·exact h
  rw[List.getElem?_take_of_lt Jw,List.getElem?_drop] at hj
  rw[nw,cell?_cells hh,ho mq]
  simpa using hj
 ·have hi:i<len:=by rw[←hlen];exact (List.getElem?_eq_some_iff.1 gI).1
  rw[List.getElem?_take_of_lt hi,List.getElem?_drop] at gI
  obtain ⟨u,hu,hp⟩:=hx (off+i) j x t' gI ht hj
  refine ⟨u,?_,hp⟩
  have:i*P.cellsOf e+j<len*P.cellsOf e:=by
   have:(i+1)*P.cellsOf e≤len*P.cellsOf e:=Nat.mul_le_mul_right _ hi
   rw[Nat.add_mul] at this
   omega
  rw[List.getElem?_take_of_lt this,List.getElem?_drop]
  rw[Nat.add_mul] at hu
  rw[←Nat.add_assoc]
  simpa using hu
theorem E4 (cN: ∀id blk,hp id=some blk→en P w I β hp (β id) blk) {e:TypeId} {v:Value} {x:V} {k:List V→Rd R} {r:R} {rd:List Nat} (aw:c9 P e=true) (hv:ai P w I β hp v x)
  (h:(si e x k).run C hp=some (r,rd)): ∃xs,(((∃a,v= .slice a 0 0)∧xs=[])∨∃a c news,Row P w I e v xs a c news)∧∃l,(k xs).run C hp=some (r,l):=by
 cases hv with
 | list hp'=>
  obtain ⟨hc,h2⟩:=aH h
  clear h
  rw[Nat.beq_eq] at hc
  subst hc
  cases hp' with
  | nil=>exact ⟨[],.inl ⟨⟨_,rfl⟩,rfl⟩,rd,h2⟩
  | @emp a cap=>exact ⟨[],.inr ⟨a,cap,[],⟨rfl,by simp,fun j u hj=>by simp at hj,fun i j x t' hx _ _=>by simp at hx⟩⟩,rd,h2⟩
  | @list b o len cap es g hl cj hI gu hx=>
   refine ⟨_,.inr ⟨⟨b,o,none⟩,cap,(List.range (len*P.cellsOf e)).map fun k=>g (k/P.cellsOf e) (k %P.cellsOf e),⟨by rw[hl],by rw[hl];simp,fun j u hj=> ?_,fun i j x t' gI ht hj=> ?_⟩⟩,rd,h2⟩
   ·obtain ⟨dd,ij⟩:=List.getElem?_eq_some_iff.1 hj
    simp at dd ij
    have iI:=(kf aw).2
    have hi:j/P.cellsOf e<len:=Nat.div_lt_of_lt_mul (by rw[Nat.mul_comm];exact dd)
    have b8:j %P.cellsOf e<P.cellsOf e:=Nat.mod_lt _ iI
    rw[nw,←ij]
    have:=gu (j/P.cellsOf e) (j %P.cellsOf e) hi b8
    rwa [Nat.div_add_mod'] at this
   ·have hi:i<len:=by rw[←hl];exact (List.getElem?_eq_some_iff.1 gI).1
    have hb:i*P.cellsOf e+j<len*P.cellsOf e:=by
     have:(i+1)*P.cellsOf e≤len*P.cellsOf e:=Nat.mul_le_mul_right _ hi
     rw[Nat.add_mul] at this
     omega
    refine ⟨g i j,?_,hx i j x t' gI ht⟩
    have e1:(i*P.cellsOf e+j)/P.cellsOf e=i:=by
     rw[Nat.mul_comm,Nat.mul_add_div (kf aw).2,Nat.div_eq_of_lt hj,Nat.add_zero]
    have e2:(i*P.cellsOf e+j) %P.cellsOf e=j:=by
     rw[Nat.mul_comm,Nat.mul_add_mod];exact Nat.mod_eq_of_lt hj
    simp[hb,e1,e2]
 | nilS=>
  obtain ⟨hc,h⟩:=aH h
  exact ⟨[],.inl ⟨⟨_,rfl⟩,rfl⟩,rd,h⟩
 | dZ af hb=>
  obtain ⟨l,h⟩:=run_get h
  simp only[af] at h
  obtain ⟨hc,h⟩:=aH h
  exact ⟨[],.inl ⟨⟨_,rfl⟩,rfl⟩,l,h⟩
 | @whole e' id es fz b cap af hb a8 cj hm=>
  obtain ⟨l,h⟩:=run_get h
  simp only[af] at h
  obtain ⟨hc,h2⟩:=aH h
  clear h
  simp only[Bool.and_eq_true,Nat.beq_eq] at hc
  obtain ⟨rfl,_⟩:=hc
  have hr:=cN _ _ af
  cases hr with
  | eb ax=>rw[ax] at hb;cases hb
  | arr Ja ax hh hs hf eE hx=>
   rw[hb] at ax;cases ax
   have:=QU (cap:=cap) (off:=0) (len:=es.length) (o:=0) hh hs hx (by omega) (fun _=>by simp)
   exact ⟨es,.inr ⟨_,_,_,by simpa using this⟩,l,h2⟩
 | gh af hb=>
  obtain ⟨l,h⟩:=run_get h
  simp only[af] at h
  obtain ⟨hc,h⟩:=aH h
  exact ⟨[],.inl ⟨⟨_,rfl⟩,rfl⟩,l,by simpa using h⟩
 | @sub e' id off len es fz b o cap af hb jn cj ho=>
  obtain ⟨l,h⟩:=run_get h
  simp only[af] at h
  obtain ⟨hc,h2⟩:=aH h
  clear h
  simp only[Bool.and_eq_true,Nat.beq_eq] at hc
  obtain ⟨rfl,_⟩:=hc
  have hr:=cN _ _ af
  cases hr with
  | eb ax=>rw[ax] at hb;cases hb
  | arr Ja ax hh hs hf eE hx=>
   rw[hb] at ax;cases ax
   exact ⟨_,.inr ⟨_,_,_,QU (cap:=cap) hh hs hx jn ho⟩,l,h2⟩
 | eD af=>
  obtain ⟨l,h⟩:=run_get h
  simp only[af] at h
  cases h
 | gr af=>
  obtain ⟨l,h⟩:=run_get h
  simp only[af] at h
  cases h
 | undef=>cases h
 | int=>cases h
 | bool=>cases h
 | str=>cases h
 | agg=>cases h
 | bj=>cases h
 | dN=>cases h
 | fn=>cases h
 | pref=>cases h
 | ka=>cases h
 | ptr=>cases h
 | jA=>cases h
 | jB=>cases h
 | row=>cases h
 | cL=>cases h
 | dO=>cases h
 | ig=>cases h
 | bX=>cases h
 | eL af=>
  obtain ⟨l,h⟩:=run_get h
  simp only[af] at h
  cases h
theorem QV {t ty e:TypeId} {i:TypeInfo} (ht:P.underlying t=some (.slice e)) (hi:P.info? e=some i) (a:Option Addr) (n cap:Nat) (x:Value) (hx: ∃a c,x= .slice a 0 c) (hn:n≤cap):
  (Builtin.append_ #[t,t] ty #[.slice a n cap,x]).run P w= .ok (.slice a n cap) w:=by
 obtain ⟨a',c,rfl⟩:=hx
 cases a' with
 | none=>cases a<;>simp[Builtin.append_,run_underlying ht,sizeOf,typeInfo,hi,Builtin.lenOf,Builtin.firstCells,hn,storeCells]
 | some a'=>cases a<;>simp[Builtin.append_,run_underlying ht,sizeOf,typeInfo,hi,Builtin.lenOf,Builtin.firstCells,hn,storeCells,loadCells,loadCellsFrom]
theorem E5 {e:TypeId} {es xs:List V} {n:Nat} {c:List Value} {news:List Value} (hn:es.length=n)
  (h1: ∀(i j:Nat) (x:V) (t':TypeId),es[i]? =some x→(aY P e)[j]? =some t'→j<P.cellsOf e→∃v,c[i*P.cellsOf e+j]? =some v∧Pure P w I t' v (bN P e x j))
  (h2: ∀(i j:Nat) (x:V) (t':TypeId),xs[i]? =some x→(aY P e)[j]? =some t'→j<P.cellsOf e→∃v,news[i*P.cellsOf e+j]? =some v∧Pure P w I t' v (bN P e x j))
  (hb:n*P.cellsOf e≤c.length) (rest:List Value):
  ∀(i j:Nat) (x:V) (t':TypeId),(es++xs)[i]? =some x→(aY P e)[j]? =some t'→j<P.cellsOf e→∃v,(c.take (n*P.cellsOf e)++news++rest)[i*P.cellsOf e+j]? =some v∧Pure P w I t' v (bN P e x j):=by
 intro i j x t' hx ht hj
 have hl:(c.take (n*P.cellsOf e)).length=n*P.cellsOf e:=by simp;omega
 by_cases hi:i<n
 ·rw[List.getElem?_append_left (by omega)] at hx
  obtain ⟨v,hv,hp⟩:=h1 i j x t' hx ht hj
  have:i*P.cellsOf e+j<n*P.cellsOf e:=by
   have:(i+1)*P.cellsOf e≤n*P.cellsOf e:=Nat.mul_le_mul_right _ hi
   rw[Nat.add_mul] at this
   omega
  exact ⟨v,by rw[List.append_assoc,List.getElem?_append_left (by omega),List.getElem?_take_of_lt this];exact hv,hp⟩
 ·rw[List.getElem?_append_right (by omega),hn] at hx
  obtain ⟨v,hv,hp⟩:=h2 (i-n) j x t' hx ht hj
  have kJ:i-n<xs.length:=(List.getElem?_eq_some_iff.1 hx).1
  have e1:i*P.cellsOf e+j-n*P.cellsOf e=(i-n)*P.cellsOf e+j:=by
   rw[Nat.sub_mul]
   have:n*P.cellsOf e≤i*P.cellsOf e:=Nat.mul_le_mul_right _ (by omega)
   omega
  have h3:(i-n)*P.cellsOf e+j<news.length:=(List.getElem?_eq_some_iff.1 hv).1
  refine ⟨v,?_,hp⟩
  have h4:n*P.cellsOf e≤i*P.cellsOf e+j:=by
   have:n*P.cellsOf e≤i*P.cellsOf e:=Nat.mul_le_mul_right _ (by omega)
   omega
  rw[List.append_assoc,List.getElem?_append_right (by omega),hl,e1,List.getElem?_append_left h3]
  exact hv
theorem Pure.drew {t:TypeId} {v:Value} {x:V} (h:Pure P w I t v x):Pure P w.drew I t v x:=Pure.mono (w:=w) (w':=w.drew) (fun _ h=>h) (fun _ _=>rfl) h
theorem aa1 (w:World) (t ty e:TypeId) (i:TypeInfo) (z:Value) (ht:P.underlying t=some (.slice e)) (hi:P.info? e=some i) (hz:i.zero=some z)
  (a0:Option Addr) (a:Addr) (n c:Nat) (news:List Value) (hl:news.length=n*i.size) (E6: ∀j v,news[j]? =some v→w.cell? (a.add j)=some v)
  (h0:0<n) (E7:(n:Int)≤9223372036854775807) (E8:n*i.bytes≤281474976710656):
  (Builtin.append_ #[t,t] ty #[.slice a0 0 0,.slice (some a) n c]).run P w=
   .ok (.slice (some ⟨w.heap.size,0,none⟩) n (grownCap w n 0 e)) (w.drew.alloc (.cells (news.toArray++Builtin.zeroCells z.cells (grownCap w n 0 e-n)) e)):=by
 cases a0 with
 | none=>exact run_append_nil w t ty e i z ht hi hz a n c news hl E6 h0 E7 E8
 | some b=>
  have:=run_append_grow (P:=P) w t ty e i z ht hi hz b 0 0 [] (by simp) (by simp) a n c news hl E6 (by omega) (by omega) (by rw[Nat.zero_add,nextslicecap_zero h0];omega)
  simpa using this
theorem Jx (S:aE P w I β hp B M w0) {t ty e:TypeId} {nb:Nat} {x:Value} {xs:List V} (hu:P.underlying t=some (.slice e)) (aw:c9 P e=true) (hn:hp nb=none)
  (eT:xs.length*P.bytesOf e≤cg) {a0:Option Addr} (hx:((∃a,x= .slice a 0 0)∧xs=[])∨∃a c news,Row P w I e x xs a c news):
  ∃v w' au,(Builtin.append_ #[t,t] ty #[.slice a0 0 0,x]).run P w= .ok v w'∧Le P w I β hp w' I au (aK hp nb (some (.arr e xs false)))∧aE P w' I au (aK hp nb (some (.arr e xs false))) B M w0∧
   ai P w' I au (aK hp nb (some (.arr e xs false))) v (.whole e nb):=by
 obtain ⟨i,z,hi,hz,h3,h4,_⟩:=kh aw
 have tW:=vX aw
 have mC:P.bytesOf e=i.bytes:=by simp[Program.bytesOf,hi]
 have hlen:xs.length≤2^45:=by
  have:xs.length*1≤xs.length*P.bytesOf e:=Nat.mul_le_mul_left _ tW
  simp only[cg] at eT
  omega
 have empty:xs=[]→(∃a c,x= .slice a 0 c)→∃v w' au,(Builtin.append_ #[t,t] ty #[.slice a0 0 0,x]).run P w= .ok v w'∧Le P w I β hp w' I au (aK hp nb (some (.arr e xs false)))∧aE P w' I au (aK hp nb (some (.arr e xs false))) B M w0∧
   ai P w' I au (aK hp nb (some (.arr e xs false))) v (.whole e nb):=by
  intro gL Jy
  subst gL
  obtain ⟨a1,a2⟩:=EH S e hn
  exact ⟨_,_,_,QV hu hi a0 0 0 x Jy (Nat.le_refl _),a1,a2,.dZ (dc _ _ _) (dc _ _ _)⟩
 rcases hx with ⟨⟨_,rfl⟩,rfl⟩|⟨a,c,news,hr⟩
 ·exact empty rfl ⟨_,_,rfl⟩
 ·by_cases h0:xs.length=0
  ·have gL:xs=[]:=List.eq_nil_of_length_eq_zero h0
   refine empty gL ⟨some a,c,?_⟩
   rw[hr.val,h0]
  ·have cX:=aa1 (P:=P) w t ty e i z hu hi hz a0 a xs.length c news (by rw[hr.len,h3]) hr.cell (by omega) (by omega) (by rw[←mC];simp only[cg] at eT;omega)
   have pe:=grownCap_ge w xs.length 0 e
   have tX:grownCap w xs.length 0 e≤maxLen:=grownCap_le_maxLen w xs.length 0 e (by simp only[maxLen];omega)
   obtain ⟨n1,n2,n3⟩:=wv S.drew (nb:=nb) (cap:=grownCap w xs.length 0 e) (es:=xs) (C0:=news.toArray++Builtin.zeroCells z.cells (grownCap w xs.length 0 e-xs.length)) aw hn
    (by simp only[Array.size_append,List.size_toArray,size_zeroCells,h4,hr.len,←Nat.add_mul];congr 1;omega) pe tX
    (fun i' j y t' hy ht hj=>by
     obtain ⟨u,gi,hp⟩:=hr.el i' j y t' hy ht hj
     have aX:=(List.getElem?_eq_some_iff.1 gi).1
     refine ⟨u,?_,Pure.drew hp⟩
     rw[Array.getElem?_append_left (by simpa using aX)]
     simpa using gi)
   rw[hr.val]
   exact ⟨_,_,_,cX,(Le.drew w I β hp).trans n1,n2,n3⟩
theorem aa2 (S:aE P w I β hp B M w0) {t ty e:TypeId} {nb:Nat} {s x:Value} {sv xv:V} {r:R} {rd:List Nat} (hu:P.underlying t=some (.slice e)) (hs:ai P w I β hp s sv) (hx:ai P w I β hp x xv)
  (h:(vM P nb e sv xv).run C hp=some (r,rd)):di P ((Builtin.append_ #[t,t] ty #[s,x]).run P w) w I β hp B M w0 r:=by
 unfold vM at h
 obtain ⟨aw,h⟩:=aH h
 obtain ⟨xs,lH,l0,h⟩:=E4 S.h.rel aw hx h
 cases sv with
 | nilS e'=>
  obtain ⟨hc,h⟩:=aH h
  simp only[Bool.and_eq_true,Nat.beq_eq,Nat.ble_eq] at hc
  obtain ⟨hn,rfl⟩:=nA h
  obtain ⟨a0,rfl⟩: ∃a0,s= .slice a0 0 0:=by cases hs;exact ⟨_,rfl⟩
  obtain ⟨v,w',au,a1,a2,a3,a4⟩:=Jx (ty:=ty) S hu aw hn hc.2 lH
  exact ⟨v,w',I,au,a1,a2,a3,a4⟩
 | whole e' id=>
  obtain ⟨l,h⟩:=run_get h
  cases af:hp id with
  | none=>rw[af] at h;cases h
  | some blk=>
   rw[af] at h
   cases blk with
   | dead=>cases h
   | var _=>cases h
   | nest _ _ _=>cases h
   | map _ _=>cases h
   | arr dX es fz=>
    cases fz with
    | true=>cases h
    | false=>
     obtain ⟨hc,h⟩:=aH h
     obtain ⟨hn,rfl⟩:=nA h
     simp only[Bool.and_eq_true,Nat.beq_eq,Nat.ble_eq] at hc
     obtain ⟨Jz,JA,eT⟩:=hc
     subst Jz
     subst JA
     have bP:nb≠id:=fun e=>by rw[e,af] at hn;cases hn
     obtain ⟨k1,k2⟩:=EI S af
     have ki:aK hp id (some ah.dead) nb=none:=by rw[eF _ _ bP];exact hn
     cases hs with
     | eD hd=>rw[af] at hd;cases hd
     | eL hd=>rw[af] at hd;cases hd
     | dZ hd hb=>
      rw[af] at hd
      cases hd
      simp only[List.length_nil,Nat.zero_add] at eT
      have aa3:((∃a,x= .slice a 0 0)∧xs=[])∨∃a c news,Row P w I e x xs a c news:=lH
      obtain ⟨v,w',au,a1,a2,a3,a4⟩:=Jx (ty:=ty) k2 hu aw ki eT aa3
      exact ⟨v,w',I,au,a1,k1.trans a2,a3,a4⟩
     | @whole _ _ aQ np b cap hd hb a8 cj hm=>
      rw[af] at hd
      cases hd
      have hr:=S.h.rel id _ af
      cases hr with
      | eb ax=>rw[ax] at hb;cases hb
      | @arr _ _ _ b' Ca _ ax hh pg hf eE mD=>
       rw[hb] at ax
       cases ax
       obtain ⟨i,z,hi,hz,h3,h4,_⟩:=kh aw
       have tW:=vX aw
       have mC:P.bytesOf e=i.bytes:=by simp[Program.bytesOf,hi]
       have hlen:es.length+xs.length≤2^45:=by
        have:(es.length+xs.length)*1≤(es.length+xs.length)*P.bytesOf e:=Nat.mul_le_mul_left _ tW
        simp only[cg] at eT
        omega
       rw[nt hh] at a8
       have ql: ∀aA blk',aK hp id (some ah.dead) aA=some blk'→¬bw P w (β aA) blk' b:=by
        intro aA blk' h1 h2
        by_cases iM:aA=id
        ·subst iM;rw[dc] at h1;cases h1;exact h2.alive rfl
        ·rw[eF _ _ iM] at h1
         exact iM (S.h.inj aA id blk' _ b h1 af h2 (.root (by simp) hb))
       have JB:=S.h.sw id _ b af (by simp) hb
       have room: ∀(C':Array Value) (w':World) (ys:List V),w'.heap[b]? =some (.cells C' e (0,0))→C'.size=Ca.size→(∀b',b'≠b→w'.heap[b']? =w.heap[b']?)→w.heap.size≤w'.heap.size→(w'.os=w.os∧w'.output=w.output)→ys.length≤cap→
         (∀(i j:Nat) (y:V) (t':TypeId),ys[i]? =some y→(aY P e)[j]? =some t'→j<P.cellsOf e→∃v,C'[i*P.cellsOf e+j]? =some v∧Pure P w I t' v (bN P e y j))→
         Le P w I β hp w' I (aK β nb (some b)) (aK (aK hp id (some .dead)) nb (some (.arr e ys false)))∧aE P w' I (aK β nb (some b)) (aK (aK hp id (some .dead)) nb (some (.arr e ys false))) B M w0∧
         ai P w' I (aK β nb (some b)) (aK (aK hp id (some .dead)) nb (some (.arr e ys false))) (.slice (some ⟨b,0,none⟩) ys.length cap) (.whole e nb):=by
        intro C' w' ys hC om mE hwz aa4 tQ hy
        obtain ⟨a1,a2⟩:=zC k2 (blk:= .arr e ys false) (w':=w') ki ql (eE rfl) (fun b' h _=>mE b' h) hwz aa4 JB
         (fun b' h=>(Option.some.inj (h.flat (by simp))).symm) (fun hle=> .arr aw rfl hC (by rw[om,←a8];exact Nat.mul_le_mul_right _ tQ) (fun h=>by cases h) (fun _=>eE rfl) fun i j y t' a b c=>by
          obtain ⟨v,hv,hp⟩:=hy i j y t' a b c
          exact ⟨v,hv,hp.mono hle.dE hle.cp⟩)
        refine ⟨k1.trans a1,a2,.whole (dc _ _ _) (dc _ _ _) ?_ tQ hm⟩
        rw[nt hC,om,a8]
       have same:xs=[]→(∃a c,x= .slice a 0 c)→di P ((Builtin.append_ #[t,t] ty #[.slice (some ⟨b,0,none⟩) es.length cap,x]).run P w) w I β hp B M w0 ⟨.whole e nb,[(nb,.arr e (es++xs) false),(id,.dead)]⟩:=by
        intro gL Jy
        subst gL
        rw[List.append_nil]
        obtain ⟨a1,a2,a3⟩:=room Ca w es hh rfl (fun _ _=>rfl) (Nat.le_refl _) ⟨rfl,rfl⟩ cj mD
        exact ⟨_,_,_,_,QV hu hi _ _ _ x Jy cj,a1,a2,a3⟩
       rcases lH with ⟨⟨_,rfl⟩,rfl⟩|⟨a,c,news,cA⟩
       ·exact same rfl ⟨_,_,rfl⟩
       ·have h1:=cA.one aw
        have lF:es.length*P.cellsOf e≤Ca.toList.length:=by simpa using pg
        by_cases sG:es.length+xs.length≤cap
        ·have zS:es.length*P.cellsOf e+news.length≤Ca.size:=by rw[cA.len,←Nat.add_mul,←a8];exact Nat.mul_le_mul_right _ sG
         have cX:=run_append_room (P:=P) w t ty e i hu hi b es.length cap Ca hh a xs.length c news (by rw[cA.len,h3]) cA.cell h1 sG (by rw[h3];exact zS)
         rw[h3] at cX
         have da:=E5 (P:=P) (w:=w) (I:=I) (n:=es.length) (c:=Ca.toList) rfl (fun i j y t' a b c=>by
          obtain ⟨v,hv,hp⟩:=mD i j y t' a b c
          exact ⟨v,by simpa using hv,hp⟩) cA.el lF (Ca.toList.drop (es.length*P.cellsOf e+news.length))
         obtain ⟨a1,a2,a3⟩:=room (Ca.toList.take (es.length*P.cellsOf e)++news++Ca.toList.drop (es.length*P.cellsOf e+news.length)).toArray (w.setRow b _) (es++xs)
          (setRow_heap w b Ca _ e _ hh) (by simp;omega) (fun b' ax=>setRow_other w b b' _ ax) (by simp) ⟨rfl,rfl⟩ (by simpa using sG)
          (fun i j y t' a b c=>by
           obtain ⟨v,hv,hp⟩:=da i j y t' a b c
           exact ⟨v,by simpa using hv,hp⟩)
         rw[cA.val]
         rw[List.length_append] at a3
         exact ⟨_,_,_,_,cX,a1,a2,a3⟩
        ·have hold: ∀(j:Nat) v,(Ca.toList.take (es.length*P.cellsOf e))[j]? =some v→w.cell? ((⟨b,0,none⟩:Addr).add j)=some v:=by
          intro j v hj
          have dd:=(List.getElem?_eq_some_iff.1 hj).1
          have b8:j<es.length*P.cellsOf e:=by rw[List.length_take] at dd;omega
          rw[List.getElem?_take_of_lt b8] at hj
          rw[nw,cell?_cells hh,Nat.zero_add]
          simpa using hj
         have cX:=run_append_grow (P:=P) w t ty e i z hu hi hz ⟨b,0,none⟩ es.length cap (Ca.toList.take (es.length*P.cellsOf e)) (by rw[h3];simp;omega) hold a xs.length c news (by rw[cA.len,h3]) cA.cell (by omega) (by omega)
          (growslice_fits (by omega) (by rw[←mC];simp only[cg] at eT;omega))
         have pe:=grownCap_ge w (es.length+xs.length) cap e
         have tX:grownCap w (es.length+xs.length) cap e≤maxLen:=grownCap_le_maxLen w _ cap e (by simp only[maxLen];omega)
         have da:=E5 (P:=P) (w:=w) (I:=I) (n:=es.length) (c:=Ca.toList) rfl (fun i j y t' a b c=>by
          obtain ⟨v,hv,hp⟩:=mD i j y t' a b c
          exact ⟨v,by simpa using hv,hp⟩) cA.el lF (Builtin.zeroCells z.cells (grownCap w (es.length+xs.length) cap e-(es.length+xs.length))).toList
         obtain ⟨n1,n2,n3⟩:=wv k2.drew (nb:=nb) (cap:=grownCap w (es.length+xs.length) cap e) (es:=es++xs)
          (C0:=(Ca.toList.take (es.length*P.cellsOf e)).toArray++news.toArray++Builtin.zeroCells z.cells (grownCap w (es.length+xs.length) cap e-(es.length+xs.length))) aw ki
          (by
           have e1:(Ca.toList.take (es.length*P.cellsOf e)).length=es.length*P.cellsOf e:=by simp;omega
           simp only[Array.size_append,List.size_toArray,size_zeroCells,h4,cA.len,e1,←Nat.add_mul];congr 1;omega) (by simpa using pe) tX
          (fun i j y t' a b c=>by
           obtain ⟨v,hv,hp⟩:=da i j y t' a b c
           refine ⟨v,?_,Pure.drew hp⟩
           rw[←Array.getElem?_toList]
           simpa using hv)
         rw[cA.val]
         rw[List.length_append] at n3
         exact ⟨_,_,_,_,cX,(k1.trans (Le.drew w I β _)).trans n1,n2,n3⟩
 | _=>cases h
end
section
variable {P:Program} {w w':World} {I I':Nat→Prop} {β au:Nat→Option Nat} {hp hp':Nat→Option ah} {C:ae} {B:Nat} {M:Nat→Prop} {w0:Start}
theorem run_copy_none (w:World) {dT sT ty elem:TypeId} {i:TypeInfo} (a0:Option Addr) (QW aa5:Nat) (a1:Option Addr) (QX aa6:Nat) (hu:P.underlying dT=some (.slice elem)) (hi:P.info? elem=some i) (h0:Nat.min QX QW=0):
  (Builtin.copy_ #[dT,sT] ty #[.slice a0 QW aa5,.slice a1 QX aa6]).run P w= .ok (goInt 0) w:=by
 cases a0<;>cases a1<;>simp[Builtin.copy_,run_underlying hu,Builtin.lenOf,Builtin.firstCells,sizeOf,typeInfo,hi,h0,storeCells,loadCells,loadCellsFrom]
theorem aa7 (S:aE P w I β hp B M w0) {t u ty e:TypeId} {s x:Value} {sv xv:V} {r:R} {rd:List Nat} (hu:P.underlying t=some (.slice e)) (hs:ai P w I β hp s sv) (hx:ai P w I β hp x xv)
  (h:(IE P e sv xv).run C hp=some (r,rd)):di P ((Builtin.copy_ #[t,u] ty #[s,x]).run P w) w I β hp B M w0 r:=by
 unfold IE at h
 obtain ⟨aw,h'⟩:=aH h
 clear h
 simp only[Bool.and_eq_true,Nat.beq_eq] at aw
 obtain ⟨aw,h1⟩:=aw
 obtain ⟨xs,lH,l0,h⟩:=E4 S.h.rel aw hx h'
 obtain ⟨i,z,hi,hz,a8,_⟩:=kh aw
 cases sv<;>simp only at h<;>first|(cases h;done)|skip
 rename_i e' id
 obtain ⟨l,h2⟩:=run_get h
 clear h
 cases af:hp id with
 | none=>rw[af] at h2;cases h2
 | some blk=>
  rw[af] at h2
  cases blk<;>simp only at h2<;>first|(cases h2;done)|skip
  rename_i e2 es fz
  cases fz with
  | true=>cases h2
  | false=>
  obtain ⟨hc,h3⟩:=aH h2
  simp only[Bool.and_eq_true,Nat.beq_eq] at hc
  obtain ⟨rfl,rfl⟩:=hc
  obtain rfl:=aS h3
  have ph:min xs.length es.length=0→(Builtin.copy_ #[t,u] ty #[s,x]).run P w= .ok (goInt 0) w→di P ((Builtin.copy_ #[t,u] ty #[s,x]).run P w) w I β hp B M w0 ⟨.int .i64 (min xs.length es.length:Nat),[(id,.arr e (xs.take es.length++es.drop xs.length) false)]⟩:=by
   intro h0 hr
   have he:xs.take es.length++es.drop xs.length=es:=by
    rcases Nat.le_total xs.length es.length with hl|hl
    ·have:xs=[]:=List.eq_nil_of_length_eq_zero (by omega)
     simp[this]
    ·have:es=[]:=List.eq_nil_of_length_eq_zero (by omega)
     simp[this]
   have gv:bO hp [(id,.arr e (xs.take es.length++es.drop xs.length) false)]=hp:=by
    rw[he];exact IQ hp id _ af
   refine ⟨goInt 0,w,I,β,hr,?_⟩
   simp only[gv,h0]
   exact ⟨Le.refl w I β hp,S,.int⟩
  cases hs with
  | eD hd=>rw[af] at hd;cases hd
  | eL hd=>rw[af] at hd;cases hd
  | @dZ _ _ fz a hd hb=>
   rw[af] at hd
   cases hd
   refine ph (by simp) ?_
   rcases lH with ⟨⟨a',rfl⟩,rfl⟩|⟨a',c,news,cA⟩
   ·exact run_copy_none w _ _ _ _ _ _ hu hi (by simp)
   ·rw[cA.val];exact run_copy_none w _ _ _ _ _ _ hu hi (by simp)
  | @whole _ _ aQ np b cap hd hb zT cj hm=>
   have e6:=hd
   rw[af] at hd
   cases hd
   rcases lH with ⟨⟨a',rfl⟩,rfl⟩|⟨a',c,news,cA⟩
   ·exact ph (by simp) (run_copy_none w _ _ _ _ _ _ hu hi (by simp))
   have hr:=S.h.rel id _ af
   cases hr with
   | eb ax=>rw[ax] at hb;cases hb
   | @arr _ _ _ b' Ca _ ax hh pg hf eE mD=>
    rw[hb] at ax
    cases ax
    have mA:news.length=xs.length:=by rw[cA.len,h1,Nat.mul_one]
    rw[h1,Nat.mul_one] at pg
    have lI:(news.take es.length).length=Nat.min xs.length es.length:=by
     rw[List.length_take,mA,Nat.min_comm]
    have QY:Nat.min xs.length es.length=min xs.length es.length:=rfl
    have cX:=run_copy_row (P:=P) w t u ty e b 0 es.length cap a' xs.length c Ca e (news.take es.length) hu (by rw[hi];simp[a8,h1]) hh lI
     (fun j v hj=>cA.cell j v (by
      have:=(List.getElem?_eq_some_iff.1 hj).1
      rw[List.length_take] at this
      rwa [List.getElem?_take_of_lt (by omega)] at hj)) (by rw[lI,QY];omega) (fun v hv=>cA.one aw v (List.mem_of_mem_take hv))
    rw[cA.val]
    have hq:(goInt (news.take es.length).length)= .int .i64 ((min xs.length es.length:Nat):Int):=by rw[lI];rfl
    have jq:(xs.take es.length++es.drop xs.length).length=es.length:=by simp;omega
    have om:(Ca.toList.take 0++news.take es.length++Ca.toList.drop (0+(news.take es.length).length)).toArray.size=Ca.size:=by
     simp only[List.size_toArray,List.length_append,List.length_drop,List.length_take,lI,QY]
     simp
     omega
    obtain ⟨a1,a2⟩:=ET S (blk':= .arr e (xs.take es.length++es.drop xs.length) false) (Cb:=(Ca.toList.take 0++news.take es.length++Ca.toList.drop (0+(news.take es.length).length)).toArray) af (by simp) ⟨rfl,jq.symm⟩ hb (eE rfl) (by simp) hh om
     (fun hle fe=> .arr aw rfl fe (by rw[om,jq,h1,Nat.mul_one];exact pg) (fun h=>by cases h) (fun _=>eE rfl) fun i j y t' hy ht hj=>by
      rw[h1] at hj⊢
      obtain rfl:j=0:=by omega
      rw[Nat.mul_one,Nat.add_zero]
      have qx:=(List.getElem?_eq_some_iff.1 hy).1
      rw[jq] at qx
      by_cases zU:i<xs.length
      ·rw[List.getElem?_append_left (by rw[List.length_take];omega),List.getElem?_take_of_lt qx] at hy
       obtain ⟨u',k1,k2⟩:=cA.el i 0 y t' hy ht (by omega)
       rw[h1,Nat.mul_one,Nat.add_zero] at k1
       refine ⟨u',?_,k2.mono hle.dE hle.cp⟩
       simp only[List.take_zero,List.nil_append,List.getElem?_toArray]
       rw[List.getElem?_append_left (by rw[List.length_take];omega),List.getElem?_take_of_lt qx]
       exact k1
      ·have e1:(xs.take es.length).length=xs.length:=by rw[List.length_take];omega
       rw[List.getElem?_append_right (by omega),e1,List.getElem?_drop,show xs.length+(i-xs.length)=i by omega] at hy
       obtain ⟨u',k1,k2⟩:=mD i 0 y t' hy ht (by omega)
       rw[h1,Nat.mul_one,Nat.add_zero] at k1
       refine ⟨u',?_,k2.mono hle.dE hle.cp⟩
       simp only[List.take_zero,List.nil_append,List.getElem?_toArray,Nat.zero_add]
       have e2:(news.take es.length).length=xs.length:=by rw[List.length_take];omega
       rw[List.getElem?_append_right (by omega),e2,List.getElem?_drop,show xs.length+(i-xs.length)=i by omega]
       simpa using k1)
    exact ⟨_,_,_,_,cX,a1,a2,by rw[hq];exact .int⟩
theorem aa8 (S:aE P w I β hp B M w0) {t ty e:TypeId} {x:Value} {xv:V} {r:R} {rd:List Nat} (hu:P.underlying t=some (.slice e)) (hx:ai P w I β hp x xv)
  (h:(ID P e xv).run C hp=some (r,rd)):di P ((Builtin.clear_ #[t] ty #[x]).run P w) w I β hp B M w0 r:=by
 unfold ID at h
 obtain ⟨da,h'⟩:=aH h
 clear h
 have aw:c9 P e=true:=by
  unfold mi at da;simp only[Bool.and_eq_true] at da;exact da.1
 obtain ⟨i,z,hi,hz,a8,zV,hzp⟩:=zR (w:=w) (I:=I) da
 have iI:=(kf aw).2
 cases xv<;>simp only at h'<;>first|(cases h';done)|skip
 rename_i e' id off len
 obtain ⟨l,h2⟩:=run_get h'
 clear h'
 cases af:hp id with
 | none=>rw[af] at h2;cases h2
 | some blk=>
  rw[af] at h2
  cases blk<;>simp only at h2<;>first|(cases h2;done)|skip
  rename_i e2 es fz
  cases fz with
  | true=>cases h2
  | false=>
  obtain ⟨hc,h3⟩:=aH h2
  simp only[Bool.and_eq_true,Nat.beq_eq] at hc
  obtain ⟨rfl,rfl⟩:=hc
  obtain rfl:=aS h3
  have ph:len=0→(Builtin.clear_ #[t] ty #[x]).run P w= .ok (.tuple #[]) w→di P ((Builtin.clear_ #[t] ty #[x]).run P w) w I β hp B M w0 ⟨.bj [],[(id,.arr e (es.take off++(List.replicate len (cG P e (eY P e))++es.drop (off+len))) false)]⟩:=by
   intro h0 hr
   subst h0
   have gv:bO hp [(id,.arr e (es.take off++(List.replicate 0 (cG P e (eY P e))++es.drop (off+0))) false)]=hp:=by
    simp only[List.replicate_zero,List.nil_append,Nat.add_zero,List.take_append_drop]
    exact IQ hp id _ af
   refine ⟨.tuple #[],w,I,β,hr,?_⟩
   simp only[gv]
   exact ⟨Le.refl w I β hp,S,.bj rfl fun j v x hj hx=>by simp at hx⟩
  cases hx with
  | gr hd=>rw[af] at hd;cases hd
  | @gh _ _ _ a0 hd hb=>exact ph rfl (by cases a0<;>simp[Builtin.clear_,run_underlying hu])
  | @sub _ _ _ _ aQ np b o cap hd hb jn cj ho=>
   by_cases hlen:len=0
   ·refine ph hlen ?_
    subst hlen
    simp[Builtin.clear_,run_underlying hu]
   have aa9:0<len:=by omega
   have e6:=hd
   rw[af] at hd
   cases hd
   have hr:=S.h.rel id _ af
   cases hr with
   | eb ax=>rw[ax] at hb;cases hb
   | @arr _ _ _ b' Ca _ ax hh pg hf eE mD=>
    rw[hb] at ax
    cases ax
    have ho:=ho aa9
    subst ho
    have tT:(Builtin.zeroCells z.cells len).toList.length=len*P.cellsOf e:=by rw[Array.length_toList,size_zeroCells,zV]
    have hmul:off*P.cellsOf e+len*P.cellsOf e≤es.length*P.cellsOf e:=by rw[←Nat.add_mul];exact Nat.mul_le_mul_right _ jn
    have qu: ∀v∈(Builtin.zeroCells z.cells len).toList,v.oneCell'=true:=by
     intro v hv
     obtain ⟨k,hk⟩:=List.getElem?_of_mem hv
     have lG:=(List.getElem?_eq_some_iff.1 hk).1
     rw[tT] at lG
     have hzg:(Builtin.zeroCells z.cells len)[k]? =z.cells[k %z.cells.size]? :=QS (z:=z.cells) (n:=len*z.cells.size) (by rw[zV];exact lG) (by rw[zV];exact iI)
     rw[Array.getElem?_toList,hzg] at hk
     have hm:k %z.cells.size<P.cellsOf e:=by rw[zV];exact Nat.mod_lt _ iI
     have htl:k %z.cells.size<(aY P e).length:=by rw[fM aw];exact hm
     obtain ⟨v',wa,hp'⟩:=hzp (k %z.cells.size) _ (List.getElem?_eq_getElem htl) hm
     rw[hk] at wa
     cases wa
     generalize bN P e (cG P e (eY P e)) (k %z.cells.size)=y at hp'
     cases hp'<;>rfl
    have cK:=run_storeCells_at P b (off*P.cellsOf e) e (Builtin.zeroCells z.cells len).toList 0 Ca w hh (by rw[tT];omega) qu
    simp only[Nat.add_zero] at cK
    have cX:(Builtin.clear_ #[t] ty #[.slice (some ⟨b,off*P.cellsOf e,none⟩) len cap]).run P w= .ok (.tuple #[]) (w.setRow b (Ca.toList.take (off*P.cellsOf e)++(Builtin.zeroCells z.cells len).toList++Ca.toList.drop (off*P.cellsOf e+(Builtin.zeroCells z.cells len).toList.length)).toArray):=by
     obtain ⟨n,rfl⟩: ∃n,len=n+1:=⟨len-1,by omega⟩
     simp[Builtin.clear_,run_underlying hu,zeroValue,typeInfo,hi,hz,cK]
    have jq:(es.take off++(List.replicate len (cG P e (eY P e))++es.drop (off+len))).length=es.length:=by simp;omega
    have om:(Ca.toList.take (off*P.cellsOf e)++(Builtin.zeroCells z.cells len).toList++Ca.toList.drop (off*P.cellsOf e+(Builtin.zeroCells z.cells len).toList.length)).toArray.size=Ca.size:=by
     simp only[List.size_toArray,List.length_append,List.length_drop,List.length_take,tT,Array.length_toList]
     omega
    obtain ⟨a1,a2⟩:=ET S (blk':= .arr e (es.take off++(List.replicate len (cG P e (eY P e))++es.drop (off+len))) false) af (by simp) ⟨rfl,jq.symm⟩ hb (eE rfl) (by simp) hh om
     (fun hle fe=> .arr aw rfl fe (by rw[om,jq];exact pg) (fun h=>by cases h) (fun _=>eE rfl) fun i' j y t' hy ht hj=>by
      have iN:=ny es (List.replicate len (cG P e (eY P e))) off i' (by simp;omega)
      rw[List.length_replicate] at iN
      rw[iN] at hy
      have hC:(Ca.toList.take (off*P.cellsOf e)++(Builtin.zeroCells z.cells len).toList++Ca.toList.drop (off*P.cellsOf e+(Builtin.zeroCells z.cells len).toList.length)).toArray[i'*P.cellsOf e+j]? =
        if i'*P.cellsOf e+j<off*P.cellsOf e then Ca.toList[i'*P.cellsOf e+j]? else if i'*P.cellsOf e+j<off*P.cellsOf e+len*P.cellsOf e then (Builtin.zeroCells z.cells len).toList[i'*P.cellsOf e+j-off*P.cellsOf e]? else Ca.toList[i'*P.cellsOf e+j]? :=by
       have:=ny Ca.toList (Builtin.zeroCells z.cells len).toList (off*P.cellsOf e) (i'*P.cellsOf e+j) (by rw[tT,Array.length_toList];omega)
       rw[List.getElem?_toArray,List.append_assoc,this,tT]
      by_cases mF:i'<off
      ·rw[if_pos mF] at hy
       have:(i'+1)*P.cellsOf e≤off*P.cellsOf e:=Nat.mul_le_mul_right _ mF
       rw[Nat.add_mul] at this
       rw[if_pos (by omega)] at hC
       obtain ⟨u,k1,k2⟩:=mD i' j y t' hy ht hj
       exact ⟨u,hC.trans (by simpa using k1),k2.mono hle.dE hle.cp⟩
      ·rw[if_neg mF] at hy
       have h1:off*P.cellsOf e≤i'*P.cellsOf e:=Nat.mul_le_mul_right _ (by omega)
       rw[if_neg (by omega)] at hC
       by_cases kJ:i'<off+len
       ·rw[if_pos kJ] at hy
        have:(i'+1)*P.cellsOf e≤(off+len)*P.cellsOf e:=Nat.mul_le_mul_right _ kJ
        rw[Nat.add_mul,Nat.add_mul] at this
        rw[if_pos (by omega)] at hC
        obtain ⟨v,k1,k2⟩:=E3 (w:=w) (I:=I) da hi hz len len (Nat.le_refl _) (i'-off) j y t' hy ht hj
        refine ⟨v,hC.trans ?_,k2.mono hle.dE hle.cp⟩
        rw[show i'*P.cellsOf e+j-off*P.cellsOf e=(i'-off)*P.cellsOf e+j by rw[Nat.sub_mul];omega,Array.getElem?_toList]
        unfold Builtin.zeroCells
        rw[zV] at k1⊢
        exact k1
       ·rw[if_neg kJ] at hy
        have:(off+len)*P.cellsOf e≤i'*P.cellsOf e:=Nat.mul_le_mul_right _ (by omega)
        rw[Nat.add_mul] at this
        rw[if_neg (by omega)] at hC
        obtain ⟨u,k1,k2⟩:=mD i' j y t' hy ht hj
        exact ⟨u,hC.trans (by simpa using k1),k2.mono hle.dE hle.cp⟩)
    exact ⟨_,_,_,_,cX,a1,a2,.bj rfl fun j v x hj hx=>by simp at hx⟩
end
section
variable {P:Program} {w w':World} {I I':Nat→Prop} {β au:Nat→Option Nat} {hp hp':Nat→Option ah} {C:ae} {B:Nat} {M:Nat→Prop} {w0:Start}
theorem aba (S:aE P w I β hp B M w0) {s:TypeId} {f:Nat} {v:Value} {x:V} {r:R} {rd:List Nat} (hv:ai P w I β hp v x)
  (h:(IH P s f x).run C hp=some (r,rd)):di P ((Instr.field s v f).run P w) w I β hp B M w0 r:=by
 unfold IH Ej at h
 split at h
 ·rename_i fs hu
  cases hf:fs[f]? with
  | none=>rw[hf] at h;cases h
  | some fd=>
   rw[hf] at h
   simp only[vN] at h
   obtain ⟨ht,h⟩:=aH h
   obtain ⟨d,tY⟩:=zI ht
   obtain ⟨i,hi⟩:=v8 tY
   have a8:i.size=P.cellsOf fd.type:=by simp[Program.cellsOf,hi]
   cases x with
   | agg xs=>
    obtain ⟨cs,rfl,h1,h2⟩:=hv.kH
    dsimp only at h
    cases ha:bG P fd.type with
    | true=>
     rw[ha] at h
     simp only[cond_true] at h
     obtain ⟨hc,h⟩:=aH h
     obtain rfl:=aS h
     rw[Nat.ble_eq] at hc
     refine .same S (v:= .agg (cs.extract fd.offset (fd.offset+P.cellsOf fd.type))) ?_ (.agg (by simp;omega) fun j u y gi hy=> ?_)
     ·simp[Instr.field,run_underlying hu,hf,part,I8 tY,ha,asAgg,sizeOf,typeInfo,hi,a8]
     ·have hj:j<P.cellsOf fd.type:=by
       have:=(Array.getElem?_eq_some_iff.1 gi).1
       simp at this;omega
      rw[List.getElem?_take_of_lt hj,List.getElem?_drop] at hy
      refine h2 (fd.offset+j) u y ?_ hy
      rw[Array.getElem?_extract] at gi
      split at gi
      ·exact gi
      ·cases gi
    | false=>
     rw[ha] at h
     simp only[cond_false] at h
     obtain ⟨y,hy,h⟩:=lA h
     obtain rfl:=aS h
     have aX:fd.offset<cs.size:=by rw[h1];exact (List.getElem?_eq_some_iff.1 hy).1
     refine .same S (v:=cs[fd.offset]) ?_ (h2 _ _ _ (Array.getElem?_eq_getElem aX) hy)
     simp[Instr.field,run_underlying hu,hf,part,I8 tY,ha,asAgg,aX]
   | _=>cases h
 ·cases h
theorem abb (S:aE P w I β hp B M w0) {i:Nat} {v:Value} {xs:List V} {r:R} {rd:List Nat} (hv:ai P w I β hp v (.bj xs))
  (h:(Rd.opt xs[i]? fun v=> .ret ⟨v,[]⟩).run C hp=some (r,rd)):di P ((Instr.extract v i).run P w) w I β hp B M w0 r:=by
 obtain ⟨cs,rfl,h1,h2⟩:=hv.tK
 obtain ⟨y,hy,h⟩:=lA h
 obtain rfl:=aS h
 have aX:i<cs.size:=by rw[h1];exact (List.getElem?_eq_some_iff.1 hy).1
 exact .same S (v:=cs[i]) (by simp[Instr.extract,aX]) (h2 _ _ _ (Array.getElem?_eq_getElem aX) hy)
theorem abc (S:aE P w I β hp B M w0) {t:TypeId} {s:ByteArray} {l:List UInt8} {k:IntKind} {i:Int} {r:R} {rd:List Nat} (hu:P.underlying t=some .string) (hs:s.data.toList=l)
  (h:(Rd.opt (bif decide (0≤i) then (l[i.toNat]?).map fun b=>V.int .u8 b.toNat else none) fun v=> .ret ⟨.int .u8 v.toInt,[]⟩).run C hp=some (r,rd)):
  di P ((Instr.index t (.string s) (.int k i)).run P w) w I β hp B M w0 r:=by
 obtain ⟨v,hv,h⟩:=lA h
 obtain rfl:=aS h
 cases hc:decide (0≤i) with
 | false=>rw[hc] at hv;cases hv
 | true=>
  rw[hc] at hv
  simp only[cond_true] at hv
  have h0:0≤i:=by simpa using hc
  cases hb:l[i.toNat]? with
  | none=>rw[hb] at hv;cases hv
  | some b=>
   rw[hb] at hv
   simp only[Option.map_some,Option.some.injEq] at hv
   subst hv
   have hsb:s[i.toNat]? =some b:=by
    subst hs
    obtain ⟨aX,he⟩:=List.getElem?_eq_some_iff.1 hb
    have JC:i.toNat<s.size:=by simpa using aX
    rw[getElem?_pos s i.toNat JC]
    congr 1
   refine .same S (v:= .int .u8 b.toNat) ?_ .int
   simp[Instr.index,asIntOf,run_underlying hu,h0,hsb]
theorem JD (S:aE P w I β hp B M w0) (mx:Bool): ∀{vs:List Value} {xs:List V} {v:Value} {x:V} {r:R} {rd:List Nat},ai P w I β hp v x→vs.length=xs.length→
  (∀(j:Nat) u y,vs[j]? =some u→xs[j]? =some y→ai P w I β hp u y)→(vO mx x xs).run C hp=some (r,rd)→
  di P ((vs.foldlM (if mx then Builtin.max2 else Builtin.min2) v).run P w) w I β hp B M w0 r
 | [],[],v,x,r,rd,hv,_,_,h=>by
  have:r=⟨x,[]⟩:=by
   cases x<;>(simp only[vO] at h;exact (aS h).symm)
  subst this
  exact .same S (by simp) hv
 | [],_::_,v,x,r,rd,hv,hl,_,h=>by simp at hl
 | _::_,[],v,x,r,rd,hv,hl,_,h=>by simp at hl
 | u::vs,y::xs,v,x,r,rd,hv,hl,hx,h=>by
  cases x<;>cases y<;>simp only[vO] at h<;>first|(cases h;done)|skip
  rename_i k a k' b
  obtain ⟨hc,h4⟩:=aH h
  clear h
  obtain rfl:k=k':=by simpa using hc
  have hu:=hx 0 u _ rfl rfl
  rw[hv.eM,hu.eM]
  have ih:=JD S mx (vs:=vs) (xs:=xs) (v:= .int k (bif mx then (if b>a then b else a) else (if b<a then b else a))) .int (by simpa using hl)
   (fun j u y h1 h2=>hx (j+1) u y (by simpa using h1) (by simpa using h2)) h4
  cases mx with
  | true=>simpa[List.foldlM_cons,Builtin.max2] using ih
  | false=>simpa[List.foldlM_cons,Builtin.min2] using ih
theorem qy {n cap:Nat} {isS:Bool} {lo hi:Option V} {lov hiv:Option Value} {k:Nat→Nat→Rd R} {r:R} {rd:List Nat} (hn:n≤cap)
  (iO: ∀x,lo=some x→∃v,lov=some v∧ai P w I β hp v x) (gV: ∀x,hi=some x→∃v,hiv=some v∧ai P w I β hp v x) (nB:lo=none→lov=none) (oo:hi=none→hiv=none)
  (h:(sj n lo hi k).run C hp=some (r,rd)): ∃l u,l≤u∧u≤n∧(Instr.sliceBounds isS n cap lov hiv none).run P w= .ok (l,u,cap) w∧(k l u).run C hp=some (r,rd):=by
 have ok: ∀(kk:IntKind) (i:Int) (y:Nat) (c:BoundsCode),0≤i→i≤y→(Instr.sliceBound (.int kk i) y c).run P w= .ok i.toNat w:=by
  intro kk i y c h1 h2
  simp[Instr.sliceBound,asIntOf,h1,h2]
 unfold sj at h
 cases lo with
 | none=>
  rw[nB rfl]
  cases hi with
  | none=>
   rw[oo rfl]
   exact ⟨0,n,Nat.zero_le _,Nat.le_refl _,by simp[Instr.sliceBounds],h⟩
  | some x=>
   obtain ⟨v,rfl,hv⟩:=gV x rfl
   cases x<;>simp only at h<;>first|(cases h;done)|skip
   rename_i kk u
   obtain ⟨hc,h⟩:=aH h
   simp only[Bool.and_eq_true,decide_eq_true_eq] at hc
   rw[hv.eM]
   have:=ok kk u cap (if isS then .sliceAcap else .sliceAlen) hc.1 (by omega)
   exact ⟨0,u.toNat,Nat.zero_le _,by omega,by simp[Instr.sliceBounds,this],h⟩
 | some x=>
  obtain ⟨v,rfl,hv⟩:=iO x rfl
  cases hi with
  | none=>
   rw[oo rfl]
   cases x<;>simp only at h<;>first|(cases h;done)|skip
   rename_i kk l
   obtain ⟨hc,h⟩:=aH h
   simp only[Bool.and_eq_true,decide_eq_true_eq] at hc
   rw[hv.eM]
   have:=ok kk l n .sliceB hc.1 (by omega)
   exact ⟨l.toNat,n,by omega,Nat.le_refl _,by simp[Instr.sliceBounds,this],h⟩
  | some y=>
   obtain ⟨v2,rfl,qg⟩:=gV y rfl
   cases x<;>cases y<;>simp only at h<;>first|(cases h;done)|skip
   rename_i kk l kk2 u
   obtain ⟨hc,h⟩:=aH h
   simp only[Bool.and_eq_true,decide_eq_true_eq] at hc
   rw[hv.eM,qg.eM]
   have h1:=ok kk2 u cap (if isS then .sliceAcap else .sliceAlen) (by omega) (by omega)
   have h2:=ok kk l u.toNat .sliceB hc.1 (by omega)
   exact ⟨l.toNat,u.toNat,by omega,by omega,by simp[Instr.sliceBounds,h1,h2],h⟩
theorem E9 {a:Option Addr} {t e:TypeId} {i:TypeInfo} (hu:P.underlying t=some (.slice e)) (hi:P.info? e=some i) {lov hiv:Option Value}
  (hb:(Instr.sliceBounds true 0 0 lov hiv none).run P w= .ok (0,0,0) w):(Instr.sliceAt t (.slice a 0 0) lov hiv none).run P w= .ok (.slice a 0 0) w:=by
 cases a<;>simp[Instr.sliceAt,Instr.slice,run_underlying hu,hb,sizeOf,typeInfo,hi]
theorem JE {t e:TypeId} {i:TypeInfo} {b o len cap l u:Nat} (hu:P.underlying t=some (.slice e)) (hi:P.info? e=some i) {lov hiv:Option Value} (huc:u≤cap)
  (hb:(Instr.sliceBounds true len cap lov hiv none).run P w= .ok (l,u,cap) w): ∃o',(0<u-l→o'=o+l*i.size)∧(Instr.sliceAt t (.slice (some ⟨b,o,none⟩) len cap) lov hiv none).run P w= .ok (.slice (some ⟨b,o',none⟩) (u-l) (cap-l)) w:=by
 by_cases hc:cap=l
 ·subst hc
  refine ⟨o,fun h=>by omega,?_⟩
  ·simp[Instr.sliceAt,Instr.slice,run_underlying hu,hb,sizeOf,typeInfo,hi]
 ·refine ⟨o+l*i.size,fun _=>rfl,?_⟩
  simp[Instr.sliceAt,Instr.slice,run_underlying hu,hb,sizeOf,typeInfo,hi,hc,nw]
theorem abd (s:ByteArray) (l:List UInt8) (h:s.data.toList=l) (a b:Nat):(s.extract a b).data.toList=(l.drop a).take (b-a):=by
 subst h
 simp[ByteArray.data_extract]
theorem abe (S:aE P w I β hp B M w0) {t:TypeId} {v:Value} {x:V} {lo hi:Option V} {lov hiv:Option Value} {r:R} {rd:List Nat} (hv:ai P w I β hp v x)
  (iO: ∀x,lo=some x→∃v,lov=some v∧ai P w I β hp v x) (gV: ∀x,hi=some x→∃v,hiv=some v∧ai P w I β hp v x) (nB:lo=none→lov=none) (oo:hi=none→hiv=none)
  (h:(Ep P t x lo hi).run C hp=some (r,rd)):di P ((Instr.sliceAt t v lov hiv none).run P w) w I β hp B M w0 r:=by
 unfold Ep at h
 cases hu:P.underlying t with
 | none=>rw[hu] at h;cases h
 | some d=>
  rw[hu] at h
  cases d<;>simp only at h<;>first|(cases h;done)|skip
  case string=>
   cases x<;>simp only at h<;>first|(cases h;done)|skip
   rename_i l
   obtain ⟨s,rfl,hs⟩:=hv.my
   have a8:l.length=s.size:=by rw[←hs];simp
   obtain ⟨a,u,h1,h2,h3,h4⟩:=qy (isS:=false) (cap:=s.size) (by omega) iO gV nB oo h
   obtain rfl:=aS h4
   rw[a8] at h3
   refine .same S (v:= .string (s.extract a u)) ?_ (.str (abd s l hs a u))
   simp[Instr.sliceAt,Instr.slice,run_underlying hu,h3]
  case slice e=>
   cases x<;>simp only at h<;>first|(cases h;done)|skip
   case list e' es=>
    obtain ⟨hc,h⟩:=aH h
    simp only[Bool.and_eq_true,Nat.beq_eq] at hc
    obtain ⟨ed,aw⟩:=hc
    obtain ⟨i,z,eo,_,a8,_⟩:=kh aw
    cases hv with
    | list hp'=>
     cases hp' with
     | nil=>
      obtain ⟨a,u,h1,h2,h3,h4⟩:=qy (n:=0) (isS:=true) (cap:=0) (Nat.le_refl _) iO gV nB oo h
      obtain rfl:=aS h4
      obtain rfl:u=0:=by omega
      obtain rfl:a=0:=by omega
      exact .same S (E9 hu eo h3) (by simpa using ai.list iH.nil)
     | @emp ad cap=>
      obtain ⟨a,u,h1,h2,h3,h4⟩:=qy (n:=0) (isS:=true) (cap:=cap) (Nat.zero_le _) iO gV nB oo h
      obtain rfl:=aS h4
      obtain rfl:u=0:=by omega
      obtain rfl:a=0:=by omega
      refine .same S (v:= .slice (some ad) 0 cap) ?_ (by simpa using ai.list iH.emp)
      by_cases hc:cap=0
      ·subst hc
       simp[Instr.sliceAt,Instr.slice,run_underlying hu,h3,sizeOf,typeInfo,eo]
      ·simp[Instr.sliceAt,Instr.slice,run_underlying hu,h3,sizeOf,typeInfo,eo,hc,Addr.add]
     | @list b o len cap _ g hl cj hI gu hx=>
      obtain ⟨a,u,h1,h2,h3,h4⟩:=qy (isS:=true) (cap:=cap) (by omega) iO gV nB oo h
      obtain rfl:=aS h4
      rw[hl] at h2 h3
      obtain ⟨o',mr,cX⟩:=JE (b:=b) (o:=o) hu eo (by omega) h3
      have gM:e=e':=ed
      refine .same S cX (.list ?_)
      rw[←gM]
      rw[←gM] at gu hx hI
      have hlen:((es.drop a).take (u-a)).length=u-a:=by simp;omega
      refine .list (fun i j=>g (a+i) j) hlen (by omega) (fun h=>hI (Nat.lt_of_lt_of_le h (Nat.mul_le_mul_right _ (by omega)))) (fun i j hi hj=> ?_) (fun i j y t' hy ht=> ?_)
      ·have:=gu (a+i) j (by omega) hj
       rw[Nat.add_mul,Nat.add_assoc,←Nat.add_assoc o] at this
       rw[mr (by omega),a8]
       exact this
      ·have hi:i<u-a:=by rw[←hlen];exact (List.getElem?_eq_some_iff.1 hy).1
       rw[List.getElem?_take_of_lt hi,List.getElem?_drop] at hy
       exact hx (a+i) j y t' hy ht
   case whole e' id=>
    obtain ⟨l,h⟩:=run_get h
    cases af:hp id with
    | none=>rw[af] at h;cases h
    | some blk=>
     rw[af] at h
     cases blk<;>simp only at h<;>first|(cases h;done)|skip
     rename_i dX es fz
     obtain ⟨hc,h9⟩:=aH h
     clear h
     simp only[Bool.and_eq_true,Nat.beq_eq] at hc
     obtain ⟨ed,jD,aw⟩:=hc
     obtain ⟨i,z,eo,_,a8,_⟩:=kh aw
     cases hv with
     | eD hd=>rw[af] at hd;cases hd
     | eL hd=>rw[af] at hd;cases hd
     | dZ hd hb=>
      rw[af] at hd
      cases hd
      obtain ⟨a,u,h1,h2,h3,h4⟩:=qy (n:=0) (isS:=true) (cap:=0) (Nat.le_refl _) iO gV nB oo h9
      obtain rfl:=aS h4
      obtain rfl:u=0:=by omega
      obtain rfl:a=0:=by omega
      exact .same S (E9 hu eo h3) (.gh af hb)
     | @whole _ _ aQ np b cap hd hb zT cj hm=>
      have e6:=hd
      rw[af] at hd
      cases hd
      obtain ⟨a,u,h1,h2,h3,h4⟩:=qy (isS:=true) (cap:=cap) cj iO gV nB oo h9
      obtain rfl:=aS h4
      obtain ⟨o',mr,cX⟩:=JE (b:=b) (o:=0) hu eo (by omega) h3
      have gM:e=e':=ed
      exact .same S cX (.sub e6 hb (by omega) (by omega) (fun h=>by rw[mr h,a8,gM,Nat.zero_add]))
   case sub e' id off len=>
    obtain ⟨l,h⟩:=run_get h
    cases af:hp id with
    | none=>rw[af] at h;cases h
    | some blk=>
     rw[af] at h
     cases blk<;>simp only at h<;>first|(cases h;done)|skip
     rename_i dX es fz
     obtain ⟨hc,h⟩:=aH h
     simp only[Bool.and_eq_true,Nat.beq_eq] at hc
     obtain ⟨ed,jD,aw⟩:=hc
     obtain ⟨i,z,eo,_,a8,_⟩:=kh aw
     cases hv with
     | gr hd=>rw[af] at hd;cases hd
     | gh hd hb=>
      have e6:=hd
      obtain ⟨a,u,h1,h2,h3,h4⟩:=qy (isS:=true) (cap:=0) (Nat.le_refl _) iO gV nB oo h
      obtain rfl:=aS h4
      obtain rfl:u=0:=by omega
      obtain rfl:a=0:=by omega
      exact .same S (E9 hu eo h3) (.gh e6 hb)
     | @sub _ _ _ _ aQ np b o cap hd hb jn cj ho=>
      have e6:=hd
      obtain ⟨a,u,h1,h2,h3,h4⟩:=qy (isS:=true) (cap:=cap) cj iO gV nB oo h
      obtain rfl:=aS h4
      obtain ⟨o',mr,cX⟩:=JE (b:=b) (o:=o) hu eo (by omega) h3
      have gM:e=e':=ed
      exact .same S cX (.sub e6 hb (by omega) (by omega) (fun h=>by rw[mr h,a8,ho (by omega),gM,Nat.add_mul]))
theorem abf (S:aE P w I β hp B M w0) {t:TypeId} {v:Value} {x:V} {lo hi mx:Option V} {lov hiv QZ:Option Value} {r:R} {rd:List Nat} (hv:ai P w I β hp v x)
  (iO:lo=none→lov=none) (gV: ∀y,hi=some y→∃u,hiv=some u∧ai P w I β hp u y) (lB: ∀y,mx=some y→∃u,QZ=some u∧ai P w I β hp u y)
  (h:(IF P t x lo hi mx).run C hp=some (r,rd)):di P ((Instr.sliceAt t v lov hiv QZ).run P w) w I β hp B M w0 r:=by
 unfold IF at h
 cases hu:P.underlying t with
 | none=>rw[hu] at h;cases h
 | some d=>
  rw[hu] at h
  cases d<;>(try (cases h;done))
  rename_i e
  cases lo<;>(try (cases h;done))
  cases hi<;>(try (cases h;done))
  rename_i wx
  cases wx<;>(try (cases h;done))
  cases mx<;>(try (cases h;done))
  rename_i mv1
  cases mv1<;>(try (cases h;done))
  obtain ⟨hc,h9⟩:=aH h
  clear h
  have h:=h9
  clear h9
  simp only[Bool.and_eq_true,decide_eq_true_eq] at hc
  obtain ⟨rfl,rfl,aw⟩:=hc
  obtain ⟨i,z,eo,_,_,_⟩:=kh aw
  obtain ⟨u1,rfl,k1⟩:=gV _ rfl
  obtain ⟨u2,rfl,k2⟩:=lB _ rfl
  rw[k1.eM,k2.eM,iO rfl]
  have run: ∀{k k2:IntKind} (a:Option Addr) (len cap:Nat),(Instr.sliceAt t (.slice a len cap) none (some (.int k 0)) (some (.int k2 0))).run P w= .ok (.slice a 0 0) w:=by
   intro k k2 a len cap
   cases a<;>simp[Instr.sliceAt,Instr.slice,Instr.sliceBounds,Instr.sliceBound,asIntOf,run_underlying hu,sizeOf,typeInfo,eo]
  cases x<;>(try (cases h;done))
  ·simp only at h
   obtain rfl:=aS h
   cases hv with
   | list hp'=>cases hp'<;>exact .same S (run _ _ _) .nilS
  ·simp only at h
   obtain rfl:=aS h
   cases hv
   exact .same S (run _ _ _) .nilS
  ·rename_i e' id
   simp only at h
   obtain ⟨l,h⟩:=run_get h
   cases af:hp id with
   | none=>rw[af] at h;cases h
   | some blk=>
    rw[af] at h
    cases blk<;>simp only at h<;>first|(cases h;done)|skip
    all_goals
     obtain rfl:=aS h
     cases hv with
     | eD hd=>rw[af] at hd;cases hd
     | eL hd=>exact .same S (run _ _ _) .nilS
     | dZ hd hb=>exact .same S (run _ _ _) .nilS
     | whole hd=>exact .same S (run _ _ _) .nilS
theorem abg (S:aE P w I β hp B M w0) {t:TypeId} {v ix:Value} {x y:V} {r:R} {rd:List Nat} (hv:ai P w I β hp v x) (hy:ai P w I β hp ix y)
  (h:(II P t x y).run C hp=some (r,rd)):di P ((Instr.indexAt t v ix).run P w) w I β hp B M w0 r:=by
 unfold II at h
 cases hu:P.underlying t with
 | none=>rw[hu] at h;cases h
 | some d=>
  rw[hu] at h
  cases y<;>(try (cases d<;>cases h;done))
  rename_i k i
  rw[hy.eM]
  cases d<;>simp only at h<;>first|(cases h;done)|skip
  case slice e=>
   have run: ∀(b o len cap:Nat) (ie:TypeInfo),P.info? e=some ie→0≤i→i<(len:Int)→(Instr.indexAt t (.slice (some ⟨b,o,none⟩) len cap) (.int k i)).run P w= .ok (.pointer (some ⟨b,o+i.toNat*ie.size,none⟩)) w:=by
    intro b o len cap ie jH h0 h1
    simp[Instr.indexAt,asIntOf,run_underlying hu,h0,h1,sizeOf,typeInfo,jH,nw]
   cases x<;>simp only at h<;>first|(cases h;done)|skip
   case list e' es=>
    obtain ⟨hc,h⟩:=aH h
    simp only[Bool.and_eq_true,Nat.beq_eq] at hc
    obtain ⟨ed,aw⟩:=hc
    have gM:e=e':=ed
    obtain ⟨ie,z,eo,_,a8,_⟩:=kh aw
    obtain ⟨el,da,h⟩:=lA h
    obtain rfl:=aS h
    unfold idx at da
    cases h0:decide (0≤i) with
    | false=>rw[h0] at da;cases da
    | true=>
     rw[h0] at da
     simp only[cond_true] at da
     have h0':0≤i:=by simpa using h0
     have aX:i.toNat<es.length:=(List.getElem?_eq_some_iff.1 da).1
     cases hv with
     | list hp'=>
      cases hp' with
      | nil=>simp at aX
      | emp=>simp at aX
      | @list b o len cap _ g hl cj hI gu hx=>
       rw[←gM] at gu hx hI
       refine .same S (run b o len cap ie eo h0' (by omega)) ?_
       have fN:=v9 (P:=P) e el
       have JF:=fM aw
       have Q0:(bif bG P e then flat P e else [e])=aY P e:=rfl
       rw[Q0]
       refine .pref (by rw[fN]) (fun _=>hI ?_) (fun j t' y' ht zE=> ?_)
       ·have:=Nat.mul_pos (show 0<len by omega) (kf aw).2
        exact this
       ·obtain ⟨t2,a1,a2⟩:=I9 zE
        rw[ht] at a1;cases a1
        have hj:j<P.cellsOf e:=by rw[←JF];exact (List.getElem?_eq_some_iff.1 ht).1
        have gS:=hx i.toNat j el t' da ht
        refine ⟨g i.toNat j,?_,?_⟩
        ·rw[a8,Nat.add_assoc];exact gu i.toNat j (by omega) hj
        ·rw[a2,gS.sB];exact gS
   case whole e' id=>
    obtain ⟨l,h⟩:=run_get h
    cases af:hp id with
    | none=>rw[af] at h;cases h
    | some blk=>
     rw[af] at h
     cases blk<;>simp only at h<;>first|(cases h;done)|skip
     rename_i dX es fz
     obtain ⟨hc,h⟩:=aH h
     simp only[Bool.and_eq_true,Nat.beq_eq] at hc
     obtain ⟨ed,jD⟩:=hc
     obtain ⟨e7,h⟩:=aH h
     simp only[Bool.and_eq_true,decide_eq_true_eq] at e7
     obtain rfl:=aS h
     cases hv with
     | eD hd=>rw[af] at hd;cases hd
     | eL hd=>rw[af] at hd;cases hd
     | dZ hd hb=>rw[af] at hd;cases hd;simp at e7;omega
     | @whole _ _ aQ np b cap hd hb zT cj hm=>
      have e6:=hd
      rw[af] at hd
      cases hd
      have hr:=S.h.rel id _ af
      cases hr with
      | eb ax=>rw[ax] at hb;cases hb
      | arr aw ax hh hs hf eE hx=>
       have gM:e=e':=ed
       obtain ⟨ie,z,eo,_,a8,_⟩:=kh aw
       rw[←gM] at eo a8
       refine .same S (run b 0 _ cap ie eo e7.1 e7.2) ?_
       have:=ai.ptr (P:=P) (w:=w) (I:=I) (i:=i.toNat) (c:=0) e6 (by simp) hb
       simp only[ah.sz] at this
       rw[Nat.zero_add,a8,gM]
       simpa using this
     rename_i dX es ak
     obtain ⟨hc,h⟩:=aH h
     simp only[Bool.and_eq_true,Nat.beq_eq] at hc
     obtain ⟨ed,jD⟩:=hc
     obtain ⟨e7,h⟩:=aH h
     simp only[Bool.and_eq_true,decide_eq_true_eq] at e7
     obtain rfl:=aS h
     cases hv with
     | eD hd=>rw[af] at hd;cases hd
     | dZ hd hb=>rw[af] at hd;cases hd
     | whole hd=>rw[af] at hd;cases hd
     | @eL _ _ aQ vers' b cap hd hb zT cj hm=>
      have e6:=hd
      rw[af] at hd
      cases hd
      have aw:=(S.rows e6 hb .here).ok
      have gM:e=e':=ed
      obtain ⟨ie,z,eo,_,a8,_⟩:=kh aw
      rw[←gM] at eo a8
      refine .same S (run b 0 _ cap ie eo e7.1 e7.2) ?_
      have:=ai.ptr (P:=P) (w:=w) (I:=I) (i:=i.toNat) (c:=0) e6 (by simp) hb
      simp only[ah.sz] at this
      rw[Nat.zero_add,a8,gM]
      simpa using this
   case row e' id ver path=>
    obtain ⟨e0,es,ak,l,af,h1,h2,h3,h⟩:=od h
    obtain ⟨e2,v',k1,k2,h⟩:=vY h
    obtain ⟨hc,h⟩:=aH h
    simp only[Bool.and_eq_true,Nat.beq_eq] at hc
    obtain ⟨ed,jD⟩:=hc
    obtain ⟨e7,h⟩:=aH h
    simp only[Bool.and_eq_true,decide_eq_true_eq] at e7
    obtain rfl:=aS h
    cases hv with
    | jA hd hp'=>rw[af] at hd;cases hd;exact absurd hp' (vZ h1 h2 h3)
    | @row v _ e0 t1 _ ver b i1 c1 q es l1 ak hd hb hq Jn ht gu=>
     have abh:=gu
     obtain ⟨b',e3,aQ,Ca,T,f,x,m1,m2,m3,m4,m5,m6⟩:=gu
     have lC:=hd
     rw[af] at lC
     cases lC
     obtain ⟨n1,n2⟩:=EF m1 m3 m4 ht m5
     rw[n2] at k2
     cases k2
     simp only[V.toList] at e7
     have hR:=S.rows hd hb m1
     obtain ⟨C1,c2,c3,c4⟩:=hR.cells
     rw[m2] at c2
     cases c2
     have hj:c1<P.cellsOf e3:=by
      rw[←fM hR.ok];exact (List.getElem?_eq_some_iff.1 m4).1
     obtain ⟨v2,d1,d2⟩:=c4 _ _ _ _ m3 m4 hj
     rw[m6] at d1
     cases d1
     rw[m5] at d2
     cases d2 with
     | gg a _=>unfold ga at a;rw[ht] at a;cases a
     | emp _ _=>simp at e7;omega
     | @row _ _ b1 cap _ hl _ _ _=>
      have aw:=(S.rows hd hb (m1.snoc m2 m3 m4 ht m5 hl m6)).ok
      have gM:e=e':=ed
      obtain ⟨ie,z,eo,_,a8,_⟩:=kh aw
      rw[←gM] at eo a8
      refine .same S (run b1 0 _ cap ie eo e7.1 e7.2) ?_
      have:=ai.cL (P:=P) (I:=I) (i:=i.toNat) (c:=0) hd hb hq Jn ht hl abh
      rw[Nat.zero_add,a8,gM]
      simpa using this
   case sub e' id off len=>
    obtain ⟨l,h⟩:=run_get h
    cases af:hp id with
    | none=>rw[af] at h;cases h
    | some blk=>
     rw[af] at h
     cases blk<;>simp only at h<;>first|(cases h;done)|skip
     rename_i dX es fz
     obtain ⟨hc,h⟩:=aH h
     simp only[Bool.and_eq_true,Nat.beq_eq] at hc
     obtain ⟨ed,jD⟩:=hc
     obtain ⟨e7,h⟩:=aH h
     simp only[Bool.and_eq_true,decide_eq_true_eq] at e7
     obtain rfl:=aS h
     cases hv with
     | gr hd=>rw[af] at hd;cases hd
     | gh hd hb=>simp at e7;omega
     | @sub _ _ _ _ aQ np b o cap hd hb jn cj ho=>
      have e6:=hd
      rw[af] at hd
      cases hd
      have hr:=S.h.rel id _ af
      cases hr with
      | eb ax=>rw[ax] at hb;cases hb
      | arr aw ax hh hs hf eE hx=>
       have gM:e=e':=ed
       obtain ⟨ie,z,eo,_,a8,_⟩:=kh aw
       rw[←gM] at eo a8
       refine .same S (run b o _ cap ie eo e7.1 e7.2) ?_
       have:=ai.ptr (P:=P) (w:=w) (I:=I) (i:=off+i.toNat) (c:=0) e6 (by simp) hb
       simp only[ah.sz] at this
       rw[ho (by omega),a8,gM,←Nat.add_mul]
       simpa using this
  case array n e=>
   have run: ∀(b o:Nat) (ie:TypeInfo),P.info? e=some ie→0≤i→i<(n:Int)→(Instr.indexAt t (.pointer (some ⟨b,o,none⟩)) (.int k i)).run P w= .ok (.pointer (some ⟨b,o+i.toNat*ie.size,none⟩)) w:=by
    intro b o ie jH h0 h1
    simp[Instr.indexAt,asIntOf,run_underlying hu,h0,h1,sizeOf,typeInfo,jH,nw,Instr.sureAddr]
   cases x<;>simp only at h<;>first|(cases h;done)|skip
   case ptr id j c=>
    obtain ⟨⟨blk,af,hd⟩,l,h⟩:=v7 h
    obtain ⟨e7,h⟩:=aH h
    simp only[Bool.and_eq_true,decide_eq_true_eq] at e7
    obtain rfl:=aS h
    obtain ⟨b,hb,rfl⟩:=hv.gU af hd
    obtain ⟨d,tY⟩:=zI e7.1
    obtain ⟨ie,jH⟩:=v8 tY
    have a8:ie.size=P.cellsOf e:=by simp[Program.cellsOf,jH]
    refine .same S (run b _ ie jH e7.2.1 e7.2.2) ?_
    rw[a8,Nat.add_assoc]
    exact .ptr af hd hb
   case pref ts cs=>
    obtain ⟨e7,h⟩:=aH h
    simp only[Bool.and_eq_true,decide_eq_true_eq] at e7
    obtain rfl:=aS h
    obtain ⟨b,o,rfl,h1,h2,h3⟩:=hv.EM
    obtain ⟨d,tY⟩:=zI e7.1
    obtain ⟨ie,jH⟩:=v8 tY
    have a8:ie.size=P.cellsOf e:=by simp[Program.cellsOf,jH]
    refine .same S (run b _ ie jH e7.2.1 e7.2.2) ?_
    rw[a8]
    exact ai.Ql h1 h2 h3
end
end Go.AM
namespace Go.AM
open Go.Maps
section
variable {P:Program} {w w':World} {I I':Nat→Prop} {β au:Nat→Option Nat} {hp hp':Nat→Option ah} {C:ae} {B:Nat} {M:Nat→Prop} {w0:Start}
theorem abi (S:aE P w I β hp B M w0) {nb:Nat} {t:TypeId} {v:Value} {x:V} {lo hi:Option V} {lov hiv:Option Value} {r:R} {rd:List Nat} (hv:ai P w I β hp v x)
  (gV: ∀x,hi=some x→∃v,hiv=some v∧ai P w I β hp v x) (nB:lo=none→lov=none)
  (h:(Er P nb t x lo hi).run C hp=some (r,rd)):di P ((Instr.sliceAt t v lov hiv none).run P w) w I β hp B M w0 r:=by
 unfold Er at h
 split at h
 case h_2=>cases h
 rename_i e e' id k hh hu
 obtain ⟨l,h1⟩:=run_get h
 cases af:hp id with
 | none=>rw[af] at h1;cases h1
 | some blk=>
  rw[af] at h1
  cases blk<;>simp only at h1<;>first|(cases h1;done)|skip
  rename_i e2 es fz
  cases fz with
  | true=>cases h1
  | false=>
  obtain ⟨hc,h2⟩:=aH h1
  simp only[Bool.and_eq_true,Nat.beq_eq,decide_eq_true_eq] at hc
  obtain ⟨rfl,rfl,aw,Q1,Q2⟩:=hc
  obtain ⟨hn,rfl⟩:=nA h2
  have iO:=nB rfl
  subst iO
  obtain ⟨JG,rfl,hhv⟩:=gV _ rfl
  obtain rfl:=hhv.eM
  obtain ⟨i,z,eo,_,a8,_⟩:=kh aw
  have bP:nb≠id:=fun e=>by rw[e,af] at hn;cases hn
  obtain ⟨k1,k2⟩:=EI S af
  have ki:aK hp id (some ah.dead) nb=none:=by rw[eF _ _ bP];exact hn
  have Q3: ∀cap,es.length≤cap→(Instr.sliceBounds true es.length cap none (some (.int k hh)) none).run P w= .ok (0,hh.toNat,cap) w:=by
   intro cap cj
   have hb:(sj es.length none (some (.int k hh)) fun l u=> .ay (decide (l=0∧u=hh.toNat)) (.ret (⟨.undef,[]⟩:R))).run C hp=some (⟨.undef,[]⟩,[]):=by
    simp[sj,Rd.run,Q1,Q2]
   obtain ⟨l,u,b1,b2,b3,b4⟩:=qy (P:=P) (w:=w) (I:=I) (β:=β) (hp:=hp) (n:=es.length) (isS:=true) (cap:=cap) (lov:=none) (hiv:=some (.int k hh)) cj (by simp) (fun x hx=>by cases hx;exact ⟨_,rfl,.int⟩) (fun _=>rfl) (by simp) hb
   obtain ⟨b5,_⟩:=aH b4
   simp only[decide_eq_true_eq] at b5
   obtain ⟨rfl,rfl⟩:=b5
   exact b3
  cases hv with
  | eD hd=>rw[af] at hd;cases hd
  | eL hd=>rw[af] at hd;cases hd
  | @dZ _ _ _ a0 hd hb=>
   rw[af] at hd
   cases hd
   have Jf:hh=0:=by simpa using Int.le_antisymm Q2 Q1
   subst Jf
   have ax:=Q3 0 (Nat.le_refl _)
   obtain ⟨a1,a2⟩:=EH k2 e ki
   refine ⟨_,w,I,_,E9 hu eo ax,k1.trans a1,a2,.dZ (dc _ _ _) (dc _ _ _)⟩
  | @whole _ _ aQ np b cap hd hb zT cj hm=>
   have e6:=hd
   rw[af] at hd
   cases hd
   have hr:=S.h.rel id _ af
   cases hr with
   | eb ax=>rw[ax] at hb;cases hb
   | @arr _ _ _ b' Ca _ ax Fa pg hf eE mD=>
    rw[hb] at ax
    cases ax
    have jq:(es.take hh.toNat).length=hh.toNat:=by rw[List.length_take];omega
    have cX:(Instr.sliceAt t (.slice (some ⟨b,0,none⟩) es.length cap) none (some (.int k hh)) none).run P w= .ok (.slice (some ⟨b,0,none⟩) hh.toNat cap) w:=by
     have ax:=Q3 cap cj
     by_cases Fb:cap=0
     ·subst Fb
      simp[Instr.sliceAt,Instr.slice,run_underlying hu,ax,sizeOf,typeInfo,eo]
     ·simp[Instr.sliceAt,Instr.slice,run_underlying hu,ax,sizeOf,typeInfo,eo,Fb,nw]
    have ql: ∀aA blk',aK hp id (some ah.dead) aA=some blk'→¬bw P w (β aA) blk' b:=by
     intro aA blk' h1 h2
     by_cases iM:aA=id
     ·subst iM;rw[dc] at h1;cases h1;exact h2.alive rfl
     ·rw[eF _ _ iM] at h1
      exact iM (S.h.inj aA id blk' _ b h1 af h2 (.root (by simp) hb))
    obtain ⟨a1,a2⟩:=zC k2 (blk:= .arr e (es.take hh.toNat) false) (w':=w) ki ql (eE rfl) (fun _ _ _=>rfl) (Nat.le_refl _) ⟨rfl,rfl⟩ (S.h.sw id _ b af (by simp) hb)
     (fun b' h=>(Option.some.inj (h.flat (by simp))).symm) (fun hle=> .arr aw rfl Fa (by rw[jq];exact Nat.le_trans (Nat.mul_le_mul_right _ (by omega)) pg) (fun h=>by cases h) (fun _=>eE rfl) fun i j y t' hy ht hj=>by
      have qx:=(List.getElem?_eq_some_iff.1 hy).1
      rw[jq] at qx
      rw[List.getElem?_take_of_lt qx] at hy
      obtain ⟨v,hv,hp⟩:=mD i j y t' hy ht hj
      exact ⟨v,hv,hp.mono hle.dE hle.cp⟩)
    refine ⟨_,w,I,_,cX,k1.trans a1,a2,?_⟩
    have:=ai.whole (P:=P) (w:=w) (I:=I) (β:=aK β nb (some b)) (hp:=aK (aK hp id (some .dead)) nb (some (.arr e (es.take hh.toNat) false))) (cap:=cap) (dc _ _ _) (dc _ _ _) zT (by rw[jq];omega) hm
    rw[jq] at this
    exact this
theorem qz {t:TypeId} {x:V} (h:oX P t x=true):
  (∃q n,P.underlying t=some (.int q)∧x= .int q n∧dA q n=true)∨(∃b,P.underlying t=some .bool∧x= .bool b)∨(∃s,P.underlying t=some .string∧x= .str s∧s.length≤maxLen):=by
 unfold oX at h
 split at h
 ·rename_i q q' n hu
  simp only[Bool.and_eq_true,decide_eq_true_eq] at h
  obtain ⟨rfl,h⟩:=h
  exact .inl ⟨_,_,hu,rfl,h⟩
 ·rename_i b hu
  exact .inr (.inl ⟨_,hu,rfl⟩)
 ·rename_i s hu
  exact .inr (.inr ⟨_,hu,rfl,by simpa using h⟩)
 ·cases h
theorem size_data (s:ByteArray):s.data.toList.length=s.size:=by simp
theorem abj {q:IntKind} {n:Int} (h:dA q n=true):(Lit.int q n).wf=true:=h
theorem Q4 {t:TypeId} {x:V} {v:Value} (h:oX P t x=true) (hv:jm v x): ∃l,mapKey P t v=some l∧∀d,P.keyLits (d+1) t [v]=some [l]:=by
 rcases qz h with ⟨q,n,hu,rfl,hn⟩|⟨b,hu,rfl⟩|⟨s,hu,rfl,hs⟩
 ·obtain rfl:v= .int q n:=hv
  have hw:=abj hn
  exact ⟨.int q n,by simp[mapKey,hu,hw],fun d=>by simp[Program.keyLits,hu,hw]⟩
 ·obtain rfl:v= .bool b:=hv
  exact ⟨.bool b,by simp[mapKey,hu],fun d=>by simp[Program.keyLits,hu]⟩
 ·obtain ⟨s',rfl,sH⟩:=hv
  have:s'.size≤maxLen:=by rw[←size_data,sH];exact hs
  exact ⟨.string s'.data.toList,by simp[mapKey,hu,this],fun d=>by simp[Program.keyLits,hu,this]⟩
theorem JH {t:TypeId}: ∀{xs:List V} {j:Nat} {x:V},p9 P t xs=true→xs[j]? =some x→oX P t x=true
 | [],j,x,_,h=>by simp at h
 | y::ys,0,x,h,hx=>by
  simp only[p9,Bool.and_eq_true] at h
  simp at hx;subst hx;exact h.1
 | y::ys,j+1,x,h,hx=>by
  simp only[p9,Bool.and_eq_true] at h
  exact JH (j:=j) h.2 (by simpa using hx)
theorem mapM_some {α β:Type} {f:α→Option β}: ∀{l:List α},(∀a∈l,∃b,f a=some b)→∃bs,l.mapM f=some bs
 | [],_=>⟨[],rfl⟩
 | a::l,h=>by
  obtain ⟨b,hb⟩:=h a (List.mem_cons_self ..)
  obtain ⟨bs,gT⟩:=mapM_some (l:=l) fun x hx=>h x (List.mem_cons_of_mem _ hx)
  exact ⟨b::bs,by simp[List.mapM_cons,hb,gT]⟩
inductive JI (P:Program) (t:TypeId) (x:V):Prop
 | one:oX P t x=true→x.cells=[x]→JI P t x
 | arr {n:Nat} {e:TypeId} {xs:List V}:x= .agg xs→WideMaps.ArrKey P t e n→xs.length=n→0<P.types.size→p9 P e xs=true→JI P t x
theorem wy {t:TypeId} {x:V} (h:nn P t x=true):JI P t x:=by
 unfold nn at h
 split at h
 ·rename_i n e xs hu
  simp only[Bool.and_eq_true,Nat.beq_eq] at h
  rw[Nat.blt_eq] at h
  exact .arr rfl ⟨hu,h.2.2.2.1,h.2.1,h.2.2.1⟩ h.1 h.2.2.2.2.1 h.2.2.2.2.2
 ·refine .one h ?_
  rcases qz h with ⟨q,n,hu,rfl,hn⟩|⟨b,hu,rfl⟩|⟨s,hu,rfl,hs⟩<;>rfl
theorem qe.one {x:V} {v:Value} (h:qe v x) (hx:x.cells=[x]):jm v x:=by
 cases x<;>first|exact h|skip
 simp only[V.cells] at hx
 rename_i cs
 have:=congrArg List.length hx
 cases cs with
 | nil=>simp at hx
 | cons c cs=>
  simp only[List.cons.injEq] at hx
  have:=congrArg SizeOf.sizeOf hx.1
  simp at this
  omega
theorem Fc {t:TypeId} {x:V} {v:Value} (h:nn P t x=true) (hv:qe v x): ∃l,Go.keyOf P t v=some l:=by
 cases wy h with
 | one h1 hx=>
  obtain ⟨l,hl,_⟩:=Q4 h1 (hv.one hx)
  refine ⟨l,?_⟩
  rcases qz h1 with ⟨q,n,hu,_⟩|⟨b,hu,_⟩|⟨s,hu,_⟩<;>simp only[Go.keyOf,hu,hl]
 | @arr n e xs hx A hl hp0 hf=>
  subst hx
  obtain ⟨cs,rfl,hs,hc⟩:=hv
  obtain ⟨m,hm⟩: ∃m,P.types.size=m+1:=⟨P.types.size-1,by omega⟩
  have hkt:=A.keyType ⟨m,hm⟩
  have hlen:cs.toList.length=P.cellsOf t:=by rw[A.size];simp[hs,hl]
  have hfm:(Value.agg cs).formed P t=true:=by simp[Value.formed,A.hu,A.size,hs,hl]
  have hex: ∀i∈List.range n,∃y,P.keyLits (m+1) e (((Value.agg cs).cells.toList.drop (i*P.cellsOf e)).take (P.cellsOf e))=some y:=by
   intro i hi
   have hi:=List.mem_range.1 hi
   rw[A.one]
   have gx:i<cs.size:=by omega
   have zU:i<xs.length:=by omega
   obtain ⟨l,_,h2⟩:=Q4 (JH hf (List.getElem?_eq_getElem zU)) (hc i cs[i] xs[i] (Array.getElem?_eq_getElem gx) (List.getElem?_eq_getElem zU))
   have e1:((Value.agg cs).cells.toList.drop (i*1)).take 1=[cs[i]]:=by
    show (cs.toList.drop (i*1)).take 1=_
    rw[Nat.mul_one,List.drop_eq_getElem_cons (by simpa using gx)]
    simp
   rw[e1]
   exact ⟨_,h2 m⟩
  obtain ⟨bs,gT⟩:=mapM_some hex
  refine ⟨.string (keyBytes bs.flatten),?_⟩
  have abk:(Value.agg cs).cells.toList.length=P.cellsOf t:=hlen
  unfold Go.keyOf
  rw[A.hu]
  simp only[hkt,hfm,Bool.and_self,if_true]
  unfold Program.keyLits
  rw[A.hu,hm]
  simp only[abk,if_true,gT,Option.map_some]
theorem JJ {t:TypeId} {x:V} (h:nn P t x=true):Keyed P t:=by
 cases wy h with
 | one h1 hx=>
  rcases qz h1 with ⟨q,n,hu,_⟩|⟨b,hu,_⟩|⟨s,hu,_⟩
  ·exact int_keyed hu
  ·exact bool_keyed hu
  ·exact string_keyed hu
 | arr hx A hl _ hf=>exact Keyed.of_law A.law
theorem Q5 {t:TypeId} {x y:V} {v u:Value} (h1:oX P t x=true) (h2:oX P t y=true) (hv:jm v x) (hu:jm u y):sh x y=true↔v=u:=by
 rcases qz h1 with ⟨q,n,mG,rfl,_⟩|⟨b,mG,rfl⟩|⟨s,mG,rfl,_⟩<;>
 rcases qz h2 with ⟨q',n',pj,rfl,_⟩|⟨b',pj,rfl⟩|⟨s',pj,rfl,_⟩<;>
  (rw[mG] at pj;cases pj)
 ·obtain rfl:v= .int q n:=hv
  obtain rfl:u= .int q n':=hu
  simp[sh]
 ·obtain rfl:v= .bool b:=hv
  obtain rfl:u= .bool b':=hu
  simp[sh]
 ·obtain ⟨s1,rfl,e1⟩:=hv
  obtain ⟨s2,rfl,e2⟩:=hu
  simp only[sh,beq_iff_eq,Value.string.injEq,←e1,←e2]
  constructor
  ·intro h
   have:=Array.toList_inj.1 h
   cases s1;cases s2;simp_all
  ·rintro rfl;rfl
theorem Q6 {t:TypeId}: ∀{xs ys:List V} {vs us:List Value},p9 P t xs=true→p9 P t ys=true→xs.length=ys.length→vs.length=xs.length→us.length=ys.length→
  (∀(j:Nat) v x,vs[j]? =some v→xs[j]? =some x→jm v x)→(∀(j:Nat) v x,us[j]? =some v→ys[j]? =some x→jm v x)→(oW xs ys=true↔vs=us)
 | [],[],vs,us,_,_,_,h1,h2,_,_=>by
  have e1:=List.eq_nil_of_length_eq_zero (l:=vs) (by simpa using h1)
  have e2:=List.eq_nil_of_length_eq_zero (l:=us) (by simpa using h2)
  simp[oW,e1,e2]
 | [],_::_,_,_,_,_,h,_,_,_,_=>by simp at h
 | _::_,[],_,_,_,_,h,_,_,_,_=>by simp at h
 | x::xs,y::ys,[],us,_,_,_,h,_,_,_=>by simp at h
 | x::xs,y::ys,v::vs,[],_,_,_,_,h,_,_=>by simp at h
 | x::xs,y::ys,v::vs,u::us,f1,f2,h,h1,h2,r1,r2=>by
  simp only[p9,Bool.and_eq_true] at f1 f2
  have a:=Q5 f1.1 f2.1 (r1 0 v x rfl rfl) (r2 0 u y rfl rfl)
  have b:=Q6 (vs:=vs) (us:=us) f1.2 f2.2 (by simpa using h) (by simpa using h1) (by simpa using h2) (fun j v x hj hx=>r1 (j+1) v x (by simpa using hj) (by simpa using hx)) (fun j v x hj hx=>r2 (j+1) v x (by simpa using hj) (by simpa using hx))
  simp only[oW,Bool.and_eq_true,a,b,List.cons.injEq]
theorem JK {t:TypeId} {x y:V} {v u:Value} (h1:nn P t x=true) (h2:nn P t y=true) (hv:qe v x) (hu:qe u y):jg x y=true↔v=u:=by
 unfold jg
 cases wy h1 with
 | one f1 c1=>
  cases wy h2 with
  | one f2 c2=>
   rw[c1,c2]
   simp only[oW,Bool.and_true]
   exact Q5 f1 f2 (hv.one c1) (hu.one c2)
  | arr hy A hl _ hf=>
   rcases qz f1 with ⟨q,n,mG,_⟩|⟨b,mG,_⟩|⟨s,mG,_⟩<;>(rw[A.hu] at mG;cases mG)
 | arr hx A hl _ hf=>
  cases wy h2 with
  | one f2 c2=>
   rcases qz f2 with ⟨q,n,mG,_⟩|⟨b,mG,_⟩|⟨s,mG,_⟩<;>(rw[A.hu] at mG;cases mG)
  | arr hy A2 rZ _ hf2=>
   have gM:=A.hu.symm.trans A2.hu
   cases gM
   subst hx
   subst hy
   obtain ⟨cs,rfl,s1,r1⟩:=hv
   obtain ⟨ds,rfl,s2,r2⟩:=hu
   have:=Q6 (vs:=cs.toList) (us:=ds.toList) hf hf2 (by omega) (by simpa using s1) (by simpa using s2) (fun j v x hj hx=>r1 j v x (by simpa using hj) hx) (fun j v x hj hx=>r2 j v x (by simpa using hj) hx)
   simp only[V.cells,this,Value.agg.injEq]
   exact Array.toList_inj
theorem Q7 {k:V}: ∀{es:List V},(∀x∈es,jg k (x.comp 0)=false)→gH k es=false∧(∀z,jh k es z=z)∧∀v,fI k v es=es++[.bj [k,v]]
 | [],_=>⟨rfl,fun _=>rfl,fun _=>rfl⟩
 | e::es,h=>by
  have h0:=h e (List.mem_cons_self ..)
  obtain ⟨a,b,c⟩:=Q7 (k:=k) (es:=es) fun x hx=>h x (List.mem_cons_of_mem _ hx)
  exact ⟨by simp[gH,h0,a],fun z=>by simp[jh,h0,b],fun v=>by simp[fI,h0,c]⟩
theorem Q8 {k:V}: ∀{es:List V} {j:Nat} {k' y:V},es[j]? =some (.bj [k',y])→jg k k'=true→(∀i x,i<j→es[i]? =some x→jg k (x.comp 0)=false)→
  gH k es=true∧(∀z,jh k es z=y)∧∀v,fI k v es=es.set j (.bj [k',v])
 | [],j,k',y,h,_,_=>by simp at h
 | e::es,0,k',y,h,he,_=>by
  simp at h
  subst h
  exact ⟨by simp[gH,V.comp,V.nth,he],fun z=>by simp[jh,V.comp,V.nth,he],fun v=>by simp[fI,V.comp,V.nth,he]⟩
 | e::es,j+1,k',y,h,he,aX=>by
  have h0:=aX 0 e (by omega) rfl
  obtain ⟨a,b,c⟩:=Q8 (k:=k) (es:=es) (j:=j) (by simpa using h) he fun i x hi hx=>aX (i+1) x (by omega) (by simpa using hx)
  exact ⟨by simp[gH,h0,a],fun z=>by simp[jh,h0,b],fun v=>by simp[fI,h0,c]⟩
theorem Q9 {kt vt:TypeId} {E:Array MapEntry} {es:List V} {k:V} {kv:Value} (hs:E.size=es.length) (hx: ∀(j:Nat) (e:MapEntry) (x:V),E[j]? =some e→es[j]? =some x→EA P kt vt e x)
  (hn:E.toList.Pairwise (fun a b=>a.key≠b.key)) (hk:nn P kt k=true) (Fe:qe kv k) (w:World):
  ((Instr.findKey kt kv E.toList).run P w= .ok none w∧(∀e∈E.toList,e.key≠kv)∧gH k es=false∧(∀z,jh k es z=z)∧∀v,fI k v es=es++[.bj [k,v]])∨
  ∃j e k' y,(Instr.findKey kt kv E.toList).run P w= .ok (some (j,e.val)) w∧E[j]? =some e∧e.key=kv∧es[j]? =some (.bj [k',y])∧nn P kt k'=true∧qe kv k'∧eR P vt y=true∧jm e.val y∧
   gH k es=true∧(∀z,jh k es z=y)∧∀v,fI k v es=es.set j (.bj [k',v]):=by
 have K:=JJ hk
 obtain ⟨l,hl⟩:=Fc hk Fe
 have Ra: ∀(j:Nat) x,es[j]? =some x→∃e,E[j]? =some e∧EA P kt vt e x:=by
  intro j x hj
  have aX:j<E.size:=by rw[hs];exact (List.getElem?_eq_some_iff.1 hj).1
  exact ⟨E[j],Array.getElem?_eq_getElem aX,hx j _ x (Array.getElem?_eq_getElem aX) hj⟩
 have keys: ∀e∈E.toList,∃l,Go.keyOf P kt e.key=some l:=by
  intro e he
  obtain ⟨j,hj⟩:=List.getElem?_of_mem he
  have gK:E[j]? =some e:=by simpa using hj
  have aX:j<es.length:=by rw[←hs];exact (Array.getElem?_eq_some_iff.1 gK).1
  obtain ⟨k',y,_,h1,h2,_⟩:=hx j e es[j] gK (List.getElem?_eq_getElem aX)
  exact Fc h1 h2
 rcases K.find w hl E.toList keys with ⟨h1,h2⟩|⟨j,e,h1,h2,h3⟩
 ·left
  refine ⟨h1,h2,Q7 fun x hxm=> ?_⟩
  obtain ⟨j,hj⟩:=List.getElem?_of_mem hxm
  obtain ⟨e,he,k',y,rfl,f1,f2,_⟩:=Ra j x hj
  cases hq:jg k (V.comp (.bj [k',y]) 0) with
  | false=>rfl
  | true=>
   have:=(JK hk f1 Fe f2).1 hq
   exact absurd this.symm (h2 e (List.mem_of_getElem? (by simpa using he)))
 ·right
  have hE:E[j]? =some e:=by simpa using h2
  have aX:j<es.length:=by rw[←hs];exact (Array.getElem?_eq_some_iff.1 hE).1
  obtain ⟨k',y,hy,f1,f2,f3,f4⟩:=hx j e es[j] hE (List.getElem?_eq_getElem aX)
  have hj:=List.getElem?_eq_getElem aX
  rw[hy] at hj
  rw[h3] at f2
  refine ⟨j,e,k',y,h1,hE,h3,hj,f1,f2,f3,f4,Q8 hj ((JK hk f1 Fe f2).2 rfl) fun i x hi gI=> ?_⟩
  obtain ⟨e',tU,k2,y2,rfl,g1,g2,_⟩:=Ra i x gI
  cases hq:jg k (V.comp (.bj [k2,y2]) 0) with
  | false=>rfl
  | true=>
   have:=(JK hk g1 Fe g2).1 hq
   have i1:i<E.toList.length:=by have:=(List.getElem?_eq_some_iff.1 gI).1;simp;omega
   have i2:j<E.toList.length:=by simp;omega
   have:=List.pairwise_iff_getElem.1 hn i j i1 i2 hi
   have a1:E.toList[i]=e':=by
    have:E.toList[i]? =some e':=by simpa using tU
    rw[List.getElem?_eq_getElem i1] at this;exact Option.some.inj this
   have a2:E.toList[j]=e:=by
    have:=h2
    rw[List.getElem?_eq_getElem i2] at this;exact Option.some.inj this
   rw[a1,a2,h3] at this
   exact absurd (by rw[← ‹kv=e'.key›]) this
theorem ai.Rb {v:Value} {x:V} (h:ai P w I β hp v x) {t:TypeId} (hx:oX P t x=true):jm v x:=by
 rcases qz hx with ⟨q,n,_,rfl,_⟩|⟨b,_,rfl⟩|⟨s,_,rfl,_⟩
 ·exact h.eM
 ·exact h.jF
 ·exact h.my
theorem ai.Rc {v:Value} {x:V} (h:ai P w I β hp v x) {t:TypeId} (hx:nn P t x=true):qe v x:=by
 cases wy hx with
 | one f c=>
  have:=h.Rb f
  cases x<;>first|exact this|cases this
 | arr hx A hl _ hf=>
  subst hx
  obtain ⟨cs,rfl,h1,h2⟩:=h.kH
  exact ⟨cs,rfl,h1,fun j u y hu hy=>(h2 j u y hu hy).Rb (JH hf hy)⟩
theorem Re {vt:TypeId} {y:V} (h:mapVal P vt=true) (ht:eR P vt y=true):(∃q n,P.underlying vt=some (.int q)∧y= .int q n)∨∃b,P.underlying vt=some .bool∧y= .bool b:=by
 unfold mapVal at h
 unfold eR at ht
 split at h
 ·rename_i q hu
  rw[hu] at ht
  cases y<;>first|(simp at ht;done)|skip
  simp only[decide_eq_true_eq] at ht
  subst ht
  exact .inl ⟨_,_,hu,rfl⟩
 ·rename_i hu
  rw[hu] at ht
  cases y<;>first|(simp at ht;done)|skip
  exact .inr ⟨_,hu,rfl⟩
 ·cases h
theorem jm.JL {vt:TypeId} {v:Value} {y:V} (h:mapVal P vt=true) (ht:eR P vt y=true) (hv:jm v y):ai P w I β hp v y:=by
 rcases Re h ht with ⟨q,n,_,rfl⟩|⟨b,_,rfl⟩
 ·obtain rfl:v= .int q n:=hv;exact .int
 ·obtain rfl:v= .bool b:=hv;exact .bool
theorem ai.abl {vt:TypeId} {v:Value} {y:V} (h:mapVal P vt=true) (ht:eR P vt y=true) (hv:ai P w I β hp v y):jm v y:=by
 rcases Re h ht with ⟨q,n,_,rfl⟩|⟨b,_,rfl⟩
 ·exact hv.eM
 ·exact hv.jF
theorem abm {vt:TypeId} {z:V} (h:El P vt=some z) (w:World): ∃v,(zeroValue vt).run P w= .ok v w∧jm v z:=by
 unfold El at h
 cases hi:P.info? vt with
 | none=>rw[hi] at h;cases h
 | some i=>
  rw[hi] at h
  simp only[Option.bind_some] at h
  cases hz:i.zero with
  | none=>rw[hz] at h;cases h
  | some v=>
   rw[hz] at h
   refine ⟨v,by simp[zeroValue,typeInfo,hi,hz],?_⟩
   cases v<;>simp only at h<;>first|(cases h;done)|skip
   ·cases h;rfl
   ·cases h;rfl
theorem JM {t kt vt:TypeId} (h:ly P t=some (kt,vt)):P.underlying t=some (.map kt vt):=by
 unfold ly at h
 split at h
 ·rename_i k e hu;cases h;exact hu
 ·cases h
theorem JN (S:aE P w I β hp B M w0) {ok:Bool} {v:Value} {x:V} {b:Bool} {r:R} {rd:List Nat} {res:Result Value} (hv:ai P w I β hp v x)
  (hr:res= .ok (if ok then .tuple #[v,.bool b] else v) w) (h:(Em ok x b).run C hp=some (r,rd)):di P res w I β hp B M w0 r:=by
 unfold Em at h
 obtain rfl:=aS h
 cases ok with
 | false=>exact .same S hr hv
 | true=>
  refine .same S hr (.bj rfl fun j u y hu hy=> ?_)
  match j,hu,hy with
  | 0,hu,hy=>simp at hu hy;subst hu;subst hy;exact hv
  | 1,hu,hy=>simp at hu hy;subst hu;subst hy;exact .bool
  | j+2,hu,hy=>simp at hy
theorem abn (S:aE P w I β hp B M w0) {t kt vt:TypeId} (ht:ly P t=some (kt,vt)) {m k:Value} {mx kx:V} {ok:Bool} {r:R} {rd:List Nat} (hm:ai P w I β hp m mx) (hk:ai P w I β hp k kx)
  (h:(IB P t mx kx ok).run C hp=some (r,rd)):di P ((Instr.lookup t m k ok).run P w) w I β hp B M w0 r:=by
 unfold IB at h
 rw[ht] at h
 simp only at h
 cases hz:El P vt with
 | none=>rw[hz] at h;cases h
 | some z=>
  rw[hz] at h
  obtain ⟨hc,h'⟩:=aH h
  clear h
  have h:=h'
  clear h'
  simp only[Bool.and_eq_true] at hc
  obtain ⟨pk,zW,Ff⟩:=hc
  have hu:=JM ht
  have wz:=hk.Rc pk
  have K:=JJ pk
  obtain ⟨l,hl⟩:=Fc pk wz
  obtain ⟨zv,Rf,Rg⟩:=abm hz w
  cases mx<;>simp only at h<;>first|(cases h;done)|skip
  ·rename_i t' id
   obtain ⟨kg,h'⟩:=aH h
   clear h
   have h:=h'
   clear h'
   rw[Nat.beq_eq] at kg
   subst kg
   obtain ⟨l2,h'⟩:=run_get h
   clear h
   have h:=h'
   clear h'
   cases af:hp id with
   | none=>rw[af] at h;cases h
   | some blk=>
    rw[af] at h
    cases blk<;>simp only at h<;>first|(cases h;done)|skip
    rename_i t2 es
    obtain ⟨kg,h'⟩:=aH h
    clear h
    have h:=h'
    clear h'
    rw[Nat.beq_eq] at kg
    subst kg
    cases hm with
    | ig hd=>rw[af] at hd;cases hd
    | @bX _ _ b aQ hd hb=>
     rw[af] at hd
     cases hd
     have hr:=S.h.rel id _ af
     cases hr with
     | @map _ Rh Ri _ b' clock E gi ax hh hs hI hx hn=>
      rw[hb] at ax;cases ax
      rw[hu] at gi;cases gi
      rcases Q9 hs hx hn pk wz w with ⟨h1,_,h3,h4,_⟩|⟨j,e,k',y,h1,_,_,_,_,_,h6,h7,h3,h4,_⟩
      ·rw[h3,h4,zH Ff] at h
       refine JN S (jm.JL zW Ff Rg) ?_ h
       unfold Instr.lookup
       simp only[Sem.run_bind,run_underlying hu,Result.andThen_ok,Go.MapKept.run_getObj_map hh,Sem.run_pure,K.check w E.isEmpty hl,h1,Rf]
      ·rw[h3,h4,zH h6] at h
       refine JN S (jm.JL zW h6 h7) ?_ h
       unfold Instr.lookup
       simp only[Sem.run_bind,run_underlying hu,Result.andThen_ok,Go.MapKept.run_getObj_map hh,Sem.run_pure,K.check w E.isEmpty hl,h1]
  ·rename_i t'
   obtain ⟨kg,h⟩:=aH h
   cases hm
   rw[zH Ff] at h
   refine JN S (jm.JL zW Ff Rg) ?_ h
   have hf:(Instr.findKey kt k []).run P w= .ok none w:=by
    rcases K.find w hl [] (by simp) with ⟨h1,_⟩|⟨j,e,_,h2,_⟩
    ·exact h1
    ·simp at h2
   unfold Instr.lookup
   simp[run_underlying hu,K.check w true hl,hf,Rf]
theorem abo (S:aE P w I β hp B M w0) {t:TypeId} {nb:Nat} {r:R} {rd:List Nat} (h:(Rd.ay (ly P t).isSome (ji nb (.map t []) (.bX t nb) [])).run C hp=some (r,rd)):
  di P ((Instr.makeMap t none).run P w) w I β hp B M w0 r:=by
 obtain ⟨ht,h⟩:=aH h
 obtain ⟨hn,rfl⟩:=nA h
 obtain ⟨⟨kt,vt⟩,ht⟩:=Option.isSome_iff_exists.1 ht
 have hu:=JM ht
 have cW: ¬I w.heap.size:=fun h=>Nat.lt_irrefl _ (S.h.jC _ h)
 have fe:(w.alloc (.map #[] 0)).heap[w.heap.size]? =some (.map #[] 0):=heap_alloc_new w _
 obtain ⟨a1,a2⟩:=zC S (w':=w.alloc (.map #[] 0)) (blk:= .map t []) (b:=w.heap.size) hn (fun aA blk' h ho=>Nat.lt_irrefl _ (S.h.lt h ho)) cW
  (fun b' _ aX=>heap_alloc_old w _ b' aX) (by simp) ⟨rfl,rfl⟩ (.inr S.size) (fun b' h=>(Option.some.inj (h.flat (by simp))).symm)
  (fun _=> .map hu rfl fe rfl cW (fun j e x he _=>by simp at he) (by simp))
 exact ⟨_,_,_,_,Go.RowKit.run_makeMap t w,a1,a2,.bX (dc _ _ _) (dc _ _ _)⟩
theorem Rj (S:aE P w I β hp B M w0) {t kt vt:TypeId} (ht:ly P t=some (kt,vt)) {m k v:Value} {mx kx vx:V} {r:R} {rd:List Nat} (hm:ai P w I β hp m mx) (hk:ai P w I β hp k kx) (hv:ai P w I β hp v vx)
  (h:(En P t mx kx vx).run C hp=some (r,rd)):o8 P ((Instr.mapUpdate t m k v).run P w) w I β hp B M w0 r:=by
 unfold En at h
 rw[ht] at h
 obtain ⟨hc,h'⟩:=aH h
 clear h
 have h:=h'
 clear h'
 simp only[Bool.and_eq_true] at hc
 obtain ⟨pk,zW,tZ⟩:=hc
 have hu:=JM ht
 have wz:=hk.Rc pk
 have wc:=ai.abl zW tZ hv
 have K:=JJ pk
 obtain ⟨l,hl⟩:=Fc pk wz
 cases mx<;>simp only at h<;>first|(cases h;done)|skip
 rename_i t' id
 obtain ⟨kg,h'⟩:=aH h
 clear h
 have h:=h'
 clear h'
 rw[Nat.beq_eq] at kg
 subst kg
 obtain ⟨l2,h'⟩:=run_get h
 clear h
 have h:=h'
 clear h'
 cases af:hp id with
 | none=>rw[af] at h;cases h
 | some blk=>
  rw[af] at h
  cases blk<;>simp only at h<;>first|(cases h;done)|skip
  rename_i t2 es
  obtain ⟨kg,h'⟩:=aH h
  clear h
  have h:=h'
  clear h'
  rw[Nat.beq_eq] at kg
  subst kg
  obtain rfl:=aS h
  cases hm with
  | ig hd=>rw[af] at hd;cases hd
  | @bX _ _ b aQ hd hb=>
   rw[af] at hd
   cases hd
   have hr:=S.h.rel id _ af
   cases hr with
   | @map _ Rh Ri _ b' clock E gi ax hh hs hI hx hn=>
    rw[hb] at ax;cases ax
    rw[hu] at gi;cases gi
    have aX:b<w.heap.size:=(Array.getElem?_eq_some_iff.1 hh).1
    have fin: ∀(E':Array MapEntry) (zX:Nat),(Instr.mapUpdate t (.map (some b)) k v).run P w= .ok () {w with heap:=w.heap.setIfInBounds b (.map E' zX)}→E'.size=(fI kx vx es).length→
      (∀(j:Nat) (e:MapEntry) (x:V),E'[j]? =some e→(fI kx vx es)[j]? =some x→EA P kt vt e x)→E'.toList.Pairwise (fun a b=>a.key≠b.key)→
      o8 P ((Instr.mapUpdate t (.map (some b)) k v).run P w) w I β hp B M w0 ⟨.undef,[(id,.map t (fI kx vx es))]⟩:=by
     intro E' zX cX sH cH zY
     have fe:({w with heap:=w.heap.setIfInBounds b (.map E' zX)}:World).heap[b]? =some (.map E' zX):=by simp[aX]
     obtain ⟨a1,a2⟩:=EJ S (w':={w with heap:=w.heap.setIfInBounds b (.map E' zX)}) (blk':= .map t (fI kx vx es)) af (by simp) rfl hb hI (by simp)
      (fun b' ax=>by simp[Array.getElem?_setIfInBounds,Ne.symm ax]) (by simp only[bsize,fe,hh]) (by simp) ⟨rfl,rfl⟩ (fun _=> .map hu rfl fe sH hI cH zY)
     exact ⟨_,I,β,cX,a1,a2,rfl⟩
    rcases Q9 hs hx hn pk wz w with ⟨h1,h2,_,_,h5⟩|⟨j,e,k',y,h1,hE,Rk,hes,abp,abq,_,_,_,_,h5⟩
    ·have e5:=h5 vx
     refine fin (E.push {key:=k,val:=v,born:=clock}) (clock+1) ?_ (by rw[e5];simp[hs]) (fun j e x he qn=> ?_) ?_
     ·unfold Instr.mapUpdate
      simp only[Sem.run_bind,run_underlying hu,Result.andThen_ok,Go.MapKept.run_getObj_map hh,K.check w false hl,h1,Go.MapKept.run_setObj_map _ hh]
     ·rw[e5] at qn
      rw[Array.getElem?_push] at he
      split at he
      ·rename_i hj
       rw[List.getElem?_append_right (by omega),hj,hs,Nat.sub_self] at qn
       simp at he qn
       subst he;subst qn
       exact ⟨kx,vx,rfl,pk,wz,tZ,wc⟩
      ·have hj:j<E.size:=(Array.getElem?_eq_some_iff.1 he).1
       rw[List.getElem?_append_left (by omega)] at qn
       exact hx j e x he qn
     ·rw[Array.toList_push,List.pairwise_append]
      refine ⟨hn,by simp,fun a ha b' ax=> ?_⟩
      simp only[List.mem_singleton] at ax
      subst ax
      exact h2 a ha
    ·have e5:=h5 vx
     have hj:j<E.size:=(Array.getElem?_eq_some_iff.1 hE).1
     refine fin (E.modify j fun e=>{e with key:=k,val:=v}) clock ?_ (by rw[e5];simp[hs]) (fun i e' x he gI=> ?_) ?_
     ·have cK:=K.stays w hl
      unfold Instr.mapUpdate
      simp only[Sem.run_bind,run_underlying hu,Result.andThen_ok,Go.MapKept.run_getObj_map hh,K.check w false hl,h1]
      simp only[hE,Option.map_some,Option.getD_some,Rk,cK,Result.andThen_ok,Go.MapKept.run_setObj_map _ hh]
     ·rw[e5] at gI
      rw[Array.getElem?_modify] at he
      rw[List.getElem?_set] at gI
      split at he
      ·rename_i ua
       subst ua
       rw[if_pos rfl,if_pos (by omega)] at gI
       rw[hE] at he
       simp at he gI
       subst he;subst gI
       exact ⟨k',vx,rfl,abp,abq,tZ,wc⟩
      ·rename_i ua
       rw[if_neg ua] at gI
       exact hx i e' x he gI
     ·have Rl: ∀i (h1:i<(E.modify j fun e=>{e with key:=k,val:=v}).toList.length) (h2:i<E.toList.length),((E.modify j fun e=>{e with key:=k,val:=v}).toList[i]).key=(E.toList[i]).key:=by
       intro i h1 h2
       simp only[Array.getElem_toList,Array.getElem_modify]
       split
       ·rename_i ua
        subst ua
        have:=(Array.getElem?_eq_some_iff.1 hE).2
        rw[this,Rk]
       ·rfl
      rw[List.pairwise_iff_getElem] at hn⊢
      intro i i' h1 h2 iM
      have g1:i<E.toList.length:=by simpa using h1
      have g2:i'<E.toList.length:=by simpa using h2
      rw[Rl i h1 g1,Rl i' h2 g2]
      exact hn i i' g1 g2 iM
theorem abr (S:aE P w I β hp B M w0) {t ty kt vt:TypeId} {v:Value} {x:V} {r:R} {rd:List Nat} (hu:P.underlying t=some (.map kt vt)) (hv:ai P w I β hp v x)
  (h:(Eo x).run C hp=some (r,rd)):di P ((Builtin.len_ #[t] ty #[v]).run P w) w I β hp B M w0 r:=by
 unfold Eo at h
 cases x<;>simp only at h<;>first|(cases h;done)|skip
 ·rename_i t' id
  obtain ⟨l2,h'⟩:=run_get h
  clear h
  have h:=h'
  clear h'
  cases af:hp id with
  | none=>rw[af] at h;cases h
  | some blk=>
   rw[af] at h
   cases blk<;>simp only at h<;>first|(cases h;done)|skip
   rename_i t2 es
   obtain rfl:=aS h
   cases hv with
   | ig hd=>rw[af] at hd;cases hd
   | @bX _ _ b aQ hd hb=>
    rw[af] at hd
    cases hd
    have hr:=S.h.rel id _ af
    cases hr with
    | @map _ Rh Ri _ b' clock E gi ax hh hs hI hx hn=>
     rw[hb] at ax;cases ax
     refine .same S (v:= .int .i64 E.size) (by simp[Builtin.len_,run_underlying hu,Go.MapKept.run_getObj_map hh,goInt]) ?_
     rw[hs]
     exact .int
 ·obtain rfl:=aS h
  cases hv
  exact .same S (v:= .int .i64 0) (by simp[Builtin.len_,run_underlying hu,goInt]) .int
theorem ai.JO {v:Value} {t:TypeId} (h:ai P w I β hp v (.dO t)):v= .map none:=by cases h;rfl
theorem ai.abt {v:Value} {t t':TypeId} {id:Nat} {es:List V} (h:ai P w I β hp v (.bX t id)) (af:hp id=some (.map t' es)): ∃b,v= .map (some b):=by
 cases h with
 | ig h=>rw[af] at h;cases h
 | bX h hb=>exact ⟨_,rfl⟩
theorem Rm (S:aE P w I β hp B M w0) {op:BinOp} {t:TypeId} {a:Option Nat} {r:R} {rd:List Nat} (x y:Operand)
  (h:(Ei P op t a.isNone).run C hp=some (r,rd)):di P ((do eqGuard op t x y (.map a) (.map none);binOp op t (.map a) (.map none)).run P w) w I β hp B M w0 r:=by
 unfold Ei at h
 split at h
 case h_2=>cases h
 rename_i kt vt hu
 have he:(Op.equal t (.map a) (.map none)).run P w= .ok a.isNone w:=by
  show (Op.equalIn (9999+1) t (.map a) (.map none)).run P w=_
  rw[Op.equalIn]
  cases a<;>simp[Sem.run_bind,run_underlying hu,Result.andThen_ok,Sem.run_pure]
 cases op<;>simp only at h<;>first|(cases h;done)|skip
 ·obtain rfl:=aS h
  exact .same S (by simp[eqGuard,binOp,he]) .bool
 ·obtain rfl:=aS h
  exact .same S (by simp[eqGuard,binOp,he]) .bool
end
end Go.AM
namespace Go.AM
section
variable {P:Program} {w w':World} {I I':Nat→Prop} {β au:Nat→Option Nat} {hp hp':Nat→Option ah} {C:ae} {B:Nat} {M:Nat→Prop} {w0:Start}
theorem abu {e:TypeId} (he:P.underlying e=some (.int .u8)) (hc:P.cellsOf e=1) (s:ByteArray): ∀(i j:Nat) (x:V) (t':TypeId),(s.data.toList.map zi)[i]? =some x→(aY P e)[j]? =some t'→j<P.cellsOf e→
  ∃u,(Lib.strCells s)[i*P.cellsOf e+j]? =some u∧Pure P w I t' u (bN P e x j):=by
 intro i j x t' hx ht hj
 have nC:bG P e=false:=by simp[bG,he]
 obtain rfl:j=0:=by omega
 simp only[aY,nC,cond_false,List.getElem?_cons_zero,Option.some.injEq] at ht
 subst ht
 rw[List.getElem?_map] at hx
 cases hb:s.data.toList[i]? with
 | none=>rw[hb] at hx;cases hx
 | some b=>
  rw[hb] at hx
  cases hx
  refine ⟨.int .u8 b.toNat,?_,?_⟩
  ·rw[hc,Nat.mul_one,Nat.add_zero]
   simp only[Lib.strCells,List.getElem?_map,hb,Option.map_some]
  ·simp only[bN,nC,cond_false]
   exact .int he
theorem abv (w:World) (t u ty e:TypeId) (i:TypeInfo) (z:Value) (ht:P.underlying t=some (.slice e)) (hu:P.underlying u=some .string) (hi:P.info? e=some i) (hz:i.zero=some z)
  (s:ByteArray) (h0:0<s.size) (E7:(s.size:Int)≤9223372036854775807) (E8:s.size*i.bytes≤281474976710656) (a0:Option Addr):
  (Builtin.append_ #[t,u] ty #[.slice a0 0 0,.string s]).run P w=
   .ok (.slice (some ⟨w.heap.size,0,none⟩) s.size (grownCap w s.size 0 e))
    (w.drew.alloc (.cells (s.data.map (fun b=>Value.int .u8 b.toNat)++Builtin.zeroCells z.cells (grownCap w s.size 0 e-s.size)) e)):=by
 cases a0 with
 | none=>exact run_append_nil_string w t u ty e i z ht hu hi hz s h0 E7 E8
 | some b=>
  rw[←run_append_nil_string w t u ty e i z ht hu hi hz s h0 E7 E8]
  have hn:s.size≠0:=by omega
  have abw: ¬(9223372036854775807<(s.size:Int)):=by omega
  have abx: ¬(281474976710656<Builtin.nextslicecap s.size 0*i.bytes):=by rw[nextslicecap_zero h0];omega
  simp[Builtin.append_,run_underlying ht,run_underlying hu,sizeOf,typeInfo,zeroValue,hi,hz,Builtin.lenOf,Builtin.firstCells,hn,abw,abx,Question.forced,newRow,grownCap,loadCells,loadCellsFrom]
theorem Rn (S:aE P w I β hp B M w0) {t u ty e:TypeId} {nb:Nat} {x:ByteArray} {xs:List V} {i:TypeInfo} {z:Value} (hu:P.underlying t=some (.slice e)) (oq:P.underlying u=some .string) (aw:c9 P e=true) (hn:hp nb=none)
 (hi:P.info? e=some i) (hz:i.zero=some z) (h3:i.size=P.cellsOf e) (h4:z.cells.size=P.cellsOf e) (wA:i.size=1) (mC:P.bytesOf e=i.bytes) (eT:xs.length*P.bytesOf e≤cg) (jI:xs.length=x.size) (mA:(Lib.strCells x).length=x.size)
 (da: ∀(i j:Nat) (y:V) (t':TypeId),xs[i]? =some y→(aY P e)[j]? =some t'→j<P.cellsOf e→∃u,(Lib.strCells x)[i*P.cellsOf e+j]? =some u∧Pure P w I t' u (bN P e y j)):
 ∀a0,∃v w' au,(Builtin.append_ #[t,u] ty #[.slice a0 0 0,.string x]).run P w= .ok v w'∧Le P w I β hp w' I au (aK hp nb (some (.arr e xs false)))∧aE P w' I au (aK hp nb (some (.arr e xs false))) B M w0∧
  ai P w' I au (aK hp nb (some (.arr e xs false))) v (.whole e nb):=by
 intro a0
 have tW:=vX aw
 have hlen:xs.length≤2^45:=by
  have:xs.length*1≤xs.length*P.bytesOf e:=Nat.mul_le_mul_left _ tW
  simp only[cg] at eT
  omega
 by_cases h0:x.size=0
 ·have gL:xs=[]:=List.eq_nil_of_length_eq_zero (by omega)
  subst gL
  obtain ⟨a1,a2⟩:=EH S e hn
  have hf:=Lib.run_firstCells_string (P:=P) w 1 x
  rw[h0] at hf
  have qs:Lib.strCells x=[]:=List.eq_nil_of_length_eq_zero (by omega)
  exact ⟨.slice a0 0 0,_,_,by cases a0<;>simp[storeCells,qs,Builtin.append_,run_underlying hu,run_underlying oq,sizeOf,typeInfo,hi,wA,Builtin.lenOf,h0,hf],a1,a2,.dZ (dc _ _ _) (dc _ _ _)⟩
 ·have cX:=abv (P:=P) w t u ty e i z hu oq hi hz x (by omega) (by omega) (by rw[←mC,←jI];simp only[cg] at eT;omega) a0
  have e1:(x.data.map fun b=>Value.int .u8 b.toNat)=(Lib.strCells x).toArray:=by
   apply Array.ext'
   simp[Lib.strCells]
  rw[e1,←jI] at cX
  have pe:=grownCap_ge w xs.length 0 e
  have tX:grownCap w xs.length 0 e≤maxLen:=grownCap_le_maxLen w xs.length 0 e (by simp only[maxLen];omega)
  obtain ⟨n1,n2,n3⟩:=wv S.drew (nb:=nb) (cap:=grownCap w xs.length 0 e) (es:=xs) (C0:=(Lib.strCells x).toArray++Builtin.zeroCells z.cells (grownCap w xs.length 0 e-xs.length)) aw hn
   (by
    have:(Lib.strCells x).length=xs.length*P.cellsOf e:=by rw[mA,jI,←h3,wA,Nat.mul_one]
    simp only[Array.size_append,List.size_toArray,size_zeroCells,h4,this,←Nat.add_mul];congr 1;omega) pe tX
   (fun i' j y t' hy ht hj=>by
    obtain ⟨u,gi,hp⟩:=da i' j y t' hy ht hj
    have aX:=(List.getElem?_eq_some_iff.1 gi).1
    refine ⟨u,?_,Pure.drew hp⟩
    rw[Array.getElem?_append_left (by simpa using aX)]
    simpa using gi)
  exact ⟨_,_,_,cX,(Le.drew w I β hp).trans n1,n2,n3⟩
theorem aby (S:aE P w I β hp B M w0) {t u ty e:TypeId} {nb:Nat} {s:Value} {sv:V} {x:ByteArray} {r:R} {rd:List Nat} (hu:P.underlying t=some (.slice e)) (oq:P.underlying u=some .string) (he:P.underlying e=some (.int .u8)) (hs:ai P w I β hp s sv)
  (h:(vM P nb e sv (.list e (x.data.toList.map zi))).run C hp=some (r,rd)):di P ((Builtin.append_ #[t,u] ty #[s,.string x]).run P w) w I β hp B M w0 r:=by
 unfold vM at h
 obtain ⟨aw,h⟩:=aH h
 simp only[si] at h
 obtain ⟨_,h⟩:=aH h
 have nC:bG P e=false:=by simp[bG,he]
 have ed:P.cellsOf e=1:=by rw[←(kf aw).1,zx nC];rfl
 obtain ⟨i,z,hi,hz,h3,h4,_⟩:=kh aw
 have wA:i.size=1:=by rw[h3,ed]
 have tW:=vX aw
 have mC:P.bytesOf e=i.bytes:=by simp[Program.bytesOf,hi]
 have Fg:=abu (P:=P) (w:=w) (I:=I) he ed x
 have jI:(x.data.toList.map zi).length=x.size:=by simp
 have mA:(Lib.strCells x).length=x.size:=Lib.strCells_length x
 have h1:=Lib.strCells_oneCell x
 generalize gL:x.data.toList.map zi=xs at*
 cases sv with
 | nilS e'=>
  obtain ⟨hc,h⟩:=aH h
  simp only[Bool.and_eq_true,Nat.beq_eq,Nat.ble_eq] at hc
  obtain ⟨hn,rfl⟩:=nA h
  obtain ⟨a0,rfl⟩: ∃a0,s= .slice a0 0 0:=by cases hs;exact ⟨_,rfl⟩
  obtain ⟨v,w',au,a1,a2,a3,a4⟩:=Rn S hu oq aw hn hi hz h3 h4 wA mC hc.2 jI mA Fg _
  exact ⟨v,w',I,au,a1,a2,a3,a4⟩
 | whole e' id=>
  obtain ⟨l,h⟩:=run_get h
  cases af:hp id with
  | none=>rw[af] at h;cases h
  | some blk=>
   rw[af] at h
   cases blk with
   | dead=>cases h
   | var _=>cases h
   | nest _ _ _=>cases h
   | map _ _=>cases h
   | arr dX es fz=>
    cases fz with
    | true=>cases h
    | false=>
     obtain ⟨hc,h⟩:=aH h
     obtain ⟨hn,rfl⟩:=nA h
     simp only[Bool.and_eq_true,Nat.beq_eq,Nat.ble_eq] at hc
     obtain ⟨Jz,JA,eT⟩:=hc
     subst Jz
     subst JA
     have bP:nb≠id:=fun e=>by rw[e,af] at hn;cases hn
     obtain ⟨k1,k2⟩:=EI S af
     have ki:aK hp id (some ah.dead) nb=none:=by rw[eF _ _ bP];exact hn
     cases hs with
     | eD hd=>rw[af] at hd;cases hd
     | eL hd=>rw[af] at hd;cases hd
     | dZ hd hb=>
      rw[af] at hd
      cases hd
      simp only[List.length_nil,Nat.zero_add] at eT
      obtain ⟨v,w',au,a1,a2,a3,a4⟩:=Rn k2 hu oq aw ki hi hz h3 h4 wA mC eT jI mA Fg _
      exact ⟨v,w',I,au,a1,k1.trans a2,a3,a4⟩
     | @whole _ _ aQ np b cap hd hb a8 cj hm=>
      rw[af] at hd
      cases hd
      have hr:=S.h.rel id _ af
      cases hr with
      | eb ax=>rw[ax] at hb;cases hb
      | @arr _ _ _ b' Ca _ ax hh pg hf eE mD=>
       rw[hb] at ax
       cases ax
       have hlen:es.length+xs.length≤2^45:=by
        have:(es.length+xs.length)*1≤(es.length+xs.length)*P.bytesOf e:=Nat.mul_le_mul_left _ tW
        simp only[cg] at eT
        omega
       rw[nt hh] at a8
       have ql: ∀aA blk',aK hp id (some ah.dead) aA=some blk'→¬bw P w (β aA) blk' b:=by
        intro aA blk' h1 h2
        by_cases iM:aA=id
        ·subst iM;rw[dc] at h1;cases h1;exact h2.alive rfl
        ·rw[eF _ _ iM] at h1
         exact iM (S.h.inj aA id blk' _ b h1 af h2 (.root (by simp) hb))
       have JB:=S.h.sw id _ b af (by simp) hb
       have lF:es.length*P.cellsOf e≤Ca.toList.length:=by simpa using pg
       have Ro:(Lib.strCells x).length=xs.length*P.cellsOf e:=by rw[mA,jI,ed,Nat.mul_one]
       by_cases sG:es.length+xs.length≤cap
       ·have zS:es.length*P.cellsOf e+(Lib.strCells x).length≤Ca.size:=by rw[Ro,←Nat.add_mul,←a8];exact Nat.mul_le_mul_right _ sG
        have cX:=Lib.run_append_room_string (P:=P) w t u ty e i hu oq hi wA b es.length cap Ca hh x (by rw[←jI];exact sG) (by rw[←mA];rw[ed,Nat.mul_one] at zS;exact zS)
        have da:=E5 (P:=P) (w:=w) (I:=I) (n:=es.length) (c:=Ca.toList) rfl (fun i j y t' a b c=>by
         obtain ⟨v,hv,hp⟩:=mD i j y t' a b c
         exact ⟨v,by simpa using hv,hp⟩) Fg lF (Ca.toList.drop (es.length*P.cellsOf e+(Lib.strCells x).length))
        generalize wm:(Ca.toList.take es.length++Lib.strCells x++Ca.toList.drop (es.length+x.size)).toArray=C' at cX
        have om:C'.size=Ca.size:=by
         rw[ed,Nat.mul_one] at zS
         rw[←wm];simp;omega
        have Rp:(w.setRow b C').heap[b]? =some (.cells C' e (0,0)):=setRow_heap w b Ca C' e _ hh
        obtain ⟨a1,a2⟩:=zC k2 (blk:= .arr e (es++xs) false) (w':=w.setRow b C') ki ql (eE rfl) (fun b' h _=>setRow_other w b b' _ h) (by simp) ⟨rfl,rfl⟩ JB
         (fun b' h=>(Option.some.inj (h.flat (by simp))).symm) (fun hle=> .arr aw rfl Rp (by rw[om,←a8];exact Nat.mul_le_mul_right _ (by simpa using sG)) (fun h=>by cases h) (fun _=>eE rfl) fun i j y t' a b c=>by
          obtain ⟨v,hv,hp⟩:=da i j y t' a b c
          refine ⟨v,?_,hp.mono hle.dE hle.cp⟩
          rw[←wm,List.getElem?_toArray]
          rw[ed] at hv⊢
          simpa[mA] using hv)
        refine ⟨_,_,_,_,cX,k1.trans a1,a2,?_⟩
        have a3:=ai.whole (P:=P) (w:=w.setRow b C') (I:=I) (β:=aK β nb (some b)) (hp:=aK (aK hp id (some .dead)) nb (some (.arr e (es++xs) false))) (cap:=cap) (b:=b) (es:=es++xs) (fz:=false) (id:=nb) (e:=e) (dc _ _ _) (dc _ _ _) (by rw[nt Rp,om,a8]) (by simpa using sG) hm
        rw[List.length_append,jI] at a3
        exact a3
       ·have hold: ∀(j:Nat) v,(Ca.toList.take (es.length*P.cellsOf e))[j]? =some v→w.cell? ((⟨b,0,none⟩:Addr).add j)=some v:=by
         intro j v hj
         have dd:=(List.getElem?_eq_some_iff.1 hj).1
         have b8:j<es.length*P.cellsOf e:=by rw[List.length_take] at dd;omega
         rw[List.getElem?_take_of_lt b8] at hj
         rw[nw,cell?_cells hh,Nat.zero_add]
         simpa using hj
        have cX:=Lib.run_append_grow_string (P:=P) w t u ty e i z hu oq hi hz ⟨b,0,none⟩ es.length cap (Ca.toList.take (es.length*P.cellsOf e)) (by rw[h3];simp;omega) hold x (by omega) (by omega)
         (growslice_fits (by omega) (by rw[←mC,←jI];simp only[cg] at eT;omega))
        rw[←jI] at cX
        have pe:=grownCap_ge w (es.length+xs.length) cap e
        have tX:grownCap w (es.length+xs.length) cap e≤maxLen:=grownCap_le_maxLen w _ cap e (by simp only[maxLen];omega)
        have da:=E5 (P:=P) (w:=w) (I:=I) (n:=es.length) (c:=Ca.toList) rfl (fun i j y t' a b c=>by
         obtain ⟨v,hv,hp⟩:=mD i j y t' a b c
         exact ⟨v,by simpa using hv,hp⟩) Fg lF (Builtin.zeroCells z.cells (grownCap w (es.length+xs.length) cap e-(es.length+xs.length))).toList
        obtain ⟨n1,n2,n3⟩:=wv k2.drew (nb:=nb) (cap:=grownCap w (es.length+xs.length) cap e) (es:=es++xs)
         (C0:=(Ca.toList.take (es.length*P.cellsOf e)).toArray++(Lib.strCells x).toArray++Builtin.zeroCells z.cells (grownCap w (es.length+xs.length) cap e-(es.length+xs.length))) aw ki
         (by
          have e1:(Ca.toList.take (es.length*P.cellsOf e)).length=es.length*P.cellsOf e:=by simp;omega
          simp only[Array.size_append,List.size_toArray,size_zeroCells,h4,Ro,e1,←Nat.add_mul];congr 1;omega) (by simpa using pe) tX
         (fun i j y t' a b c=>by
          obtain ⟨v,hv,hp⟩:=da i j y t' a b c
          refine ⟨v,?_,Pure.drew hp⟩
          rw[←Array.getElem?_toList]
          simpa using hv)
        rw[List.length_append] at n3
        exact ⟨_,_,_,_,cX,(k1.trans (Le.drew w I β _)).trans n1,n2,n3⟩
 | _=>cases h
end
section
variable {P:Program} {w w':World} {I I':Nat→Prop} {β au:Nat→Option Nat} {hp hp':Nat→Option ah} {C:ae} {B:Nat} {M:Nat→Prop} {w0:Start}
theorem Rq: ∀(ns:List Int) (s:ByteArray),(ns.foldl (fun r n=>r.push (UInt8.ofNat n.toNat)) s).data.toList=s.data.toList++ns.map fun n=>UInt8.ofNat n.toNat
 | [],s=>by simp
 | n::ns,s=>by
  simp only[List.foldl_cons,Rq ns,List.map_cons]
  simp[ByteArray.push]
theorem Rr {e:TypeId} {u:Value} {x:V} (he:P.underlying e=some (.int .u8)) (hp:Pure P w I e u x):u= .int .u8 x.toInt:=by
 cases hp with
 | int hp'=>rw[he] at hp';cases hp';rfl
 | bool hp'=>rw[he] at hp';cases hp'
 | str hp'=>rw[he] at hp';cases hp'
 | nil hp'=>rw[he] at hp';cases hp'
 | emp hp'=>rw[he] at hp';cases hp'
 | list _ hp'=>rw[he] at hp';cases hp'
theorem abz (S:aE P w I β hp B M w0) {src dst e:TypeId} {v:Value} {x:V} {r:R} {rd:List Nat} (hs:P.underlying src=some (.slice e)) (he:P.underlying e=some (.int .u8)) (hd:P.underlying dst=some .string)
  (hv:ai P w I β hp v x) (h:(Rd.ay (c9 P e) (si e x fun es=> .ret ⟨.str (kA es),[]⟩)).run C hp=some (r,rd)):di P ((convert src dst v).run P w) w I β hp B M w0 r:=by
 obtain ⟨aw,h⟩:=aH h
 obtain ⟨xs,hx,l,h⟩:=E4 S.h.rel aw hv h
 obtain rfl:=aS h
 have nC:bG P e=false:=by simp[bG,he]
 have h1:P.cellsOf e=1:=by rw[←(kf aw).1,zx nC];rfl
 rcases hx with ⟨⟨a,rfl⟩,rfl⟩|⟨a,c,news,hr⟩
 ·refine .same S (v:= .string .empty) ?_ (.str (by simp[kA]))
  rw[run_convert_bytes_string w src dst e a 0 0 hs he hd]
  cases a<;>simp[Conv.bytesToString,loadCells,loadCellsFrom]
 ·have E6:news=(xs.map V.toInt).map (Value.int .u8):=by
   apply List.ext_getElem?
   intro j
   by_cases hj:j<xs.length
   ·obtain ⟨u,hu,hp⟩:=hr.el j 0 xs[j] e (List.getElem?_eq_getElem hj) (by simp[aY,nC]) (by omega)
    rw[h1] at hu
    simp only[bN,nC,cond_false] at hp
    have gi:news[j]? =some u:=by simpa using hu
    rw[gi]
    have:=Rr he hp
    simp[hj,←this]
   ·have hl:news.length=xs.length:=by rw[hr.len,h1];simp
    rw[List.getElem?_eq_none (by omega),List.getElem?_eq_none (by simp;omega)]
  have JP:=run_loadCells_list (P:=P) w a news hr.cell
  have hl:news.length=xs.length:=by rw[hr.len,h1];simp
  rw[hl] at JP
  rw[E6] at JP
  refine .same S (v:= .string ((xs.map V.toInt).foldl (fun r n=>r.push (UInt8.ofNat n.toNat)) ByteArray.empty)) ?_ (.str ?_)
  ·rw[hr.val,run_convert_bytes_string w src dst e _ _ _ hs he hd]
   exact run_bytesToString w a xs.length c (xs.map V.toInt) JP
  ·rw[Rq]
   simp[kA]
theorem ai.Fh {v:Value} (h:ai P w I β hp v .dN):v= .pointer none:=by cases h;rfl
section
variable (w:World)
theorem abA (t e:TypeId) (a:Addr) (h:P.underlying t=some (.pointer e)):(binOp .eql t (.pointer (some a)) (.pointer none)).run P w= .ok (.bool false) w:=by
 have h0: ∀d:Nat,(Op.equalIn (d+1) t (.pointer (some a)) (.pointer none)).run P w= .ok false w:=fun d=>by simp[Op.equalIn,run_underlying h]
 simp only[binOp]
 simp[Op.equal,Op.maxDepth,h0 9999]
theorem abB (t e:TypeId) (a:Addr) (h:P.underlying t=some (.pointer e)):(binOp .neq t (.pointer (some a)) (.pointer none)).run P w= .ok (.bool (!false)) w:=by
 have h0: ∀d:Nat,(Op.equalIn (d+1) t (.pointer (some a)) (.pointer none)).run P w= .ok false w:=fun d=>by simp[Op.equalIn,run_underlying h]
 simp only[binOp]
 simp[Op.equal,Op.maxDepth,h0 9999]
theorem abC (t e:TypeId) (a:Addr) (h:P.underlying t=some (.pointer e)):(binOp .eql t (.pointer none) (.pointer (some a))).run P w= .ok (.bool false) w:=by
 have h0: ∀d:Nat,(Op.equalIn (d+1) t (.pointer none) (.pointer (some a))).run P w= .ok false w:=fun d=>by simp[Op.equalIn,run_underlying h]
 simp only[binOp]
 simp[Op.equal,Op.maxDepth,h0 9999]
theorem abD (t e:TypeId) (a:Addr) (h:P.underlying t=some (.pointer e)):(binOp .neq t (.pointer none) (.pointer (some a))).run P w= .ok (.bool (!false)) w:=by
 have h0: ∀d:Nat,(Op.equalIn (d+1) t (.pointer none) (.pointer (some a))).run P w= .ok false w:=fun d=>by simp[Op.equalIn,run_underlying h]
 simp only[binOp]
 simp[Op.equal,Op.maxDepth,h0 9999]
theorem abE (t e:TypeId) (h:P.underlying t=some (.pointer e)):(binOp .eql t (.pointer none) (.pointer none)).run P w= .ok (.bool true) w:=by
 have h0: ∀d:Nat,(Op.equalIn (d+1) t (.pointer none) (.pointer none)).run P w= .ok true w:=fun d=>by simp[Op.equalIn,run_underlying h]
 simp only[binOp]
 simp[Op.equal,Op.maxDepth,h0 9999]
theorem abF (t e:TypeId) (h:P.underlying t=some (.pointer e)):(binOp .neq t (.pointer none) (.pointer none)).run P w= .ok (.bool (!true)) w:=by
 have h0: ∀d:Nat,(Op.equalIn (d+1) t (.pointer none) (.pointer none)).run P w= .ok true w:=fun d=>by simp[Op.equalIn,run_underlying h]
 simp only[binOp]
 simp[Op.equal,Op.maxDepth,h0 9999]
end
theorem Fi (S:aE P w I β hp B M w0) {op:BinOp} {t:TypeId} {b:Bool} {x y:Operand} {v1 v2:Value} {r:R} {rd:List Nat} (h:(ptrEq P op t b).run C hp=some (r,rd)) (hg:(eqGuard op t x y v1 v2).run P w= .ok () w)
  (he: ∀e j,P.underlying t=some (.pointer e)→P.info? e=some j→(binOp .eql t v1 v2).run P w= .ok (.bool b) w∧(binOp .neq t v1 v2).run P w= .ok (.bool (!b)) w):
  di P ((do eqGuard op t x y v1 v2;binOp op t v1 v2:Sem Value).run P w) w I β hp B M w0 r:=by
 unfold ptrEq at h
 cases hu:P.underlying t with
 | none=>rw[hu] at h;cases h
 | some d=>
  rw[hu] at h
  cases d<;>simp only at h<;>first|(cases h;done)|skip
  rename_i e
  obtain ⟨h1,h2⟩:=aH h
  obtain ⟨j,hj⟩:=Option.isSome_iff_exists.1 h1
  obtain ⟨k1,k2⟩:=he e j hu hj
  cases op<;>simp only at h2<;>first|(cases h2;done)|skip
  ·obtain rfl:=aS h2
   exact .same S (by simp only[Sem.run_bind,hg,Result.andThen_ok,k1]) .bool
  ·obtain rfl:=aS h2
   exact .same S (by simp only[Sem.run_bind,hg,Result.andThen_ok,k2]) .bool
theorem abG {b n:Nat}:(∀b',b'≠b→(w.freeze ⟨b,0,none⟩ n).heap[b']? =w.heap[b']?)∧bsize (w.freeze ⟨b,0,none⟩ n) b=bsize w b∧w.heap.size≤(w.freeze ⟨b,0,none⟩ n).heap.size∧(w.freeze ⟨b,0,none⟩ n).os=w.os∧(w.freeze ⟨b,0,none⟩ n).output=w.output:=by
 unfold World.freeze
 split
 ·exact ⟨fun _ _=>rfl,rfl,Nat.le_refl _,rfl,rfl⟩
 ·refine ⟨fun b' hb=> ?_,?_,by simp,rfl,rfl⟩
  ·simp only[Array.getElem?_modify]
   rw[if_neg (fun e=>hb e.symm)]
  ·simp only[bsize,Array.getElem?_modify,if_true]
   cases w.heap[b]? with
   | none=>rfl
   | some o=>cases o<;>rfl
theorem abH {e:TypeId} (hb:isByte P e=true):P.underlying e=some (.int .u8):=by
 unfold isByte at hb
 split at hb
 ·assumption
 ·cases hb
theorem abI (S:aE P w I β hp B M w0) {ts:Array TypeId} {ty e:TypeId} {v:Value} {id:Nat} {es:List V} {fz:Bool} (hv:ai P w I β hp v (.whole e id)) (af:hp id=some (.arr e es fz)) (h0:0<es.length):
  di P ((Builtin.unsafeSliceData_ ts ty #[v]).run P w) w I β hp B M w0 ⟨.ptr id 0 0,[]⟩:=by
 cases hv with
 | eD h=>rw[af] at h;cases h
 | dZ h _=>rw[af] at h;cases h;simp at h0
 | eL h _ _ _ _=>rw[af] at h;cases h
 | @whole _ _ aQ np b cap h hb cj hle hm=>
  rw[af] at h;cases h
  refine .same S (Lib.run_unsafeSliceData_row w ts ty ⟨b,0,none⟩ es.length cap (by omega)) ?_
  have:=ai.ptr (P:=P) (w:=w) (I:=I) (β:=β) (i:=0) (c:=0) af (by simp) hb
  simpa using this
theorem abJ (S:aE P w I β hp B M w0) {t u ty e:TypeId} {vx:Value} {id:Nat} {n:Int} {es:List V} (hu:P.underlying t=some (.pointer e)) (hb:isByte P e=true) (hv:ai P w I β hp vx (.ptr id 0 0))
  (af:hp id=some (.arr e es false)) (h0:0<n) (hn:n≤es.length) (hm:n.toNat≤mj) (fo:(es.take n.toNat).all IK=true):di P ((Builtin.unsafeString_ #[t,u] ty #[vx,.int .i64 n]).run P w) w I β hp B M w0 ⟨.str (kA (es.take n.toNat)),[(id,.dead)]⟩:=by
 obtain ⟨b,JQ,rfl⟩:=hv.gU af (by simp)
 have he:P.underlying e=some (.int .u8):=by
  unfold isByte at hb
  split at hb
  ·assumption
  ·cases hb
 have nC:bG P e=false:=by simp[bG,he]
 have hr:=S.h.rel id _ af
 rw[JQ] at hr
 cases hr with
 | eb ax=>cases ax
 | @arr _ _ _ b1 Ca aw lF hh hs hI cW da=>
  cases lF
  have h1:P.cellsOf e=1:=by rw[←(kf aw).1,zx nC];rfl
  have aX:=S.aak af (by simp) JQ
  have hl:(kA (es.take n.toNat)).length=n.toNat:=by simp[kA];omega
  have zY:n=((kA (es.take n.toNat)).length:Nat):=by rw[hl];omega
  have cX:=Lib.run_unsafeString_row (P:=P) w t u ty e hu h1 b Ca.size (by simp[World.shape?,hh]) (kA (es.take n.toNat)) (fun h=>by rw[h] at hl;simp at hl;omega) (by rw[hl];rw[h1] at hs;omega) (by rw[hl];unfold mj at hm;omega) (fun j x hx=>by
   have hj:j<n.toNat:=by
    have:=(List.getElem?_eq_some_iff.1 hx).1
    rw[hl] at this;exact this
   have ij:j<es.length:=by omega
   simp only[kA,List.getElem?_map,List.getElem?_take_of_lt hj,List.getElem?_eq_getElem ij,Option.map_some,Option.some.injEq] at hx
   obtain ⟨v,wx,br⟩:=da j 0 es[j] e (List.getElem?_eq_getElem ij) (by simp[aY,nC]) (by omega)
   rw[h1] at wx
   simp only[bN,nC,cond_false] at br
   have:=Rr he br
   have hr:=List.all_eq_true.1 fo es[j] (List.mem_of_getElem? (by rw[List.getElem?_take_of_lt hj];exact List.getElem?_eq_getElem ij))
   simp only[IK,Bool.and_eq_true,decide_eq_true_eq] at hr
   have nz:(x.toNat:Int)=es[j].toInt:=by
    rw[←hx]
    have:es[j].toInt.toNat<256:=by omega
    simp only[UInt8.toNat_ofNat']
    omega
   rw[nw,cell?_cells hh,nz]
   rw[show 0+j=j*1+0 by omega,wx,this])
  obtain ⟨f1,f2,f3,f4,f5⟩:=abG (w:=w) (b:=b) (n:=n.toNat)
  obtain ⟨k1,k2⟩:=EJ (w':=w.freeze ⟨b,0,none⟩ n.toNat) S af (by simp) (blk':= .dead) (by trivial) JQ (cW rfl) (by simp) f1 f2 f3 ⟨f4,f5⟩ (fun _=> .dead)
  rw[←zY,hl] at cX
  refine ⟨.string ⟨(kA (es.take n.toNat)).toArray⟩,_,I,β,?_,k1,k2,.str ?_⟩
  ·simpa using cX
  ·rfl
def JR:Op→Bool
 | .call {callee:= .value (.func _),..}=>true
 | .call {callee:= .value (.tmp _),..}=>true
 | .defer _=>true
 | _=>false
theorem o6.val {o:Oper} {a:Act} {s:Sem Value} {r:R} (he:execOp a.eval o=(do Pure.pure (Next.value (←s)))) (h:di P (s.run P w) w I β hp B M w0 r):o6 P ((execOp a.eval o).run P w) w I β hp B M w0 r:=by
 rw[he];exact h.op
theorem abK {A:cM} (S:aE P w I β hp B M w0) (hg:gR P A.aC w I) {a:Act} {sl:Nat→V} (hs:kF P w I β hp a sl) {ix nb:Nat} {o:Oper} (JS:JR o.op=false) {r:R} {rd:List Nat}
  (h:(fK P A sl ix nb o).run C hp=some (r,rd)):o6 P ((execOp a.eval o).run P w) w I β hp B M w0 r:=by
 obtain ⟨dst,op,ty,pos,after,guard⟩:=o
 cases op<;>simp only[fK] at h<;>first|(cases h;done)|skip
 case move x=>
  obtain rfl:=aS h
  exact ⟨_,w,I,β,.inl (by simp[execOp]),Le.refl w I β hp,S,hs.ev hg ty x⟩
 case assign x=>
  obtain rfl:=aS h
  exact ⟨_,w,I,β,.inl (by simp[execOp]),Le.refl w I β hp,S,hs.ev hg ty x⟩
 case pick c x y=>
  have hc:=hs.ev hg ty c
  cases tS:aT P A.aC ty sl c<;>rw[tS] at h hc<;>simp only at h<;>first|(cases h;done)|skip
  rename_i t
  have abL:=hc.jF
  have hx:=hs.ev hg ty x
  have hy:=hs.ev hg ty y
  have fin: ∀z:V,ai P w I β hp (if t then a.eval x else a.eval y) z→o6 P ((execOp a.eval ⟨dst,.pick c x y,ty,pos,after,guard⟩).run P w) w I β hp B M w0 ⟨z,[]⟩:=by
   intro z hz
   exact ⟨_,w,I,β,.inl (by simp[execOp,abL,asBool]),Le.refl w I β hp,S,hz⟩
  cases Fj:gone (aT P A.aC ty sl x) with
  | true=>
   rw[Fj] at h
   obtain ⟨h1,h⟩:=aH h
   obtain rfl:=aS h
   have:t=false:=by simpa using h1
   subst this
   refine fin _ ?_
   simpa using hy
  | false=>
   rw[Fj] at h
   simp only[cond_false] at h
   cases Rs:gone (aT P A.aC ty sl y) with
   | true=>
    rw[Rs] at h
    obtain ⟨h1,h⟩:=aH h
    obtain rfl:=aS h
    subst h1
    refine fin _ ?_
    simpa using hx
   | false=>
    rw[Rs] at h
    obtain rfl:=aS h
    exact fin _ (Qj hx hy)
 case makeFunc fn x y=>
  cases fn<;>simp only[fK] at h<;>first|(cases h;done)|skip
  rename_i f
  obtain rfl:=aS h
  refine ⟨.func (.func f) (x.map a.eval) (y.map a.eval),w,I,β,.inl (by simp[execOp,Instr.makeFunc]),Le.refl w I β hp,S,.fn (by simp) (fun j v z hj hz=> ?_) (by simp) (fun j v z hj hz=> ?_)⟩
  ·rw[Array.getElem?_map] at hj
   rw[List.getElem?_map,Array.getElem?_toList] at hz
   cases hx:x[j]? with
   | none=>rw[hx] at hj;cases hj
   | some o1=>
    rw[hx] at hj hz
    cases hj
    cases hz
    exact hs.ev hg ty o1
  ·rw[Array.getElem?_map] at hj
   rw[List.getElem?_map,Array.getElem?_toList] at hz
   cases hx:y[j]? with
   | none=>rw[hx] at hj;cases hj
   | some o1=>
    rw[hx] at hj hz
    cases hj
    cases hz
    exact hs.ev hg ty o1
 case defer c=>cases JS
 case makeMap t res=>
  cases res with
  | some x=>cases h
  | none=>exact .val rfl (abo S h)
 case lookup t m k ok=>
  cases ht:ly P t with
  | none=>rw[ht] at h;cases h
  | some q=>
   obtain ⟨kt,vt⟩:=q
   rw[ht] at h
   exact .val (s:=Instr.lookup t (a.eval m) (a.eval k) ok) rfl (abn S ht (hs.ev hg t m) (hs.ev hg kt k) h)
 case mapUpdate t m k x=>
  cases ht:ly P t with
  | none=>rw[ht] at h;cases h
  | some q=>
   obtain ⟨kt,vt⟩:=q
   rw[ht] at h
   have:=Rj S ht (hs.ev hg t m) (hs.ev hg kt k) (hs.ev hg vt x) h
   exact this.op
 case insert t m k x=>
  cases ht:ly P t with
  | none=>rw[ht] at h;cases h
  | some q=>
   obtain ⟨kt,vt⟩:=q
   rw[ht] at h
   have:=Rj S ht (hs.ev hg t m) (hs.ev hg kt k) (hs.ev hg vt x) h
   exact this.op
 case alloc e=>
  exact .val rfl (aaP S h)
 case box e x=>
  exact .val rfl (aaQ S (hs.ev hg e x) h)
 case build t ps=>exact .val rfl (aaS S hs hg h)
 case buildSlice t len ps=>
  cases hu:P.underlying t with
  | none=>rw[hu] at h;cases h
  | some d=>
   rw[hu] at h
   cases d<;>simp only at h<;>first|(cases h;done)|skip
   exact .val rfl (aaY S hs hg hu h)
 case load t x=>exact .val rfl (aay S (hs.ev hg ty x) h)
 case store t x y=>
  have:=aaO S (hs.ev hg ty x) (hs.ev hg t y) h
  exact this.op
 case nilCheck x=>
  have hx:=hs.ev hg ty x
  cases fC:aT P A.aC ty sl x<;>rw[fC] at h hx<;>simp only at h<;>first|(cases h;done)|skip
  ·obtain ⟨⟨blk,af,hd⟩,l,h⟩:=v7 h
   obtain rfl:=aS h
   have cH:=hx
   obtain ⟨b,hb,he⟩:=hx.gU af hd
   rw[he] at cH
   exact ⟨_,w,I,β,.inl (by simp only[execOp,he];rfl),Le.refl w I β hp,S,cH⟩
  ·obtain rfl:=aS h
   have cH:=hx
   obtain ⟨b,o,he,_⟩:=hx.EM
   rw[he] at cH
   exact ⟨_,w,I,β,.inl (by simp only[execOp,he];rfl),Le.refl w I β hp,S,cH⟩
  ·obtain ⟨e0,es,ak,l,af,h1,h2,h3,h⟩:=od h
   obtain rfl:=aS h
   have cH:=hx
   obtain ⟨b,o,he,_⟩:=hx.Qh af h1 h2 h3
   rw[he] at cH
   exact ⟨_,w,I,β,.inl (by simp only[execOp,he];rfl),Le.refl w I β hp,S,cH⟩
 case binOp op t x y yt=>
  have hx:=hs.ev hg t x
  have hy:=hs.ev hg t y
  refine .val (s:=do eqGuard op t x y (a.eval x) (a.eval y);binOp op t (a.eval x) (a.eval y)) rfl ?_
  cases fC:aT P A.aC t sl x<;>cases sI:aT P A.aC t sl y<;>rw[fC,sI] at h<;>rw[fC] at hx<;>rw[sI] at hy<;>first|(simp only[j5] at h;cases h;done)|skip
  ·rw[hx.eM,hy.eM]
   have:=aap S h
   simpa[aam] using this
  ·rw[hx.jF,hy.jF]
   have:=aar S h
   simpa[aan] using this
  ·obtain ⟨s1,e1,l1⟩:=hx.my
   obtain ⟨s2,e2,l2⟩:=hy.my
   rw[e1,e2]
   rw[←l1,←l2] at h
   have:=aas (t:=t) S h
   simpa[aao] using this
  ·obtain ⟨cs,e1,h1,h2⟩:=hx.kH
   obtain ⟨ds,e2,h3,h4⟩:=hy.kH
   rw[e1,e2]
   exact aat S h1 h3 h2 h4 h
  ·
   simp only[j5] at h
   obtain ⟨h1,h2⟩:=aH h
   clear h
   simp only[Bool.and_eq_true,Nat.beq_eq] at h1
   obtain ⟨rfl,rfl,rfl⟩:=h1
   obtain ⟨⟨blk,af,hd⟩,l,h⟩:=v7 h2
   obtain ⟨b,hb,e1⟩:=hx.gU af hd
   obtain ⟨b',ax,e2⟩:=hy.gU af hd
   rw[hb] at ax;cases ax
   rw[e1,e2]
   exact Fi S h (by cases op<;>simp[eqGuard]) fun e j he hj=>⟨run_eql_ptr_same w _ he hj,Lib.run_neq_ptr_same w _ he hj⟩
  ·simp only[j5] at h
   obtain ⟨⟨blk,af,hd⟩,l,h⟩:=v7 h
   obtain ⟨b,_,e1⟩:=hx.gU af hd
   rw[e1,hy.Fh]
   exact Fi S h (by cases op<;>simp[eqGuard]) fun e j he hj=>⟨abA w t e _ he,abB w t e _ he⟩
  ·simp only[j5] at h
   obtain ⟨⟨blk,af,hd⟩,l,h⟩:=v7 h
   obtain ⟨b,_,e1⟩:=hy.gU af hd
   rw[e1,hx.Fh]
   exact Fi S h (by cases op<;>simp[eqGuard]) fun e j he hj=>⟨abC w t e _ he,abD w t e _ he⟩
  ·simp only[j5] at h
   rw[hx.Fh,hy.Fh]
   exact Fi S h (by cases op<;>simp[eqGuard]) fun e j he hj=>⟨abE w t e he,abF w t e he⟩
  ·
   simp only[j5] at h
   obtain ⟨l,h⟩:=run_get h
   split at h
   ·rename_i t2 es af
    obtain ⟨b,hb⟩:=hx.abt af
    rw[hy.JO,hb]
    exact Rm (a:=some b) S x y h
   ·cases h
  ·simp only[j5] at h
   rw[hx.JO,hy.JO]
   exact Rm (a:=none) S x y h
 case unOp op t x=>exact .val rfl (aau S (hs.ev hg ty x) h)
 case convert src dst x=>
  have hx:=hs.ev hg ty x
  refine .val (s:=convert src dst (a.eval x)) rfl ?_
  cases jE:P.underlying src with
  | none=>rw[jE] at h;cases h
  | some d1=>
   cases nD:P.underlying dst with
   | none=>rw[jE,nD] at h;cases d1<;>cases h
   | some d2=>
    rw[jE,nD] at h
    have gG: ∀{b:Nat} {T:TypeId} {cs:List V} {id:Nat},hp id=some (.var T cs)→β id=some b→w.shape? b=some (T,cs.length):=by
     intro b T cs id af hb
     have hr:=S.h.rel id _ af
     rw[hb] at hr
     cases hr with
     | var ax hh a8 _ _ _=>cases ax;simp[World.shape?,hh,a8]
    cases d1<;>(try (cases d2<;>cases h;done))
    ·cases d2<;>(try (cases h;done))
     rename_i k1 k2
     cases fC:aT P A.aC ty sl x<;>rw[fC] at h hx<;>simp only at h<;>first|(cases h;done)|skip
     obtain rfl:=aS h
     rw[hx.eM]
     exact .same S (by simp[convert,run_underlying jE,run_underlying nD,Conv.intToInt]) .int
    ·cases d2<;>(try (cases h;done))
     rename_i u
     cases fC:aT P A.aC ty sl x<;>rw[fC] at h hx<;>simp only at h<;>first|(cases h;done)|skip
     rename_i id i c
     obtain ⟨l,h1⟩:=run_get h
     cases af:hp id with
     | none=>rw[af] at h1;cases h1
     | some blk=>
      rw[af] at h1
      cases blk<;>simp only at h1<;>first|(cases h1;done)|skip
      rename_i T cs
      obtain ⟨h2,h3⟩:=aH h1
      simp only[Bool.and_eq_true,Nat.beq_eq] at h2
      obtain ⟨rfl,h4,h5⟩:=h2
      obtain ⟨b,hb,e1⟩:=hx.gU af (by simp)
      obtain rfl:=aS h3
      obtain ⟨j,hj⟩:=Option.isSome_iff_exists.1 h4
      have cH:=hx
      rw[e1] at cH⊢
      exact .same S (Lib.run_from_unsafe w _ jE nD hj (gG af hb) (by simpa using h5)) cH
    ·cases d2<;>(try (cases h;done))
     rename_i t
     cases fC:aT P A.aC ty sl x<;>rw[fC] at h hx<;>simp only at h<;>first|(cases h;done)|skip
     rename_i id i c
     obtain ⟨l,h1⟩:=run_get h
     cases af:hp id with
     | none=>rw[af] at h1;cases h1
     | some blk=>
      rw[af] at h1
      cases blk<;>simp only at h1<;>first|(cases h1;done)|skip
      rename_i T cs
      obtain ⟨h2,h3⟩:=aH h1
      simp only[Bool.and_eq_true,Nat.beq_eq,Nat.blt_eq] at h2
      obtain ⟨rfl,h4,h5⟩:=h2
      obtain ⟨b,hb,e1⟩:=hx.gU af (by simp)
      obtain rfl:=aS h3
      cases hj:P.info? t with
      | none=>rw[hj] at h5;cases h5
      | some j=>
       rw[hj] at h5
       simp only[Bool.not_eq_true'] at h5
       have h6:j.size≠0:=fun e=>by rw[e] at h5;cases h5
       have cH:=hx
       rw[e1] at cH⊢
       exact .same S (Lib.run_to_unsafe w _ jE nD hj h6 (gG af hb) (by simpa using h4)) cH
    ·rename_i e
     cases d2<;>(try (cases h;done))
     simp only at h
     cases he:P.underlying e with
     | none=>rw[he] at h;cases h
     | some d3=>
      rw[he] at h
      cases d3<;>(try (cases h;done))
      rename_i k
      cases k<;>(try (cases h;done))
      exact abz S jE he nD hx h
 case fieldAddr s x f=>exact .val rfl (aav S (hs.ev hg ty x) h)
 case field s x f=>exact .val rfl (aba S (hs.ev hg ty x) h)
 case indexAddr t x y=>exact .val rfl (abg S (hs.ev hg ty x) (hs.ev hg 0 y) h)
 case index t x y=>
  have hx:=hs.ev hg ty x
  have hy:=hs.ev hg 0 y
  refine .val (s:=Instr.index t (a.eval x) (a.eval y)) rfl ?_
  cases hu:P.underlying t with
  | none=>rw[hu] at h;cases h
  | some d=>
   rw[hu] at h
   cases d<;>(try (cases h;done))
   cases fC:aT P A.aC ty sl x<;>rw[fC] at h hx<;>(try (cases h;done))
   cases sI:aT P A.aC 0 sl y<;>rw[sI] at h hy<;>(try (cases h;done))
   obtain ⟨s,e1,l1⟩:=hx.my
   rw[e1,hy.eM]
   exact abc S hu l1 h
 case slice t x lo hi mx=>
  cases mx with
  | some m=>
   simp only at h
   refine .val (s:=Instr.sliceAt t (a.eval x) (lo.map a.eval) (hi.map a.eval) (some (a.eval m))) (by simp[execOp]) (abf S (hs.ev hg ty x) (fun hy=> ?_) (fun y hy=> ?_) (fun y hy=> ?_) h)
   ·cases lo with
    | none=>rfl
    | some l=>cases hy
   ·cases hi with
    | none=>cases hy
    | some l=>cases hy;exact ⟨_,rfl,hs.ev hg 0 l⟩
   ·cases hy;exact ⟨_,rfl,hs.ev hg 0 m⟩
  | none=>
   simp only at h
   have plain:(Ep P t (aT P A.aC ty sl x) (lo.map (aT P A.aC 0 sl)) (hi.map (aT P A.aC 0 sl))).run C hp=some (r,rd)→o6 P ((execOp a.eval ⟨dst,.slice t x lo hi none,ty,pos,after,guard⟩).run P w) w I β hp B M w0 r:=by
    intro h
    refine .val (s:=Instr.sliceAt t (a.eval x) (lo.map a.eval) (hi.map a.eval) none) (by simp[execOp]) (abe S (hs.ev hg ty x) (fun y hy=> ?_) (fun y hy=> ?_) (fun hy=> ?_) (fun hy=> ?_) h)
    ·cases lo with
     | none=>cases hy
     | some l=>cases hy;exact ⟨_,rfl,hs.ev hg 0 l⟩
    ·cases hi with
     | none=>cases hy
     | some l=>cases hy;exact ⟨_,rfl,hs.ev hg 0 l⟩
    ·cases lo with
     | none=>rfl
     | some l=>cases hy
    ·cases hi with
     | none=>rfl
     | some l=>cases hy
   have tr:(Er P nb t (aT P A.aC ty sl x) (lo.map (aT P A.aC 0 sl)) (hi.map (aT P A.aC 0 sl))).run C hp=some (r,rd)→o6 P ((execOp a.eval ⟨dst,.slice t x lo hi none,ty,pos,after,guard⟩).run P w) w I β hp B M w0 r:=by
    intro h
    refine .val (s:=Instr.sliceAt t (a.eval x) (lo.map a.eval) (hi.map a.eval) none) (by simp[execOp]) (abi S (hs.ev hg ty x) (fun y hy=> ?_) (fun hy=> ?_) h)
    ·cases hi with
     | none=>cases hy
     | some l=>cases hy;exact ⟨_,rfl,hs.ev hg 0 l⟩
    ·cases lo with
     | none=>rfl
     | some l=>cases hy
   cases dst with
   | none=>exact plain h
   | some d=>
    simp only at h
    cases Fk:jZ A.vJ d with
    | true=>rw[Fk] at h;exact tr h
    | false=>rw[Fk] at h;exact plain h
 case extract x i=>
  have hx:=hs.ev hg ty x
  cases fC:aT P A.aC ty sl x<;>rw[fC] at h hx<;>simp only at h<;>first|(cases h;done)|skip
  exact .val (s:=Instr.extract (a.eval x) i) rfl (abb S hx h)
 case makeSlice t l c=>
  have hl:=hs.ev hg 0 l
  have hc:=hs.ev hg 0 c
  refine .val (s:=Instr.makeSlice t (a.eval l) (a.eval c)) rfl ?_
  cases hu:P.underlying t with
  | none=>rw[hu] at h;cases h
  | some d=>
   rw[hu] at h
   cases d<;>(try (cases h;done))
   cases JT:aT P A.aC 0 sl l<;>rw[JT] at h hl<;>(try (cases h;done))
   cases tS:aT P A.aC 0 sl c<;>rw[tS] at h hc<;>(try (cases h;done))
   rw[hl.eM,hc.eM]
   cases dst with
   | none=>exact QT S hu h
   | some d=>
    simp only at h
    cases hg:jZ A.vJ d with
    | true=>rw[hg] at h;exact aa0 S hu h
    | false=>rw[hg] at h;exact QT S hu h
 case call c=>
  obtain ⟨callee,args,argTypes⟩:=c
  cases callee with
  | invoke r m=>cases h
  | value f=>
   cases f with
   | func f=>cases JS
   | tmp f=>cases JS
   | _=>cases h
  | builtin b=>
   have one: ∀{x:Operand},args.toList=[x]→args= #[x]:=fun h=>by rw[←Array.toArray_toList (xs:=args),h]
   have qA: ∀(s:Array TypeId→TypeId→Array Value→Sem Value),builtin b argTypes ty (args.map fun| .const _=>true|_=>false) (args.map a.eval)=(do Pure.pure (Next.value (←s argTypes ty (args.map a.eval))))→
     execOp a.eval ⟨dst,.call ⟨.builtin b,args,argTypes⟩,ty,pos,after,guard⟩=(do Pure.pure (Next.value (←s argTypes ty (args.map a.eval)))):=by
    intro s hb
    simp only[execOp,resolve,pure_bind,invoke]
    exact hb
   cases b<;>(try (cases h;done))
   case append=>
    simp only at h
    cases ha:args.toList with
    | nil=>rw[ha] at h;cases h
    | cons x l=>
     cases l with
     | nil=>rw[ha] at h;cases h
     | cons y l2=>
      cases l2 with
      | cons _ _=>rw[ha] at h;cases h
      | nil=>
       cases dF:argTypes.toList with
       | nil=>rw[ha,dF] at h;cases h
       | cons t l3=>
        cases l3 with
        | nil=>rw[ha,dF] at h;cases h
        | cons u l4=>
         cases l4 with
         | cons _ _=>rw[ha,dF] at h;cases h
         | nil=>
          rw[ha,dF] at h
          simp only at h
          have e1:args= #[x,y]:=by rw[←Array.toArray_toList (xs:=args),ha]
          have e2:argTypes= #[t,u]:=by rw[←Array.toArray_toList (xs:=argTypes),dF]
          cases hu:P.underlying t with
          | none=>rw[hu] at h;cases h
          | some d=>
           rw[hu] at h
           cases d<;>(try (cases h;done))
           cases hc:Nat.beq t u with
           | true=>
            rw[hc] at h
            rw[Nat.beq_eq] at hc
            subst hc
            have:=aa2 (ty:=ty) S hu (hs.ev hg t x) (hs.ev hg t y) h
            refine .val (qA Builtin.append_ rfl) ?_
            rw[e1,e2]
            simpa using this
           | false=>
            rw[hc] at h
            simp only[cond_false] at h
            have hy:=hs.ev hg u y
            cases oq:P.underlying u with
            | none=>rw[oq] at h;cases h
            | some du=>
             rw[oq] at h
             cases du<;>(try (cases h;done))
             cases sI:aT P A.aC u sl y<;>rw[sI] at h hy<;>(try (cases h;done))
             simp only at h
             obtain ⟨hb,h⟩:=aH h
             obtain ⟨s1,q1,q2⟩:=hy.my
             subst q2
             have:=aby (ty:=ty) S hu oq (abH hb) (hs.ev hg t x) h
             refine .val (qA Builtin.append_ rfl) ?_
             rw[e1,e2]
             simpa[q1] using this
   case len=>
    simp only at h
    cases ha:args.toList with
    | nil=>rw[ha] at h;cases h
    | cons x l=>
     cases l with
     | cons _ _=>rw[ha] at h;cases h
     | nil=>
      cases dF:argTypes.toList with
      | nil=>rw[ha,dF] at h;cases h
      | cons t l3=>
       cases l3 with
       | cons _ _=>rw[ha,dF] at h;cases h
       | nil=>
        rw[ha,dF] at h
        simp only at h
        have e1:args= #[x]:=by rw[←Array.toArray_toList (xs:=args),ha]
        have e2:argTypes= #[t]:=by rw[←Array.toArray_toList (xs:=argTypes),dF]
        have hx:=hs.ev hg ty x
        refine .val (qA Builtin.len_ rfl) ?_
        rw[e1,e2]
        cases hu:P.underlying t with
        | none=>rw[hu] at h;cases h
        | some d=>
         rw[hu] at h
         cases d<;>(try (cases h;done))
         ·cases fC:aT P A.aC ty sl x<;>rw[fC] at h hx<;>(try (cases h;done))
          have:=Qk (t:=t) (ty:=ty) S hx (fun l hl=>hu) (fun hn=>absurd rfl (hn _)) h
          simpa using this
         ·have h2:(∀l,aT P A.aC ty sl x≠ .str l)∧(Ek P (aT P A.aC ty sl x)).run C hp=some (r,rd):=by
           cases fC:aT P A.aC ty sl x<;>rw[fC] at h<;>first|(cases h;done)|exact ⟨fun l=>by simp,h⟩
          have:=Qk (t:=t) (ty:=ty) S hx (fun l hl=>absurd hl (h2.1 l)) (fun _=>⟨_,hu⟩) h2.2
          simpa using this
         ·have h2:(Eo (aT P A.aC ty sl x)).run C hp=some (r,rd):=by
           cases fC:aT P A.aC ty sl x<;>rw[fC] at h<;>exact h
          have:=abr (t:=t) (ty:=ty) S hu hx h2
          simpa using this
   case unsafeSliceData=>
    simp only at h
    cases ha:args.toList with
    | nil=>rw[ha] at h;cases h
    | cons x l=>
     cases l with
     | cons _ _=>rw[ha] at h;cases h
     | nil=>
      rw[ha] at h
      simp only at h
      have e1:args= #[x]:=by rw[←Array.toArray_toList (xs:=args),ha]
      have hx:=hs.ev hg ty x
      refine .val (qA Builtin.unsafeSliceData_ rfl) ?_
      rw[e1]
      cases fC:aT P A.aC ty sl x<;>rw[fC] at h hx<;>simp only at h<;>first|(cases h;done)|skip
      rename_i e id
      obtain ⟨l2,h1⟩:=run_get h
      cases af:hp id with
      | none=>rw[af] at h1;cases h1
      | some blk=>
       rw[af] at h1
       cases blk<;>simp only at h1<;>first|(cases h1;done)|skip
       rename_i e' es fz
       obtain ⟨h2,h3⟩:=aH h1
       simp only[Bool.and_eq_true,Nat.beq_eq,Nat.blt_eq] at h2
       obtain ⟨rfl,h4⟩:=h2
       obtain rfl:=aS h3
       have:=abI (ts:=argTypes) (ty:=ty) S hx af h4
       simpa using this
   case unsafeString=>
    simp only at h
    cases ha:args.toList with
    | nil=>rw[ha] at h;cases h
    | cons x l=>
     cases l with
     | nil=>rw[ha] at h;cases h
     | cons y l2=>
      cases l2 with
      | cons _ _=>rw[ha] at h;cases h
      | nil=>
       cases dF:argTypes.toList with
       | nil=>rw[ha,dF] at h;cases h
       | cons t l3=>
        cases l3 with
        | nil=>rw[ha,dF] at h;cases h
        | cons u l4=>
         cases l4 with
         | cons _ _=>rw[ha,dF] at h;cases h
         | nil=>
          rw[ha,dF] at h
          simp only at h
          have e1:args= #[x,y]:=by rw[←Array.toArray_toList (xs:=args),ha]
          have e2:argTypes= #[t,u]:=by rw[←Array.toArray_toList (xs:=argTypes),dF]
          have hx:=hs.ev hg ty x
          have hy:=hs.ev hg ty y
          cases hu:P.underlying t with
          | none=>rw[hu] at h;cases h
          | some d=>
           rw[hu] at h
           cases d<;>(try (cases h;done))
           rename_i e
           cases fC:aT P A.aC ty sl x<;>rw[fC] at h hx<;>(try (cases h;done))
           cases sI:aT P A.aC ty sl y<;>rw[sI] at h hy<;>(try (cases h;done))
           rename_i id i c k n
           cases k<;>(try (cases h;done))
           simp only at h
           obtain ⟨l2,h1⟩:=run_get h
           cases af:hp id with
           | none=>rw[af] at h1;cases h1
           | some blk=>
            rw[af] at h1
            cases blk<;>simp only at h1<;>first|(cases h1;done)|skip
            rename_i e' es fz
            cases fz<;>simp only at h1<;>first|(cases h1;done)|skip
            obtain ⟨h2,h3⟩:=aH h1
            simp only[Bool.and_eq_true,Nat.beq_eq,Nat.ble_eq,decide_eq_true_eq] at h2
            obtain ⟨rfl,h4,rfl,rfl,h5,h6,h7,h8⟩:=h2
            obtain rfl:=aS h3
            have:=abJ (u:=u) (ty:=ty) S hu h4 hx af h5 h6 h7 h8
            refine .val (qA Builtin.unsafeString_ rfl) ?_
            rw[e1,e2]
            simpa[hy.eM] using this
   case copy=>
    simp only at h
    cases ha:args.toList with
    | nil=>rw[ha] at h;cases h
    | cons x l=>
     cases l with
     | nil=>rw[ha] at h;cases h
     | cons y l2=>
      cases l2 with
      | cons _ _=>rw[ha] at h;cases h
      | nil=>
       cases dF:argTypes.toList with
       | nil=>rw[ha,dF] at h;cases h
       | cons t l3=>
        cases l3 with
        | nil=>rw[ha,dF] at h;cases h
        | cons u l4=>
         cases l4 with
         | cons _ _=>rw[ha,dF] at h;cases h
         | nil=>
          rw[ha,dF] at h
          simp only at h
          have e1:args= #[x,y]:=by rw[←Array.toArray_toList (xs:=args),ha]
          have e2:argTypes= #[t,u]:=by rw[←Array.toArray_toList (xs:=argTypes),dF]
          cases hu:P.underlying t with
          | none=>rw[hu] at h;cases h
          | some d=>
           rw[hu] at h
           cases d<;>(try (cases h;done))
           have:=aa7 (u:=u) (ty:=ty) S hu (hs.ev hg t x) (hs.ev hg u y) h
           refine .val (qA Builtin.copy_ rfl) ?_
           rw[e1,e2]
           simpa using this
   case clear=>
    simp only at h
    cases ha:args.toList with
    | nil=>rw[ha] at h;cases h
    | cons x l=>
     cases l with
     | cons _ _=>rw[ha] at h;cases h
     | nil=>
      cases dF:argTypes.toList with
      | nil=>rw[ha,dF] at h;cases h
      | cons t l3=>
       cases l3 with
       | cons _ _=>rw[ha,dF] at h;cases h
       | nil=>
        rw[ha,dF] at h
        simp only at h
        have e1:args= #[x]:=by rw[←Array.toArray_toList (xs:=args),ha]
        have e2:argTypes= #[t]:=by rw[←Array.toArray_toList (xs:=argTypes),dF]
        cases hu:P.underlying t with
        | none=>rw[hu] at h;cases h
        | some d=>
         rw[hu] at h
         cases d<;>(try (cases h;done))
         have:=aa8 (ty:=ty) S hu (hs.ev hg t x) h
         refine .val (qA Builtin.clear_ rfl) ?_
         rw[e1,e2]
         simpa using this
   case max=>
    simp only at h
    cases ha:args.toList with
    | nil=>rw[ha] at h;cases h
    | cons x l=>
     rw[ha] at h
     simp only at h
     have:=JD S true (vs:=l.map a.eval) (xs:=l.map (aT P A.aC ty sl)) (hs.ev hg ty x) (by simp) (fun j u y hu hy=>by
      simp only[List.getElem?_map] at hu hy
      cases hl:l[j]? with
      | none=>rw[hl] at hu;cases hu
      | some z=>rw[hl] at hu hy;cases hu;cases hy;exact hs.ev hg ty z) h
     refine .val (qA Builtin.max_ rfl) ?_
     simpa[Builtin.max_,ha] using this
   case min=>
    simp only at h
    cases ha:args.toList with
    | nil=>rw[ha] at h;cases h
    | cons x l=>
     rw[ha] at h
     simp only at h
     have:=JD S false (vs:=l.map a.eval) (xs:=l.map (aT P A.aC ty sl)) (hs.ev hg ty x) (by simp) (fun j u y hu hy=>by
      simp only[List.getElem?_map] at hu hy
      cases hl:l[j]? with
      | none=>rw[hl] at hu;cases hu
      | some z=>rw[hl] at hu hy;cases hu;cases hy;exact hs.ev hg ty z) h
     refine .val (qA Builtin.min_ rfl) ?_
     simpa[Builtin.min_,ha] using this
end
section
variable {P:Program} {A:cM} {w w':World} {I I' I2:Nat→Prop} {μ β au:Nat→Option Nat} {hp hp':Nat→Option ah} {C:ae} {B:Nat} {M:Nat→Prop} {w0:Start}
theorem wB: ∀{l m:List Nat},eS.n7 l m=true→l=m
 | [],[],_=>rfl
 | [],_::_,h=>by cases h
 | _::_,[],h=>by cases h
 | a::l,b::m,h=>by
  simp only[eS.n7,Bool.and_eq_true,Nat.beq_eq] at h
  rw[h.1,wB h.2]
@[simp] theorem Rt (n:Nat):kB (eB n)=n:=by simp[kB,eB,V.toInt]
theorem Fl: ∀(path:List (Nat × Nat)) (rest:List V),zc (path.map (·.2)) ((path.map fun p=>eB p.1)++rest)=path
 | [],_=>rfl
 | p::l,rest=>by
  simp only[List.map_cons,List.cons_append,zc,V.nth,Rt,List.drop_succ_cons,List.drop_zero,Fl l rest]
theorem Fm {l:LS} {x:V} {ds:List V} (h:eS l x=some ds):ds.length=l.size∧(l= .sa∨∀rest,iF l (ds++rest)=x):=by
 cases l with
 | sa=>simp only[eS,Option.some.injEq] at h;subst h;exact ⟨rfl,.inl rfl⟩
 | int k=>
  cases x<;>simp only[eS] at h<;>first|(cases h;done)|skip
  rename_i k' n
  by_cases hk:k=k'
  ·subst hk
   simp only[decide_true,cond_true,Option.some.injEq] at h
   subst h
   exact ⟨rfl,.inr fun _=>rfl⟩
  ·simp[hk] at h
 | bool=>
  cases x<;>simp only[eS] at h<;>first|(cases h;done)|skip
  cases h
  exact ⟨rfl,.inr fun _=>rfl⟩
 | str=>
  cases x<;>simp only[eS] at h<;>first|(cases h;done)|skip
  cases h
  exact ⟨rfl,.inr fun _=>rfl⟩
 | list e=>
  cases x<;>simp only[eS] at h<;>first|(cases h;done)|skip
  rename_i e' es
  cases hb:Nat.beq e e' with
  | false=>rw[hb] at h;cases h
  | true=>
   rw[hb] at h
   rw[Nat.beq_eq] at hb
   subst hb
   cases h
   exact ⟨rfl,.inr fun _=>rfl⟩
 | whole e j=>
  cases x<;>simp only[eS] at h<;>first|(cases h;done)|skip
  rename_i e' id
  cases hb:(Nat.beq e e'&&Nat.beq j id) with
  | false=>rw[hb] at h;cases h
  | true=>
   rw[hb] at h
   simp only[Bool.and_eq_true,Nat.beq_eq] at hb
   obtain ⟨rfl,rfl⟩:=hb
   cases h
   exact ⟨rfl,.inr fun _=>rfl⟩
 | sub e j=>
  cases x<;>simp only[eS] at h<;>first|(cases h;done)|skip
  rename_i e' id o n
  cases hb:(Nat.beq e e'&&Nat.beq j id) with
  | false=>rw[hb] at h;cases h
  | true=>
   rw[hb] at h
   simp only[Bool.and_eq_true,Nat.beq_eq] at hb
   obtain ⟨rfl,rfl⟩:=hb
   cases h
   exact ⟨rfl,.inr fun _=>by simp[iF,V.nth]⟩
 | ptr j=>
  cases x<;>simp only[eS] at h<;>first|(cases h;done)|skip
  rename_i id i c
  cases hb:(Nat.beq j id) with
  | false=>rw[hb] at h;cases h
  | true=>
   rw[hb] at h
   rw[Nat.beq_eq] at hb
   subst hb
   cases h
   exact ⟨rfl,.inr fun _=>by simp[iF,V.nth]⟩
 | ej j i c=>
  cases x<;>simp only[eS] at h<;>first|(cases h;done)|skip
  rename_i id i' c'
  cases hb:(Nat.beq j id&&(Nat.beq i i'&&Nat.beq c c')) with
  | false=>rw[hb] at h;cases h
  | true=>
   rw[hb] at h
   simp only[Bool.and_eq_true,Nat.beq_eq] at hb
   obtain ⟨rfl,rfl,rfl⟩:=hb
   cases h
   exact ⟨rfl,.inr fun _=>rfl⟩
 | nilS e=>
  cases x<;>simp only[eS] at h<;>first|(cases h;done)|skip
  rename_i e'
  cases hb:Nat.beq e e' with
  | false=>rw[hb] at h;cases h
  | true=>
   rw[hb] at h
   rw[Nat.beq_eq] at hb
   subst hb
   cases h
   exact ⟨rfl,.inr fun _=>rfl⟩
 | dN=>
  cases x<;>simp only[eS] at h<;>first|(cases h;done)|skip
  cases h
  exact ⟨rfl,.inr fun _=>rfl⟩
 | bX e j=>
  cases x<;>simp only[eS] at h<;>first|(cases h;done)|skip
  rename_i e' id
  cases hb:(Nat.beq e e'&&Nat.beq j id) with
  | false=>rw[hb] at h;cases h
  | true=>
   rw[hb] at h
   simp only[Bool.and_eq_true,Nat.beq_eq] at hb
   obtain ⟨rfl,rfl⟩:=hb
   cases h
   exact ⟨rfl,.inr fun _=>rfl⟩
 | dO e=>
  cases x<;>simp only[eS] at h<;>first|(cases h;done)|skip
  rename_i e'
  cases hb:Nat.beq e e' with
  | false=>rw[hb] at h;cases h
  | true=>
   rw[hb] at h
   rw[Nat.beq_eq] at hb
   subst hb
   cases h
   exact ⟨rfl,.inr fun _=>rfl⟩
 | vI k n=>
  cases x<;>simp only[eS] at h<;>first|(cases h;done)|skip
  rename_i k' m
  cases hb:(decide (k=k')&&decide (m=n)) with
  | false=>rw[hb] at h;cases h
  | true=>
   rw[hb] at h
   simp only[Bool.and_eq_true,decide_eq_true_eq] at hb
   obtain ⟨rfl,rfl⟩:=hb
   cases h
   exact ⟨rfl,.inr fun _=>rfl⟩
 | row e j cs=>
  cases x<;>simp only[eS] at h<;>first|(cases h;done)|skip
  rename_i e' id ver path
  cases hb:(Nat.beq e e'&&(Nat.beq j id&&(Nat.beq ver 0&&eS.n7 cs (path.map (·.2))))) with
  | false=>rw[hb] at h;cases h
  | true=>
   rw[hb] at h
   simp only[Bool.and_eq_true,Nat.beq_eq] at hb
   obtain ⟨rfl,rfl,rfl,og⟩:=hb
   have:=wB og
   subst this
   cases h
   exact ⟨by simp[LS.size],.inr fun rest=>by simp only[iF,Fl]⟩
 | cL j cs c=>
  cases x<;>simp only[eS] at h<;>first|(cases h;done)|skip
  rename_i id ver path i c'
  cases hb:(Nat.beq j id&&(Nat.beq ver 0&&(Nat.beq c c'&&eS.n7 cs (path.map (·.2))))) with
  | false=>rw[hb] at h;cases h
  | true=>
   rw[hb] at h
   simp only[Bool.and_eq_true,Nat.beq_eq] at hb
   obtain ⟨rfl,rfl,rfl,og⟩:=hb
   have:=wB og
   subst this
   cases h
   exact ⟨by simp[LS.size],.inr fun rest=>by simp only[iF,List.cons_append,V.nth,Rt,List.drop_succ_cons,List.drop_zero,Fl]⟩
def LS.below (n:Nat) (x:V):Prop:= ∀id∈eK x,id<n
def Ru:V→Prop
 | .agg _=>False
 | .bj _=>False
 | .fn .. =>False
 | .pref .. =>False
 | _=>True
theorem ub {c:Bool} {a d:List V} (h:(bif c then some a else none)=some d):c=true:=by
 cases c with
 | true=>rfl
 | false=>cases h
theorem abM {l:LS} {x:V} {ds:List V} {n:Nat} (h:eS l x=some ds) (hl:l≠ .sa) (aw:l.ok n=true):Ru x∧LS.below n x:=by
 cases l<;>cases x<;>simp only[eS] at h<;>first|(cases h;done)|(exact absurd rfl hl)|skip
 all_goals refine ⟨trivial,fun id af=> ?_⟩
 all_goals simp only[eK,List.mem_singleton,List.not_mem_nil] at af
 all_goals subst af
 all_goals simp only[LS.ok,Nat.blt_eq] at aw
 all_goals
  have hb:=ub h
  simp only[Bool.and_eq_true,Nat.beq_eq] at hb
  omega
theorem ai.abN {v:Value} {x:V} (h:ai P w I β hp v x) (hx:Ru x) (hs: ∀id∈eK x,hp' id=hp id∧au id=β id):ai P w I au hp' v x:=by
 have one: ∀{id},id∈eK x→hp' id=hp id∧au id=β id:=fun h=>hs _ h
 cases h with
 | undef=>exact .undef
 | int=>exact .int
 | bool=>exact .bool
 | str h=>exact .str h
 | list h=>exact .list h
 | nilS=>exact .nilS
 | agg=>exact hx.elim
 | bj=>exact hx.elim
 | dN=>exact .dN
 | fn=>exact hx.elim
 | pref=>exact hx.elim
 | eD h=>exact .eD ((one (by simp[eK])).1.trans h)
 | gr h=>exact .gr ((one (by simp[eK])).1.trans h)
 | ka h=>exact .ka ((one (by simp[eK])).1.trans h)
 | dZ h hb=>exact .dZ ((one (by simp[eK])).1.trans h) ((one (by simp[eK])).2.trans hb)
 | whole h hb a b c=>exact .whole ((one (by simp[eK])).1.trans h) ((one (by simp[eK])).2.trans hb) a b c
 | eL h hb a b c=>exact .eL ((one (by simp[eK])).1.trans h) ((one (by simp[eK])).2.trans hb) a b c
 | gh h hb=>exact .gh ((one (by simp[eK])).1.trans h) ((one (by simp[eK])).2.trans hb)
 | sub h hb a b c=>exact .sub ((one (by simp[eK])).1.trans h) ((one (by simp[eK])).2.trans hb) a b c
 | ptr h hd hb=>exact .ptr ((one (by simp[eK])).1.trans h) hd ((one (by simp[eK])).2.trans hb)
 | jA h qw=>exact .jA ((one (by simp[eK])).1.trans h) qw
 | jB h qw=>exact .jB ((one (by simp[eK])).1.trans h) qw
 | row h hb a b c d=>exact .row ((one (by simp[eK])).1.trans h) ((one (by simp[eK])).2.trans hb) a b c d
 | cL h hb a b c d e=>exact .cL ((one (by simp[eK])).1.trans h) ((one (by simp[eK])).2.trans hb) a b c d e
 | dO=>exact .dO
 | ig h=>exact .ig ((one (by simp[eK])).1.trans h)
 | bX h hb=>exact .bX ((one (by simp[eK])).1.trans h) ((one (by simp[eK])).2.trans hb)
theorem nE {a b:List V} {n:Nat} (h:a.length=n):(a++b).drop n=b:=by subst h;simp
def zZ (n:Nat) (β:Nat→Option Nat) (hp:Nat→Option ah) (au:Nat→Option Nat) (hp':Nat→Option ah):Prop:= ∀id,id<n→hp' id=hp id∧au id=β id
theorem Rv {l:LS} {x:V} {ds:List V} {n:Nat} {v:Value} (h:eS l x=some ds) (aw:l.ok n=true) (iP:zZ n β hp au hp') (hv:ai P w I β hp v x) (rest:List V):
  ai P w I au hp' v (iF l (ds++rest)):=by
 rcases (Fm h).2 with e|e
 ·subst e;exact .undef
 ·rw[e rest]
  by_cases hu:l= .sa
  ·subst hu
   have:x= .undef:=(e rest).symm
   subst this
   exact .undef
  ·obtain ⟨h1,h2⟩:=abM h hu aw
   exact hv.abN h1 fun id af=>iP id (h2 id af)
theorem z0 {n:Nat} (iP:zZ n β hp au hp'): ∀{ls:List LS} {xs:List V} {ds:List V},oY ls xs=some ds→ls.all (LS.ok n)=true→
  ds.length=j6 ls∧(∀rest,(hG ls (ds++rest)).length=xs.length)∧
  ∀(rest:List V) (j:Nat) (v:Value) (y:V),(∀x,xs[j]? =some x→ai P w I β hp v x)→(hG ls (ds++rest))[j]? =some y→ai P w I au hp' v y
 | [],[],ds,h,_=>by cases h;exact ⟨rfl,fun _=>rfl,fun rest j v y _ hy=>by simp[hG] at hy⟩
 | [],_::_,ds,h,_=>by cases h
 | _::_,[],ds,h,_=>by cases h
 | l::ls,x::xs,ds,h,aw=>by
  simp only[oY] at h
  obtain ⟨a,h1,h⟩:=bind_some h
  obtain ⟨b,h2,h⟩:=bind_some h
  cases h
  simp only[List.all_cons,Bool.and_eq_true] at aw
  obtain ⟨i1,i2,i3⟩:=z0 iP h2 aw.2
  have cq:=(Fm h1).1
  have hd: ∀rest,(a++b++rest).drop l.size=b++rest:=fun rest=>by rw[List.append_assoc];exact nE cq
  refine ⟨by simp only[List.length_append,j6];omega,fun rest=>by simp only[hG,List.length_cons,hd,i2],fun rest j v y hv hy=> ?_⟩
  simp only[hG,hd] at hy
  cases j with
  | zero=>
   simp at hy
   subst hy
   exact Rv h1 aw.1 iP (hv x rfl) _
  | succ j=>exact i3 rest j v y (fun x hx=>hv x (by simpa using hx)) (by simpa using hy)
theorem JU: ∀{ls:List LS} {xs:List V} {ds:List V},oY ls xs=some ds→ls.all LS.plain=true→ds.length=j6 ls∧∀rest,hG ls (ds++rest)=xs
 | [],[],ds,h,_=>by cases h;exact ⟨rfl,fun _=>rfl⟩
 | [],_::_,ds,h,_=>by cases h
 | _::_,[],ds,h,_=>by cases h
 | l::ls,x::xs,ds,h,aw=>by
  simp only[oY] at h
  obtain ⟨a,h1,h⟩:=bind_some h
  obtain ⟨b,h2,h⟩:=bind_some h
  cases h
  simp only[List.all_cons,Bool.and_eq_true] at aw
  obtain ⟨i1,i2⟩:=JU h2 aw.2
  obtain ⟨cq,hm⟩:=Fm h1
  refine ⟨by simp only[List.length_append,j6];omega,fun rest=> ?_⟩
  simp only[hG]
  rw[show (a++b++rest).drop l.size=b++rest by rw[List.append_assoc];exact nE cq,i2,List.append_assoc]
  rcases hm with e|e
  ·subst e;cases aw.1
  ·rw[e]
theorem JV {n:Nat} (iP:zZ n β hp au hp') {s:VS} {x:V} {ds:List V} (h:oZ s x=some ds) (aw:s.ok n=true):
  ds.length=s.size∧∀(rest:List V) (v:Value),ai P w I β hp v x→ai P w I au hp' v (kD s (ds++rest)):=by
 cases s with
 | one l=>exact ⟨(Fm h).1,fun rest v hv=>Rv h aw iP hv rest⟩
 | agg ls=>
  cases x<;>simp only[oZ] at h<;>first|(cases h;done)|skip
  rename_i xs
  obtain ⟨i1,i2,i3⟩:=z0 (P:=P) (w:=w) (I:=I) iP h aw
  refine ⟨i1,fun rest v hv=> ?_⟩
  obtain ⟨cs,rfl,e1,e2⟩:=hv.kH
  exact .agg (by rw[i2];exact e1) fun j v y hj hy=>i3 rest j v y (fun x hx=>e2 j v x hj hx) hy
 | bj ls=>
  cases x<;>simp only[oZ] at h<;>first|(cases h;done)|skip
  rename_i xs
  obtain ⟨i1,i2,i3⟩:=z0 (P:=P) (w:=w) (I:=I) iP h aw
  refine ⟨i1,fun rest v hv=> ?_⟩
  obtain ⟨cs,rfl,e1,e2⟩:=hv.tK
  exact .bj (by rw[i2];exact e1) fun j v y hj hy=>i3 rest j v y (fun x hx=>e2 j v x hj hx) hy
 | fn f a b=>
  cases x<;>simp only[oZ] at h<;>first|(cases h;done)|skip
  rename_i f' xs ys
  cases hb:Nat.beq f f' with
  | false=>rw[hb] at h;cases h
  | true=>
   rw[hb] at h
   rw[Nat.beq_eq] at hb
   subst hb
   simp only[cond_true] at h
   obtain ⟨p,h1,h⟩:=bind_some h
   obtain ⟨q,h2,h⟩:=bind_some h
   cases h
   simp only[VS.ok,Bool.and_eq_true] at aw
   obtain ⟨i1,i2,i3⟩:=z0 (P:=P) (w:=w) (I:=I) iP h1 aw.1
   obtain ⟨j1,j2,j3⟩:=z0 (P:=P) (w:=w) (I:=I) iP h2 aw.2
   refine ⟨by simp only[List.length_append,VS.size];omega,fun rest v hv=> ?_⟩
   cases hv with
   | fn a1 a2 b1 b2=>
    simp only[kD]
    rw[show (p++q++rest).drop (j6 a)=q++rest by rw[List.append_assoc];exact nE i1,List.append_assoc]
    exact .fn (by rw[i2];exact a1) (fun j v y hj hy=>i3 _ j v y (fun x hx=>a2 j v x hj hx) hy) (by rw[j2];exact b1) (fun j v y hj hy=>j3 _ j v y (fun x hx=>b2 j v x hj hx) hy)
 | pref ts ls=>
  cases x<;>simp only[oZ] at h<;>first|(cases h;done)|skip
  rename_i vP xs
  cases hb:eS.n7 ts vP with
  | false=>rw[hb] at h;cases h
  | true=>
   rw[hb] at h
   have:=wB hb
   subst this
   simp only[cond_true] at h
   refine ⟨?_,fun rest v hv=> ?_⟩
   ·exact (JU h aw).1
   ·simp only[kD]
    rw[(JU h aw).2]
    cases hv with
    | pref hl hI hc=>exact .pref hl hI hc
theorem z5 {n:Nat} (iP:zZ n β hp au hp'): ∀{ls:List VS} {xs:List V} {ds:List V},rX ls xs=some ds→ls.all (VS.ok n)=true→
  ds.length=sk ls∧(∀rest,(fJ ls (ds++rest)).length=xs.length)∧
  ∀(rest:List V) (j:Nat) (v:Value) (y:V),(∀x,xs[j]? =some x→ai P w I β hp v x)→(fJ ls (ds++rest))[j]? =some y→ai P w I au hp' v y
 | [],[],ds,h,_=>by cases h;exact ⟨rfl,fun _=>rfl,fun rest j v y _ hy=>by simp[fJ] at hy⟩
 | [],_::_,ds,h,_=>by cases h
 | _::_,[],ds,h,_=>by cases h
 | l::ls,x::xs,ds,h,aw=>by
  simp only[rX] at h
  obtain ⟨a,h1,h⟩:=bind_some h
  obtain ⟨b,h2,h⟩:=bind_some h
  cases h
  simp only[List.all_cons,Bool.and_eq_true] at aw
  obtain ⟨i1,i2,i3⟩:=z5 iP h2 aw.2
  obtain ⟨cq,wx⟩:=JV (P:=P) (w:=w) (I:=I) iP h1 aw.1
  have hd: ∀rest,(a++b++rest).drop l.size=b++rest:=fun rest=>by rw[List.append_assoc];exact nE cq
  refine ⟨by simp only[List.length_append,sk];omega,fun rest=>by simp only[fJ,List.length_cons,hd,i2],fun rest j v y hv hy=> ?_⟩
  simp only[fJ,hd] at hy
  cases j with
  | zero=>
   simp at hy
   subst hy
   exact wx _ v (hv x rfl)
  | succ j=>exact i3 rest j v y (fun x hx=>hv x (by simpa using hx)) (by simpa using hy)
end
section
variable {P:Program} {A:cM} {w w':World} {I I' I2:Nat→Prop} {μ β au:Nat→Option Nat} {hp hp' hp0:Nat→Option ah} {C:ae} {B:Nat} {M:Nat→Prop} {w0:Start}
theorem gW: ∀{l:List ah} {j:Nat},jz l j=l[j]?
 | [],j=>by simp[jz]
 | b::l,0=>rfl
 | b::l,j+1=>by simp only[jz,gW,List.getElem?_cons_succ]
theorem JW {sl:Nat→V} {k:Nat} {y:V}: ∀{l:List (Nat × VS)} {ds:List V},za sl l=some ds→(∀p∈l,∀d,oZ p.2 (sl p.1)=some d→d.length=p.2.size)→
  ds.length=n8 l∧∀rest,dY (fA l (ds++rest)) k=some y→∃s d gy,(k,s)∈l∧oZ s (sl k)=some d∧y=kD s (d++gy)
 | [],ds,h,_=>by cases h;exact ⟨rfl,fun rest h=>by cases h⟩
 | (q,s)::l,ds,h,hz=>by
  simp only[za] at h
  obtain ⟨a,h1,h⟩:=bind_some h
  obtain ⟨b,h2,h⟩:=bind_some h
  cases h
  obtain ⟨i1,i2⟩:=JW (k:=k) (y:=y) h2 fun p hp=>hz p (List.mem_cons_of_mem _ hp)
  have cq:=hz (q,s) (List.mem_cons_self ..) a h1
  refine ⟨by simp only[List.length_append,n8];simp only at cq;omega,fun rest hl=> ?_⟩
  simp only[fA,dY] at hl
  rw[show (a++b++rest).drop s.size=b++rest by rw[List.append_assoc];exact nE cq] at hl
  cases hb:Nat.beq k q with
  | true=>
   rw[hb] at hl
   rw[Nat.beq_eq] at hb
   subst hb
   cases hl
   exact ⟨s,a,b++rest,List.mem_cons_self ..,h1,by rw[List.append_assoc]⟩
  | false=>
   rw[hb] at hl
   obtain ⟨s',d,gy,m1,m2,m3⟩:=i2 rest hl
   exact ⟨s',d,gy,List.mem_cons_of_mem _ m1,m2,m3⟩
theorem JX {α:Type} {c:Bool} {x:Option α} {a:α} (h:(bif c then x else none)=some a):c=true∧x=some a:=by
 cases c with
 | true=>exact ⟨rfl,h⟩
 | false=>cases h
theorem abO {n:Nat} {b:BS} {o:Option ah} {ds:List V} (h:kC b o=some ds) (aw:b.ok n=true):ds.length=b.size:=by
 cases b with
 | dead=>cases o<;>(cases h;rfl)
 | var T0 ls=>
  cases o with
  | none=>cases h
  | some blk=>
   cases blk<;>simp only[kC] at h<;>first|(cases h;done)|skip
   exact (z5 (P:=default) (w:=default) (I:=fun _=>False) (β:=fun _=>none) (hp:=fun _=>none) (fun _ _=>⟨rfl,rfl⟩) (JX h).2 aw).1
 | arr e fz=>
  cases o with
  | none=>cases h
  | some blk=>
   cases blk<;>simp only[kC] at h<;>first|(cases h;done)|skip
   rw[ub h] at h
   cases h
   rfl
 | nest e=>
  cases o with
  | none=>cases h
  | some blk=>
   cases blk<;>simp only[kC] at h<;>first|(cases h;done)|skip
   rw[ub h] at h
   cases h
   rfl
 | map t=>
  cases o with
  | none=>cases h
  | some blk=>
   cases blk<;>simp only[kC] at h<;>first|(cases h;done)|skip
   rw[ub h] at h
   cases h
   rfl
theorem Rw {n:Nat}: ∀{l:List BS} {j:Nat} {ds:List V},zb hp j l=some ds→l.all (BS.ok n)=true→
  (∀rest,(eZ l (ds++rest)).length=l.length)∧∀(rest:List V) (i:Nat) (blk:ah),(eZ l (ds++rest))[i]? =some blk→∃b d gy,l[i]? =some b∧b.ok n=true∧kC b (hp (j+i))=some d∧blk=gb b (d++gy)
 | [],j,ds,h,_=>by cases h;exact ⟨fun _=>rfl,fun rest i blk hb=>by simp[eZ] at hb⟩
 | b::l,j,ds,h,aw=>by
  simp only[zb] at h
  obtain ⟨a,h1,h⟩:=bind_some h
  obtain ⟨c,h2,h⟩:=bind_some h
  cases h
  simp only[List.all_cons,Bool.and_eq_true] at aw
  obtain ⟨i1,i2⟩:=Rw h2 aw.2
  have cq:=abO h1 aw.1
  have hd: ∀rest,(a++c++rest).drop b.size=c++rest:=fun rest=>by rw[List.append_assoc];exact nE cq
  refine ⟨fun rest=>by simp only[eZ,List.length_cons,hd,i1],fun rest i blk hb=> ?_⟩
  simp only[eZ,hd] at hb
  cases i with
  | zero=>
   simp at hb
   exact ⟨b,a,c++rest,rfl,aw.1,h1,by rw[←hb]⟩
  | succ i=>
   obtain ⟨b',d,gy,m1,m2,m3,m4⟩:=i2 rest i blk (by simpa using hb)
   exact ⟨b',d,gy,by simpa using m1,m2,by rw[show j+(i+1)=j+1+i by omega];exact m3,m4⟩
theorem abP {n:Nat} {b:BS} {blk:ah} {ds rest:List V} (h:kC b (some blk)=some ds) (aw:b.ok n=true):
  blk.le (gb b (ds++rest))∧(gb b (ds++rest)= .dead∨gb b (ds++rest)=blk∨∃T ls cs,b= .var T ls∧blk= .var T cs∧rX ls cs=some ds∧gb b (ds++rest)= .var T (fJ ls (ds++rest))):=by
 cases b with
 | dead=>exact ⟨by cases blk<;>trivial,.inl rfl⟩
 | var T0 ls=>
  cases blk<;>simp only[kC] at h<;>first|(cases h;done)|skip
  obtain ⟨hT,h0⟩:=JX h
  clear h
  rw[Nat.beq_eq] at hT
  subst hT
  exact ⟨rfl,.inr (.inr ⟨_,_,_,rfl,rfl,h0,rfl⟩)⟩
 | arr e fz=>
  cases blk<;>simp only[kC] at h<;>first|(cases h;done)|skip
  rename_i e' es np
  have hb:=ub h
  simp only[Bool.and_eq_true,Nat.beq_eq,beq_iff_eq] at hb
  obtain ⟨rfl,rfl⟩:=hb
  simp only[Nat.beq_refl,beq_self_eq_true,Bool.and_self,cond_true,Option.some.injEq] at h
  subst h
  exact ⟨⟨rfl,rfl⟩,.inr (.inl rfl)⟩
 | nest e=>
  cases blk<;>simp only[kC] at h<;>first|(cases h;done)|skip
  rename_i e' es ak
  have hb:=ub h
  simp only[Bool.and_eq_true,Nat.beq_eq] at hb
  obtain ⟨rfl,hv⟩:=hb
  have:=wB hv
  subst this
  simp only[Nat.beq_refl,Bool.true_and] at h
  cases h
  exact ⟨⟨rfl,rfl,rfl,fun _=>Nat.le_refl _⟩,.inr (.inl rfl)⟩
 | map t=>
  cases blk<;>simp only[kC] at h<;>first|(cases h;done)|skip
  rename_i t' es
  have hb:=ub h
  rw[Nat.beq_eq] at hb
  subst hb
  simp only[Nat.beq_refl,cond_true,Option.some.injEq] at h
  subst h
  exact ⟨rfl,.inr (.inl rfl)⟩
theorem Rx {m:Nat} {S:Shape} {st:St} {ds:List V} (h:iG m S st=some ds):
  S.ok=true∧m≤S.aW.length∧∃a b,za st.sl S.bJ=some a∧zb st.hp 0 S.aW=some b∧ds=a++b:=by
 unfold iG at h
 cases hc:(S.ok&&Nat.ble m S.aW.length) with
 | false=>rw[hc] at h;cases h
 | true=>
  rw[hc] at h
  simp only[cond_true] at h
  simp only[Bool.and_eq_true,Nat.ble_eq] at hc
  obtain ⟨a,h1,h⟩:=bind_some h
  obtain ⟨b,h2,h⟩:=bind_some h
  cases h
  exact ⟨hc.1,hc.2,a,b,h1,h2,rfl⟩
theorem reshape {m:Nat} {S:Shape} {st:St} {ds:List V} (h:iG m S st=some ds) (hS:aE P w I β st.hp B M w0):
  aE P w I β (bm S ds).hp B M w0∧(∀(k:Nat) (v:Value),ai P w I β st.hp v (st.sl k)→ai P w I β (bm S ds).hp v ((bm S ds).sl k))∧
  (∀(μ:Nat→Option Nat) (hp0:Nat→Option ah),(∀id blk,hp0 id=some blk→id<m)→Le P w0.w w0.I μ hp0 w I β st.hp→Le P w0.w w0.I μ hp0 w I β (bm S ds).hp)∧
  ∀j blk',(bm S ds).hp j=some blk'→blk'≠ .dead→∃blk,st.hp j=some blk∧blk.le blk'∧∀o b,bw P w o blk' b→bw P w o blk b:=by
 obtain ⟨aw,hm,a,b,h1,h2,rfl⟩:=Rx h
 unfold Shape.ok at aw
 rw[Bool.and_eq_true] at aw
 obtain ⟨Ry,JF⟩:=aw
 have a8: ∀p∈S.bJ,∀d,oZ p.2 (st.sl p.1)=some d→d.length=p.2.size:=fun p hp d hd=>
  (JV (P:=P) (w:=w) (I:=I) (β:=β) (hp:=st.hp) (fun _ _=>⟨rfl,rfl⟩) hd (List.all_eq_true.1 Ry p hp)).1
 have cq:a.length=n8 S.bJ:=(JW (k:=0) (y:= .undef) h1 a8).1
 have Fa:(bm S (a++b)).hp=jz (eZ S.aW (b++[])):=by
  simp only[bm,mk,List.append_nil]
  rw[nE cq]
 obtain ⟨bl,bg⟩:=Rw h2 JF
 have get: ∀j blk',(bm S (a++b)).hp j=some blk'→j<S.aW.length∧∃bs d gy,bs.ok S.aW.length=true∧kC bs (st.hp j)=some d∧blk'=gb bs (d++gy):=by
  intro j blk' hj
  rw[Fa,gW] at hj
  obtain ⟨bs,d,gy,m1,m2,m3,m4⟩:=bg [] j blk' hj
  rw[Nat.zero_add] at m3
  exact ⟨(List.getElem?_eq_some_iff.1 m1).1,bs,d,gy,m2,m3,m4⟩
 have have': ∀j,j<S.aW.length→∃blk',(bm S (a++b)).hp j=some blk':=by
  intro j hj
  rw[Fa,gW]
  exact ⟨_,List.getElem?_eq_getElem (by rw[bl];exact hj)⟩
 generalize gS:(bm S (a++b)).hp=uc at*
 let br:Nat→Option ah:=fun id=>if id<S.aW.length then uc id else st.hp id
 have back: ∀j blk',uc j=some blk'→blk'≠ .dead→∃blk,st.hp j=some blk∧blk.le blk'∧(blk'=blk∨∃T ls cs d gy,ls.all (VS.ok S.aW.length)=true∧blk= .var T cs∧rX ls cs=some d∧blk'= .var T (fJ ls (d++gy))):=by
  intro j blk' hj hd
  obtain ⟨dd,bs,d,gy,m1,m2,m3⟩:=get j blk' hj
  cases cK:st.hp j with
  | none=>
   rw[cK] at m2
   cases bs<;>simp only[kC] at m2<;>first|(cases m2;done)|skip
   exact absurd m3 hd
  | some blk=>
   rw[cK] at m2
   obtain ⟨n1,n2⟩:=abP (rest:=gy) m2 m1
   rw[←m3] at n1 n2
   refine ⟨blk,rfl,n1,?_⟩
   rcases n2 with e|e|⟨T,ls,cs,e1,e2,e3,e4⟩
   ·exact absurd e hd
   ·exact .inl e
   ·subst e1
    exact .inr ⟨T,ls,cs,d,gy,m1,e2,e3,e4⟩
 have le1: ∀j blk,st.hp j=some blk→j<S.aW.length→∃blk',uc j=some blk'∧blk.le blk':=by
  intro j blk hj dd
  obtain ⟨blk',ax⟩:=have' j dd
  refine ⟨blk',ax,?_⟩
  by_cases hd:blk'= .dead
  ·subst hd;cases blk<;>trivial
  ·obtain ⟨b7,e1,e2,_⟩:=back j blk' ax hd
   rw[hj] at e1;cases e1
   exact e2
 have abQ: ∀j e es ak e' aQ vers',st.hp j=some (.nest e es ak)→uc j=some (.nest e' aQ vers')→e'=e∧aQ=es∧vers'=ak:=by
  intro j e es ak e' aQ vers' hj gK
  obtain ⟨blk,e1,_,e3⟩:=back j _ gK (by simp)
  rw[hj] at e1;cases e1
  rcases e3 with e3|⟨_,_,_,_,_,_,e3,_⟩
  ·cases e3;exact ⟨rfl,rfl,rfl⟩
  ·cases e3
 have hle:Le P w I β st.hp w I β br:=by
  refine ⟨fun _ h=>h,fun _ _=>rfl,fun id blk af=> ?_,fun _ _ _ _ _ _ _ _=>rfl,Le.sx (fun _ _ _ _ _ _=>rfl) fun id e es ak e' aQ vers' af bC=> ?_⟩
  ·by_cases hl:id<S.aW.length
   ·obtain ⟨blk',e1,e2⟩:=le1 id blk af hl
    exact ⟨blk',by simp only[br,if_pos hl];exact e1,e2,fun _=>rfl⟩
   ·exact ⟨blk,by simp only[br,if_neg hl];exact af,ah.le_refl _,fun _=>rfl⟩
  ·by_cases hl:id<S.aW.length
   ·simp only[br,if_pos hl] at bC
    exact abQ _ _ _ _ _ _ _ af bC
   ·simp only[br,if_neg hl] at bC
    rw[af] at bC;cases bC
    exact ⟨rfl,rfl,rfl⟩
 have iP:zZ S.aW.length β br β uc:=fun id af=>⟨by simp only[br,if_pos af],rfl⟩
 have wj: ∀j blk' blk o b,uc j=some blk'→st.hp j=some blk→bw P w o blk' b→bw P w o blk b:=by
  intro j blk' blk o b gK hj ho
  obtain ⟨b7,e1,_,e3⟩:=back j blk' gK ho.alive
  rw[hj] at e1;cases e1
  rcases e3 with e3|⟨T,ls,cs,d,gy,_,e3,_,e5⟩
  ·subst e3;exact ho
  ·subst e3;subst e5
   exact .root (by simp) (ho.flat (by simp))
 refine ⟨⟨⟨fun j blk' hj=> ?_,fun j1 j2 b1 b2 b' e1 e2 o1 o2=> ?_,fun j blk b' hj ho=> ?_,hS.h.jC⟩,hS.cp,hS.size,hS.new,hS.io⟩,fun k v hv=> ?_,fun μ hp0 aX hE=> ?_,fun j blk' hj hd=> ?_⟩
 ·by_cases hd:blk'= .dead
  ·subst hd;exact .dead
  ·obtain ⟨blk,e1,_,e3⟩:=back j blk' hj hd
   have hr:=hS.h.rel j blk e1
   generalize β j=o at hr
   rcases e3 with e3|⟨T0,ls,cs,d,gy,q1,e3,e4,e5⟩
   ·subst e3
    cases hr with
    | @var xs b' Ca T hb hh hs cW hx gv=>
     obtain ⟨dd,bs,d,gy,m1,m2,m3⟩:=get j _ hj
     rw[e1] at m2
     cases bs<;>simp only[kC] at m2<;>first|(cases m2;done)|skip
     ·rename_i T0 ls
      simp only[gb] at m3
      obtain ⟨hT,m2⟩:=JX m2
      obtain ⟨i1,i2,i3⟩:=z5 (P:=P) (w:=w) (I:=I) iP m2 m1
      injection m3 with m4 m3
      rw[m3]
      exact .var hb hh (by rw[i2];exact hs) cW (fun i v y hi hy=>i3 gy i v y (fun x cH=>(hx i v x hi cH).mono hle) hy) gv
     ·simp only[gb] at m3
      cases m3
    | eb hb=>exact .eb hb
    | arr a1 a2 a3 a4 a5 a6 a7=>exact .arr a1 a2 a3 a4 a5 a6 a7
    | dead=>exact absurd rfl hd
    | nest a1 a2 a3=>exact .nest a1 a2 a3
    | map a1 a2 a3 a4 a5 a6 a7=>exact .map a1 a2 a3 a4 a5 a6 a7
   ·subst e3
    subst e5
    cases hr with
    | @var xs b' Ca T hb hh hs cW hx gv=>
     obtain ⟨i1,i2,i3⟩:=z5 (P:=P) (w:=w) (I:=I) iP e4 q1
     exact .var hb hh (by rw[i2];exact hs) cW (fun i v y hi hy=>i3 gy i v y (fun x cH=>(hx i v x hi cH).mono hle) hy) gv
 ·obtain ⟨c1,x1,_,_⟩:=back j1 b1 e1 o1.alive
  obtain ⟨c2,x2,_,_⟩:=back j2 b2 e2 o2.alive
  exact hS.h.inj j1 j2 c1 c2 b' x1 x2 (wj _ _ _ _ _ e1 x1 o1) (wj _ _ _ _ _ e2 x2 o2)
 ·obtain ⟨c1,x1,_,_⟩:=back j blk hj ho.alive
  exact hS.h.own j c1 b' x1 (wj _ _ _ _ _ hj x1 ho)
 ·change ai P w I β uc v (jk (fA S.bJ (a++b)) k)
  unfold jk
  cases JY:dY (fA S.bJ (a++b)) k with
  | none=>exact .undef
  | some y=>
   obtain ⟨s,d,gy,n1,n2,n3⟩:=(JW h1 a8).2 b JY
   simp only[Option.getD_some,n3]
   exact (JV (P:=P) (w:=w) (I:=I) iP n2 (List.all_eq_true.1 Ry _ n1)).2 gy v (hv.mono hle)
 ·have h3:=hE.trans hle
  refine ⟨h3.dE,h3.cp,fun id blk af=> ?_,fun id blk blk' b' af bC hd hb=> ?_,fun id e es ak e' aQ vers' b2 q i c t v e1 l af bC=> ?_⟩
  ·have hl:=aX id blk af
   obtain ⟨blk',k1,k2,k3⟩:=h3.blk id blk af
   simp only[br,if_pos (show id<S.aW.length by omega)] at k1
   exact ⟨blk',k1,k2,k3⟩
  ·have hl:=aX id blk af
   exact h3.size id blk blk' b' af (by simp only[br,if_pos (show id<S.aW.length by omega)];exact bC) hd hb
  ·have hl:=aX id _ af
   exact h3.row id e es ak e' aQ vers' b2 q i c t v e1 l af (by simp only[br,if_pos (show id<S.aW.length by omega)];exact bC)
 ·obtain ⟨blk,e1,e2,_⟩:=back j blk' hj hd
  exact ⟨blk,e1,e2,fun o b' ho=>wj _ _ _ _ _ hj e1 ho⟩
end
section
variable {P:Program} {A:cM} {w w':World} {I I' I2:Nat→Prop} {μ β au:Nat→Option Nat} {hp hp' hp0:Nat→Option ah} {C:ae} {B:Nat} {M:Nat→Prop} {w0:Start}
inductive ep (P:Program) (w:World) (β:Nat→Option Nat) (hp:Nat→Option ah):Place→Option Nat→ah→Prop
 | var {id:Nat} {T:TypeId} {cs JZ:List V}:hp id=some (.var T cs)→ep P w β hp (.blk id) (β id) (.var T JZ)
 | arr {id:Nat} {e:TypeId} {es:List V}:hp id=some (.arr e es false)→ep P w β hp (.blk id) (β id) (.arr e es false)
 | nest {id:Nat} {e:TypeId} {es:List V} {ak:List Nat}:hp id=some (.nest e es ak)→ep P w β hp (.blk id) (β id) (.nest e es [0,0,0])
 | row {id ver b b':Nat} {path:Path} {e0 e':TypeId} {es l:List V} {ak:List Nat}:hp id=some (.nest e0 es ak)→β id=some b→At P w b e0 es path b' e' l→y9 P e'=true→
   0<path.length→path.length≤ak.length→bB ak (path.length-1)=ver→0<l.length→ep P w β hp (.row id ver path) (some b') (.arr e' l false)
 | map {id:Nat} {t:TypeId} {es:List V}:hp id=some (.map t es)→ep P w β hp (.blk id) (β id) (.map t es)
def z6 (P:Program) (w:World) (β:Nat→Option Nat) (hp:Nat→Option ah) (ρ:List Place) (μ:Nat→Option Nat) (hp0:Nat→Option ah):Prop:=
 ∀j p,eC ρ j=some p→∃blk,hp0 j=some blk∧ep P w β hp p (μ j) blk
theorem ot: ∀{l m:List Place} {j:Nat} {p:Place},eC l j=some p→eC (l++m) j=some p
 | [],m,j,p,h=>by cases h
 | a::l,m,0,p,h=>h
 | a::l,m,j+1,p,h=>ot (l:=l) h
theorem lJ: ∀{l:List Place} {j:Nat},eC l j=l[j]?
 | [],j=>by simp[eC]
 | a::l,0=>rfl
 | a::l,j+1=>by simp only[eC,lJ,List.getElem?_cons_succ]
structure Ext (P:Program) (w:World) (I:Nat→Prop) (β:Nat→Option Nat) (hp:Nat→Option ah) (h h':Hand) (d:List V) (u:List (Nat × ah)):Prop where
 ds:h'.ds=h.ds++d
 upd:h'.upd=h.upd++u
 Fo: ∀q∈u,zu hp q
 pl: ∃m,h'.pl=h.pl++m
 nodup:(h.pl.map Place.id).Nodup→(h'.pl.map Place.id).Nodup
theorem Ext.refl (h:Hand):Ext P w I β hp h h [] []:=⟨by simp,by simp,by simp,⟨[],by simp⟩,id⟩
theorem Ext.trans {h1 h2 h3:Hand} {d1 d2:List V} {u1 u2:List (Nat × ah)} (a:Ext P w I β hp h1 h2 d1 u1) (b:Ext P w I β hp h2 h3 d2 u2):Ext P w I β hp h1 h3 (d1++d2) (u1++u2):=by
 obtain ⟨m1,e1⟩:=a.pl
 obtain ⟨m2,e2⟩:=b.pl
 exact ⟨by rw[b.ds,a.ds,List.append_assoc],by rw[b.upd,a.upd,List.append_assoc],fun q hq=>(List.mem_append.1 hq).elim (a.Fo q) (b.Fo q),⟨m1++m2,by rw[e2,e1,List.append_assoc]⟩,fun h=>b.nodup (a.nodup h)⟩
theorem Ext.look {h h':Hand} {d:List V} {u:List (Nat × ah)} (a:Ext P w I β hp h h' d u) {j:Nat} {p:Place} (hj:eC h.pl j=some p):eC h'.pl j=some p:=by
 obtain ⟨m,e⟩:=a.pl
 rw[e]
 exact ot hj
theorem Ext.leaf (h:Hand) (x:V):Ext P w I β hp h {h with ds:=h.ds++[x]} [x] []:=⟨rfl,by simp,by simp,⟨[],by simp⟩,id⟩
theorem abR {α:Type} {ρ:List Place} {j:Nat} {p:Place} {k:List Place→Rd α} {r:α} {rd:List Nat} (h:(unify ρ j p k).run C hp=some (r,rd)) (hb: ∃id,p= .blk id∨∃ver path,p= .row id ver path):
  ∃jJ,(k jJ).run C hp=some (r,rd)∧(∃m,jJ=ρ++m)∧eC jJ j=some p∧((ρ.map Place.id).Nodup→(jJ.map Place.id).Nodup):=by
 unfold unify at h
 cases hc:Nat.blt j ρ.length with
 | true=>
  rw[hc] at h
  obtain ⟨h1,h2⟩:=aH h
  refine ⟨ρ,h2,⟨[],by simp⟩,?_,id⟩
  unfold P8 at h1
  split at h1
  ·rename_i a b he
   rw[Nat.beq_eq] at h1
   subst h1
   exact he
  ·cases h1
 | false=>
  rw[hc] at h
  obtain ⟨h1,h2⟩:=aH h
  simp only[Bool.and_eq_true,Nat.beq_eq,Bool.not_eq_true'] at h1
  obtain ⟨rfl,h3⟩:=h1
  refine ⟨ρ++[p],h2,⟨[p],rfl⟩,?_,fun hn=> ?_⟩
  ·rw[lJ];simp
  ·rw[List.map_append,List.nodup_append]
   refine ⟨hn,by simp,fun a ha b hb=> ?_⟩
   simp only[List.map_cons,List.map_nil,List.mem_singleton] at hb
   subst hb
   intro e
   subst e
   rw[we ha] at h3
   cases h3
theorem ud {α:Type} {h:Hand} {j:Nat} {p:Place} {k:List Place→Rd α} {r:α} {rd:List Nat} (hr:(unify h.pl j p k).run C hp=some (r,rd)) (ds:List V):
  ∃jJ,(k jJ).run C hp=some (r,rd)∧eC jJ j=some p∧Ext P w I β hp h {h with pl:=jJ,ds:=h.ds++ds} ds []:=by
 obtain ⟨jJ,a,b,c,d⟩:=abR hr (by cases p with|blk id=>exact ⟨id,.inl rfl⟩|row id ver path=>exact ⟨id,.inr ⟨ver,path,rfl⟩⟩)
 exact ⟨jJ,a,c,⟨rfl,by simp,by simp,b,d⟩⟩
theorem abS {o:Option Nat} {blk:ah} {e:TypeId} {id j:Nat} {v:Value} (hv:ai P w I β hp v (.whole e id)) (hl:ep P w β hp (.blk id) o blk) (hj:hp0 j=some blk) (jK:μ j=o):ai P w I' μ hp0 v (.whole e j):=by
 cases hl with
 | var h=>
  cases hv with
  | eD h2=>rw[h] at h2;cases h2
  | dZ h2=>rw[h] at h2;cases h2
  | whole h2=>rw[h] at h2;cases h2
  | eL h2=>rw[h] at h2;cases h2
 | arr h=>
  cases hv with
  | eD h2=>rw[h] at h2;cases h2
  | dZ h2 hb=>rw[h] at h2;cases h2;exact .dZ hj (jK.trans hb)
  | whole h2 hb a b c=>rw[h] at h2;cases h2;exact .whole hj (jK.trans hb) a b c
  | eL h2=>rw[h] at h2;cases h2
 | nest h=>
  cases hv with
  | eD h2=>rw[h] at h2;cases h2
  | dZ h2=>rw[h] at h2;cases h2
  | whole h2=>rw[h] at h2;cases h2
  | eL h2 hb a b c=>rw[h] at h2;cases h2;exact .eL hj (jK.trans hb) a b c
 | map h=>
  cases hv with
  | eD h2=>rw[h] at h2;cases h2
  | dZ h2=>rw[h] at h2;cases h2
  | whole h2=>rw[h] at h2;cases h2
  | eL h2=>rw[h] at h2;cases h2
theorem abT {o:Option Nat} {blk:ah} {t:TypeId} {id j:Nat} {v:Value} (hv:ai P w I β hp v (.bX t id)) (hl:ep P w β hp (.blk id) o blk) (hj:hp0 j=some blk) (jK:μ j=o):ai P w I' μ hp0 v (.bX t j):=by
 cases hv with
 | ig h2=>cases hl<;>(rename_i h;rw[h] at h2;cases h2)
 | bX h2 hb=>
  cases hl<;>(rename_i h;rw[h] at h2;cases h2)
  exact .bX hj (jK.trans hb)
theorem abU {o:Option Nat} {blk:ah} {e:TypeId} {id off n j:Nat} {v:Value} (hv:ai P w I β hp v (.sub e id off n)) (hl:ep P w β hp (.blk id) o blk) (hj:hp0 j=some blk) (jK:μ j=o):ai P w I' μ hp0 v (.sub e j off n):=by
 cases hl with
 | var h=>
  cases hv with
  | gr h2=>rw[h] at h2;cases h2
  | gh h2=>rw[h] at h2;cases h2
  | sub h2=>rw[h] at h2;cases h2
 | arr h=>
  cases hv with
  | gr h2=>rw[h] at h2;cases h2
  | gh h2 hb=>rw[h] at h2;cases h2;exact .gh hj (jK.trans hb)
  | sub h2 hb a b c=>rw[h] at h2;cases h2;exact .sub hj (jK.trans hb) a b c
 | nest h=>
  cases hv with
  | gr h2=>rw[h] at h2;cases h2
  | gh h2=>rw[h] at h2;cases h2
  | sub h2=>rw[h] at h2;cases h2
 | map h=>
  cases hv with
  | gr h2=>rw[h] at h2;cases h2
  | gh h2=>rw[h] at h2;cases h2
  | sub h2=>rw[h] at h2;cases h2
theorem Rz {o:Option Nat} {blk:ah} {id i c j:Nat} {v:Value} (hv:ai P w I β hp v (.ptr id i c)) (hl:ep P w β hp (.blk id) o blk) (hj:hp0 j=some blk) (jK:μ j=o):ai P w I' μ hp0 v (.ptr j i c):=by
 cases hl with
 | @var _ T0 cs JZ h=>
  obtain ⟨b,hb,rfl⟩:=hv.gU h (by simp)
  exact ai.ptr (blk:= .var T0 JZ) hj (by simp) (jK.trans hb)
 | @arr _ e es h=>
  obtain ⟨b,hb,rfl⟩:=hv.gU h (by simp)
  exact ai.ptr (blk:= .arr e es false) hj (by simp) (jK.trans hb)
 | @nest _ e es ak h=>
  obtain ⟨b,hb,rfl⟩:=hv.gU h (by simp)
  exact ai.ptr (blk:= .nest e es [0,0,0]) hj (by simp) (jK.trans hb)
 | @map _ t es h=>
  obtain ⟨b,hb,rfl⟩:=hv.gU h (by simp)
  exact ai.ptr (blk:= .map t es) hj (by simp) (jK.trans hb)
theorem abV (cN: ∀id blk,hp id=some blk→en P w I β hp (β id) blk) {id b i c:Nat} {e0 t:TypeId} {es l:List V} {ak:List Nat} {q:Path} {e:TypeId} {v:Value} (af:hp id=some (.nest e0 es ak)) (hb:β id=some b)
  (ht:P.underlying t=some (.slice e)) (hc:mn P w b e0 es q i c t v (.list e l)) (hl:0<l.length): ∃b1 cap,v= .slice (some ⟨b1,0,none⟩) l.length cap∧cap*P.cellsOf e=bsize w b1∧l.length≤cap∧cap≤maxLen∧At P w b e0 es (q++[(i,c)]) b1 e l:=by
 obtain ⟨b2,e1,m,Ca,T,f,x,n1,n2,n3,n4,n5,n6⟩:=hc
 have hr:=cN _ _ af
 cases hr with
 | nest ax hr hn=>
  rw[hb] at ax;cases ax
  have hR:=hr _ _ _ _ n1
  obtain ⟨zz,c1,c2,c3⟩:=hR.cells
  rw[n2] at c1
  cases c1
  have tJ:c<P.cellsOf e1:=by rw[←fM hR.ok];exact (List.getElem?_eq_some_iff.1 n4).1
  obtain ⟨v',d1,d2⟩:=c3 i c x t n3 n4 tJ
  rw[n6] at d1
  cases d1
  rw[n5] at d2
  generalize hy:V.list e l=y at d2
  cases d2 with
  | gg a p=>unfold ga at a;rw[ht] at a;cases a
  | emp hu ha=>cases hy;simp at hl
  | row hu mq a8 cj lB=>
   cases hy
   exact ⟨_,_,rfl,a8,cj,lB,n1.snoc n2 n3 n4 ht n5 mq n6⟩
theorem abW (S:aE P w I β hp B M w0) {o:Option Nat} {blk:ah} {e:TypeId} {id ver j:Nat} {path:Path} {v:Value} (hv:ai P w I β hp v (.row e id ver path)) (hl:ep P w β hp (.row id ver path) o blk) (hj:hp0 j=some blk) (jK:μ j=o):ai P w I' μ hp0 v (.whole e j):=by
 cases hl with
 | row h hb ha hf h1 h2 h3 h4=>
  obtain ⟨b2,q,i,c,t,l2,rfl,iK,ht,hc⟩:=hv.Qf h h1 h2 h3
  rw[hb] at iK;cases iK
  obtain ⟨p1,p2⟩:=I4 ha
  have jD:=hc
  obtain ⟨b3,e3,m3,Ca,T,f,x,n1,n2,n3,n4,n5,n6⟩:=jD
  obtain ⟨q1,q2⟩:=EF n1 n3 n4 ht n5
  rw[p1] at q1
  rw[p2] at q2
  cases q1
  cases q2
  obtain ⟨b1,cap,rfl,m1,m2,m4,m5⟩:=abV S.h.rel h hb ht hc h4
  have:=abX ha m5
  subst this
  exact .whole hj jK m1 m2 m4
where
 abX {b b1 b2:Nat} {e e1 e2:TypeId} {es l l2:List V} {q:Path} (h:At P w b e es q b1 e1 l) (h2:At P w b e es q b2 e2 l2):b2=b1:=(h.fun h2).1
theorem RA (S:aE P w I β hp B M w0) {α:Type} {l:LS} {x:V} {h:Hand} {k:Hand→Rd α} {r:α} {rd:List Nat} {v:Value} (hr:(Et P l x h k).run C hp=some (r,rd)) (hv:ai P w I β hp v x):
  ∃h' ff d u,(k h').run C hp=some (r,ff)∧Ext P w I β hp h h' d u∧d.length=l.size∧
   ∀(I':Nat→Prop) (μ:Nat→Option Nat) (hp0:Nat→Option ah),(∀b,I b→I' b)→(∀q∈u,∀b,sy P w β hp q.1 b→I' b)→∀ρ m,ρ=h'.pl++m→z6 P w β hp ρ μ hp0→∀rest,ai P w I' μ hp0 v (iF l (d++rest)):=by
 have plain: ∀{x':V} {jr:List Nat},(k {h with ds:=h.ds++[x']}).run C hp=some (r,jr)→l.size=1→(∀I' μ hp0 rest,ai P w I' μ hp0 v (iF l ([x']++rest)))→∃h' ff d u,(k h').run C hp=some (r,ff)∧Ext P w I β hp h h' d u∧d.length=l.size∧
   ∀(I':Nat→Prop) (μ:Nat→Option Nat) (hp0:Nat→Option ah),(∀b,I b→I' b)→(∀q∈u,∀b,sy P w β hp q.1 b→I' b)→∀ρ m,ρ=h'.pl++m→z6 P w β hp ρ μ hp0→∀rest,ai P w I' μ hp0 v (iF l (d++rest)):=
  fun hk hs hx=>⟨_,_,_,_,hk,Ext.leaf h _,hs.symm,fun I' μ hp0 _ _ _ _ _ _ rest=>hx I' μ hp0 rest⟩
 have ph: ∀{jr:List Nat},(k h).run C hp=some (r,jr)→l.size=0→(∀I' μ hp0 rest,ai P w I' μ hp0 v (iF l rest))→∃h' ff d u,(k h').run C hp=some (r,ff)∧Ext P w I β hp h h' d u∧d.length=l.size∧
   ∀(I':Nat→Prop) (μ:Nat→Option Nat) (hp0:Nat→Option ah),(∀b,I b→I' b)→(∀q∈u,∀b,sy P w β hp q.1 b→I' b)→∀ρ m,ρ=h'.pl++m→z6 P w β hp ρ μ hp0→∀rest,ai P w I' μ hp0 v (iF l (d++rest)):=
  fun hk hs hx=>⟨_,_,_,_,hk,Ext.refl h,by simp[hs],fun I' μ hp0 _ _ _ _ _ _ rest=>hx I' μ hp0 rest⟩
 unfold Et at hr
 cases l with
 | sa=>exact ph hr rfl fun _ _ _ _=> .undef
 | int kd=>
  cases x<;>simp only at hr<;>first|(cases hr;done)|skip
  obtain ⟨h1,h2⟩:=aH hr
  simp only[decide_eq_true_eq] at h1
  subst h1
  obtain rfl:=hv.eM
  exact plain h2 rfl fun _ _ _ _=> .int
 | bool=>
  cases x<;>simp only at hr<;>first|(cases hr;done)|skip
  obtain rfl:=hv.jF
  exact plain hr rfl fun _ _ _ _=> .bool
 | str=>
  cases x<;>simp only at hr<;>first|(cases hr;done)|skip
  obtain ⟨s,rfl,hl⟩:=hv.my
  exact plain hr rfl fun _ _ _ _=> .str hl
 | nilS e=>
  cases x<;>simp only at hr<;>first|(cases hr;done)|skip
  obtain ⟨h1,h2⟩:=aH hr
  cases hv with
  | nilS=>exact ph h2 rfl fun _ _ _ _=> .nilS
 | dN=>
  cases x<;>simp only at hr<;>first|(cases hr;done)|skip
  cases hv with
  | dN=>exact ph hr rfl fun _ _ _ _=> .dN
 | row e j cs=>
  cases x<;>simp only at hr<;>first|(cases hr;done)|skip
  rename_i e' id ver path
  obtain ⟨e0,es,ak,l0,af,p1,p2,p3,hr⟩:=od hr
  obtain ⟨h1,h2⟩:=aH hr
  simp only[Bool.and_eq_true,Nat.beq_eq,Nat.ble_eq] at h1
  obtain ⟨rfl,og,hp3⟩:=h1
  have:=wB og
  subst this
  obtain ⟨jJ,a,b,c⟩:=ud (P:=P) (w:=w) (I:=I) (β:=β) h2 (path.map fun p=>eB p.1)
  refine ⟨_,_,path.map fun p=>eB p.1,[],a,c,by simp[LS.size],fun I' μ hp0 i1 i2 ρ m dR dm rest=> ?_⟩
  obtain ⟨blk,k1,k2⟩:=dm j _ (by rw[dR];exact ot b)
  obtain ⟨bb,q,i,cc,t,l,rfl,hb,ht,hc⟩:=hv.Qf af p1 p2 p3
  have qm:blk= .nest e0 es [0,0,0]∧μ j=β id:=by
   generalize μ j=o at k2
   cases k2 with
   | var h=>rw[af] at h;cases h
   | arr h=>rw[af] at h;cases h
   | map h=>rw[af] at h;cases h
   | nest h=>rw[af] at h;cases h;exact ⟨rfl,rfl⟩
  obtain ⟨rfl,jK⟩:=qm
  simp only[iF,Fl]
  have hq:q.length<3:=by rw[List.length_append,List.length_singleton] at hp3;omega
  refine .row k1 (jK.trans hb) (by simpa using hq) ?_ ht hc
  match q.length,hq with
  | 0,_=>rfl
  | 1,_=>rfl
  | 2,_=>rfl
 | cL j cs c=>cases hr
 | vI k n=>cases hr
 | dO t=>
  cases x<;>simp only at hr<;>first|(cases hr;done)|skip
  obtain ⟨h1,h2⟩:=aH hr
  cases hv with
  | dO=>exact ph h2 rfl fun _ _ _ _=> .dO
 | bX t j=>
  cases x<;>simp only at hr<;>first|(cases hr;done)|skip
  rename_i t' id
  obtain ⟨h1,h2⟩:=aH hr
  rw[Nat.beq_eq] at h1
  subst h1
  obtain ⟨jJ,a,b,c⟩:=ud (P:=P) (w:=w) (I:=I) (β:=β) h2 []
  refine ⟨_,_,[],[],a,by simpa using c,rfl,fun I' μ hp0 i1 i2 ρ m dR dm rest=> ?_⟩
  obtain ⟨blk,k1,k2⟩:=dm j _ (by rw[dR];exact ot b)
  exact abT hv k2 k1 rfl
 | list e=>
  obtain ⟨⟨y,u⟩,l1,l2,h1,h2⟩:=kG hr
  cases y<;>simp only at h2<;>first|(cases h2;done)|skip
  rename_i e' es
  obtain ⟨h3,h4⟩:=aH h2
  rw[Nat.beq_eq] at h3
  subst h3
  obtain ⟨p1,p2⟩:=EG S.h.rel h1 hv
  exact ⟨_,_,[.list e es],u,h4,⟨rfl,rfl,p1,⟨[],by simp⟩,id⟩,rfl,fun I' μ hp0 i1 i2 _ _ _ _ rest=> .list (p2 I' i1 i2)⟩
 | whole e j=>
  cases x<;>simp only at hr<;>first|(cases hr;done)|skip
  ·rename_i e' id
   obtain ⟨h1,h2⟩:=aH hr
   rw[Nat.beq_eq] at h1
   subst h1
   obtain ⟨jJ,a,b,c⟩:=ud (P:=P) (w:=w) (I:=I) (β:=β) h2 []
   refine ⟨_,_,[],[],a,by simpa using c,rfl,fun I' μ hp0 i1 i2 ρ m dR dm rest=> ?_⟩
   obtain ⟨blk,k1,k2⟩:=dm j _ (by rw[dR];exact ot b)
   exact abS hv k2 k1 rfl
  ·rename_i e' id ver path
   obtain ⟨h1,h2⟩:=aH hr
   rw[Nat.beq_eq] at h1
   subst h1
   obtain ⟨jJ,a,b,c⟩:=ud (P:=P) (w:=w) (I:=I) (β:=β) h2 []
   refine ⟨_,_,[],[],a,by simpa using c,rfl,fun I' μ hp0 i1 i2 ρ m dR dm rest=> ?_⟩
   obtain ⟨blk,k1,k2⟩:=dm j _ (by rw[dR];exact ot b)
   exact abW S hv k2 k1 rfl
 | sub e j=>
  cases x<;>simp only at hr<;>first|(cases hr;done)|skip
  rename_i e' id o n
  obtain ⟨h1,h2⟩:=aH hr
  rw[Nat.beq_eq] at h1
  subst h1
  obtain ⟨jJ,a,b,c⟩:=ud (P:=P) (w:=w) (I:=I) (β:=β) h2 [eB o,eB n]
  refine ⟨_,_,[eB o,eB n],[],a,c,rfl,fun I' μ hp0 i1 i2 ρ m dR dm rest=> ?_⟩
  obtain ⟨blk,k1,k2⟩:=dm j _ (by rw[dR];exact ot b)
  simpa[iF,V.nth] using abU (I':=I') hv k2 k1 rfl
 | ptr j=>
  cases x<;>simp only at hr<;>first|(cases hr;done)|skip
  rename_i id i c
  obtain ⟨jJ,a,b,c'⟩:=ud (P:=P) (w:=w) (I:=I) (β:=β) hr [eB i,eB c]
  refine ⟨_,_,[eB i,eB c],[],a,c',rfl,fun I' μ hp0 i1 i2 ρ m dR dm rest=> ?_⟩
  obtain ⟨blk,k1,k2⟩:=dm j _ (by rw[dR];exact ot b)
  simpa[iF,V.nth] using Rz (I':=I') hv k2 k1 rfl
 | ej j i c=>
  cases x<;>simp only at hr<;>first|(cases hr;done)|skip
  rename_i id i' c'
  obtain ⟨h1,h2⟩:=aH hr
  simp only[Bool.and_eq_true,Nat.beq_eq] at h1
  obtain ⟨rfl,rfl⟩:=h1
  obtain ⟨jJ,a,b,c'⟩:=ud (P:=P) (w:=w) (I:=I) (β:=β) h2 []
  refine ⟨_,_,[],[],a,by simpa using c',rfl,fun I' μ hp0 i1 i2 ρ m dR dm rest=> ?_⟩
  obtain ⟨blk,k1,k2⟩:=dm j _ (by rw[dR];exact ot b)
  exact Rz hv k2 k1 rfl
end
section
variable {P:Program} {A:cM} {w w':World} {I I' I2:Nat→Prop} {μ β au:Nat→Option Nat} {hp hp' hp0:Nat→Option ah} {C:ae} {B:Nat} {M:Nat→Prop} {w0:Start}
def mH (P:Program) (w:World) (I:Nat→Prop) (β:Nat→Option Nat) (hp:Nat→Option ah) (h':Hand) (u:List (Nat × ah)) (K:(Nat→Prop)→(Nat→Option Nat)→(Nat→Option ah)→Prop):Prop:=
 ∀(I':Nat→Prop) (μ:Nat→Option Nat) (hp0:Nat→Option ah),(∀b,I b→I' b)→(∀q∈u,∀b,sy P w β hp q.1 b→I' b)→∀ρ m,ρ=h'.pl++m→z6 P w β hp ρ μ hp0→K I' μ hp0
theorem mH.later {h h':Hand} {d:List V} {u u':List (Nat × ah)} {K:(Nat→Prop)→(Nat→Option Nat)→(Nat→Option ah)→Prop} (t:mH P w I β hp h u K) (e:Ext P w I β hp h h' d u'):mH P w I β hp h' (u++u') K:=by
 obtain ⟨m1,e1⟩:=e.pl
 exact fun I' μ hp0 i1 i2 ρ m dR dm=>t I' μ hp0 i1 (fun q hq=>i2 q (List.mem_append.2 (.inl hq))) ρ (m1++m) (by rw[dR,e1,List.append_assoc]) dm
theorem mH.more {h:Hand} {u u':List (Nat × ah)} {K:(Nat→Prop)→(Nat→Option Nat)→(Nat→Option ah)→Prop} (t:mH P w I β hp h u K):mH P w I β hp h (u'++u) K:=
 fun I' μ hp0 i1 i2 ρ m dR dm=>t I' μ hp0 i1 (fun q hq=>i2 q (List.mem_append.2 (.inr hq))) ρ m dR dm
theorem Fp (S:aE P w I β hp B M w0) {α:Type}: ∀{ls:List LS} {xs:List V} {h:Hand} {k:Hand→Rd α} {r:α} {rd:List Nat} {vs:List Value},(vQ P ls xs h k).run C hp=some (r,rd)→vs.length=xs.length→
  (∀(j:Nat) v x,vs[j]? =some v→xs[j]? =some x→ai P w I β hp v x)→
  ∃h' ff d u,(k h').run C hp=some (r,ff)∧Ext P w I β hp h h' d u∧d.length=j6 ls∧ls.length=xs.length∧
   mH P w I β hp h' u fun I' μ hp0=> ∀rest,(hG ls (d++rest)).length=xs.length∧∀(j:Nat) v y,vs[j]? =some v→(hG ls (d++rest))[j]? =some y→ai P w I' μ hp0 v y
 | [],[],h,k,r,rd,vs,hr,hl,hv=>⟨h,rd,[],[],hr,Ext.refl h,rfl,rfl,fun I' μ hp0 _ _ _ _ _ _ rest=>⟨rfl,fun j v y _ hy=>by simp[hG] at hy⟩⟩
 | [],_::_,h,k,r,rd,vs,hr,hl,hv=>by cases hr
 | _::_,[],h,k,r,rd,vs,hr,hl,hv=>by cases hr
 | l::ls,x::xs,h,k,r,rd,vs,hr,hl,hv=>by
  cases vs with
  | nil=>simp at hl
  | cons v vs=>
   simp only[vQ] at hr
   obtain ⟨h1,jr,d1,u1,a1,a2,a3,a4⟩:=RA S hr (hv 0 v x rfl rfl)
   obtain ⟨h2,sJ,d2,u2,b1,b2,b3,b5,b4⟩:=Fp S a1 (by simpa using hl) (vs:=vs) (fun j v x hj hx=>hv (j+1) v x (by simpa using hj) (by simpa using hx))
   have a4':mH P w I β hp h1 u1 fun I' μ hp0=> ∀rest,ai P w I' μ hp0 v (iF l (d1++rest)):=a4
   refine ⟨h2,sJ,d1++d2,u1++u2,b1,a2.trans b2,by simp only[List.length_append,j6];omega,by simp[b5],fun I' μ hp0 i1 i2 ρ m dR dm rest=> ?_⟩
   have k1:=(a4'.later b2) I' μ hp0 i1 i2 ρ m dR dm (d2++rest)
   obtain ⟨k2,k3⟩:=b4.more I' μ hp0 i1 i2 ρ m dR dm rest
   simp only[hG]
   rw[show (d1++d2++rest).drop l.size=d2++rest by rw[List.append_assoc];exact nE a3,List.append_assoc]
   refine ⟨by simp[k2],fun j v' y hj hy=> ?_⟩
   cases j with
   | zero=>simp at hj hy;subst hj;subst hy;exact k1
   | succ j=>exact k3 j v' y (by simpa using hj) (by simpa using hy)
theorem abY (S:aE P w I β hp B M w0) {α:Type} {s:VS} {x:V} {h:Hand} {k:Hand→Rd α} {r:α} {rd:List Nat} {v:Value} (hr:(zd P s x h k).run C hp=some (r,rd)) (hv:ai P w I β hp v x):
  ∃h' ff d u,(k h').run C hp=some (r,ff)∧Ext P w I β hp h h' d u∧d.length=s.size∧
   mH P w I β hp h' u fun I' μ hp0=> ∀rest,ai P w I' μ hp0 v (kD s (d++rest)):=by
 cases s with
 | one l=>
  simp only[zd] at hr
  obtain ⟨h1,jr,d1,u1,a1,a2,a3,a4⟩:=RA S hr hv
  exact ⟨h1,jr,d1,u1,a1,a2,a3,a4⟩
 | agg ls=>
  cases x<;>simp only[zd] at hr<;>first|(cases hr;done)|skip
  rename_i xs
  obtain ⟨cs,rfl,e1,e2⟩:=hv.kH
  obtain ⟨h1,jr,d1,u1,a1,a2,a3,a5,a4⟩:=Fp S hr (vs:=cs.toList) (by simpa using e1) (fun j v x hj hx=>e2 j v x (by simpa using hj) hx)
  refine ⟨h1,jr,d1,u1,a1,a2,a3,fun I' μ hp0 i1 i2 ρ m dR dm rest=> ?_⟩
  obtain ⟨k1,k2⟩:=a4 I' μ hp0 i1 i2 ρ m dR dm rest
  exact .agg (by rw[k1];exact e1) fun j v y hj hy=>k2 j v y (by simpa using hj) hy
 | bj ls=>cases x<;>cases hr
 | pref ts ls=>cases x<;>cases hr
 | fn f a b=>
  cases x<;>simp only[zd] at hr<;>first|(cases hr;done)|skip
  rename_i f' xs ys
  obtain ⟨hc,ou⟩:=aH hr
  clear hr
  rw[Nat.beq_eq] at hc
  subst hc
  cases hv with
  | @fn _ fs cs _ _ q1 q2 q3 q4=>
   obtain ⟨h1,jr,d1,u1,a1,a2,a3,a5,a4⟩:=Fp S ou (vs:=fs.toList) (by simpa using q1) (fun j v x hj hx=>q2 j v x (by simpa using hj) hx)
   obtain ⟨h2,sJ,d2,u2,b1,b2,b3,b5,b4⟩:=Fp S a1 (vs:=cs.toList) (by simpa using q3) (fun j v x hj hx=>q4 j v x (by simpa using hj) hx)
   refine ⟨h2,sJ,d1++d2,u1++u2,b1,a2.trans b2,by simp only[List.length_append,VS.size];omega,fun I' μ hp0 i1 i2 ρ m dR dm rest=> ?_⟩
   obtain ⟨k1,k2⟩:=(a4.later b2) I' μ hp0 i1 i2 ρ m dR dm (d2++rest)
   obtain ⟨k3,k4⟩:=b4.more I' μ hp0 i1 i2 ρ m dR dm rest
   simp only[kD]
   rw[show (d1++d2++rest).drop (j6 a)=d2++rest by rw[List.append_assoc];exact nE a3,List.append_assoc]
   exact .fn (by rw[k1];exact q1) (fun j v y hj hy=>k2 j v y (by simpa using hj) hy) (by rw[k3];exact q3) (fun j v y hj hy=>k4 j v y (by simpa using hj) hy)
theorem J0 (S:aE P w I β hp B M w0) {α:Type}: ∀{ls:List VS} {xs:List V} {h:Hand} {k:Hand→Rd α} {r:α} {rd:List Nat} {vs:List Value},(ze P ls xs h k).run C hp=some (r,rd)→vs.length=xs.length→
  (∀(j:Nat) v x,vs[j]? =some v→xs[j]? =some x→ai P w I β hp v x)→
  ∃h' ff d u,(k h').run C hp=some (r,ff)∧Ext P w I β hp h h' d u∧d.length=sk ls∧ls.length=xs.length∧
   mH P w I β hp h' u fun I' μ hp0=> ∀rest,(fJ ls (d++rest)).length=xs.length∧∀(j:Nat) v y,vs[j]? =some v→(fJ ls (d++rest))[j]? =some y→ai P w I' μ hp0 v y
 | [],[],h,k,r,rd,vs,hr,hl,hv=>⟨h,rd,[],[],hr,Ext.refl h,rfl,rfl,fun I' μ hp0 _ _ _ _ _ _ rest=>⟨rfl,fun j v y _ hy=>by simp[fJ] at hy⟩⟩
 | [],_::_,h,k,r,rd,vs,hr,hl,hv=>by cases hr
 | _::_,[],h,k,r,rd,vs,hr,hl,hv=>by cases hr
 | l::ls,x::xs,h,k,r,rd,vs,hr,hl,hv=>by
  cases vs with
  | nil=>simp at hl
  | cons v vs=>
   simp only[ze] at hr
   obtain ⟨h1,jr,d1,u1,a1,a2,a3,a4⟩:=abY S hr (hv 0 v x rfl rfl)
   obtain ⟨h2,sJ,d2,u2,b1,b2,b3,b5,b4⟩:=J0 S a1 (by simpa using hl) (vs:=vs) (fun j v x hj hx=>hv (j+1) v x (by simpa using hj) (by simpa using hx))
   refine ⟨h2,sJ,d1++d2,u1++u2,b1,a2.trans b2,by simp only[List.length_append,sk];omega,by simp[b5],fun I' μ hp0 i1 i2 ρ m dR dm rest=> ?_⟩
   have k1:=(a4.later b2) I' μ hp0 i1 i2 ρ m dR dm (d2++rest)
   obtain ⟨k2,k3⟩:=b4.more I' μ hp0 i1 i2 ρ m dR dm rest
   simp only[fJ]
   rw[show (d1++d2++rest).drop l.size=d2++rest by rw[List.append_assoc];exact nE a3,List.append_assoc]
   refine ⟨by simp[k2],fun j v' y hj hy=> ?_⟩
   cases j with
   | zero=>simp at hj hy;subst hj;subst hy;exact k1
   | succ j=>exact k3 j v' y (by simpa using hj) (by simpa using hy)
def Fq:List BS→Nat
 | []=>0
 | b::l=>b.size+Fq l
theorem RB: ∀{b:Nat} {e e':TypeId} {es:List V} {v:V},(∀q b' e' m,At P w b e es q b' e' m→jl P w I b' e' m)→∀(path:Path),j4 P e path=some e'→iE P e es path=some v→0<v.toList.length→
  ∃b1,At P w b e es path b1 e' v.toList
 | b,e,e',es,v,cA,[],ht,hv,hl=>by
  simp only[j4,Option.some.injEq] at ht
  simp only[iE,Option.some.injEq] at hv
  subst ht;subst hv
  exact ⟨b,.here⟩
 | b,e,e',es,v,cA,(i,c)::q,ht,hv,hl=>by
  simp only[j4] at ht
  simp only[iE] at hv
  obtain ⟨x,hx,hv⟩:=bind_some hv
  cases J1:(j4.y4 P e)[c]? with
  | none=>rw[J1] at ht;cases ht
  | some t=>
   rw[J1] at ht
   simp only at ht
   have Fs:(aY P e)[c]? =some t:=J1
   cases hu:P.underlying t with
   | none=>rw[hu] at ht;cases ht
   | some d=>
    rw[hu] at ht
    cases d<;>simp only at ht<;>first|(cases ht;done)|skip
    rename_i e1
    rw[nu Fs] at hv
    have hR:=cA _ _ _ _ .here
    obtain ⟨Ca,c1,c2,c3⟩:=hR.cells
    have tJ:c<P.cellsOf e:=by rw[←fM hR.ok];exact (List.getElem?_eq_some_iff.1 Fs).1
    obtain ⟨u,d1,d2⟩:=c3 i c x t hx Fs tJ
    rw[d2.sB] at hv
    generalize hy:bN P e x c=y at d2 hv
    cases d2 with
    | gg a p=>unfold ga at a;rw[hu] at a;cases a
    | @emp e2 a cap pj ha=>
     rw[hu] at pj;cases pj
     simp only at hv
     cases q with
     | nil=>simp only[iE,Option.some.injEq] at hv;subst hv;simp[V.toList] at hl
     | cons a q=>simp[iE] at hv
    | @row e2 cf b2 cap pj mq a8 cj lB=>
     rw[hu] at pj;cases pj
     simp only at hv
     have mu: ∀{q b' e' aQ},At P w b2 e1 cf q b' e' aQ→At P w b e es ((i,c)::q) b' e' aQ:=fun h=> .step c1 hx Fs hu hy mq d1 h
     obtain ⟨b1,lF⟩:=RB (fun q b' e' m h=>cA _ _ _ _ (mu h)) q ht hv hl
     exact ⟨b1,mu lF⟩
theorem RC (S:aE P w I β hp B M w0) {α:Type}: ∀{bs:List BS} {j:Nat} {h:Hand} {k:Hand→Rd α} {r:α} {rd:List Nat},(qa P bs j h k).run C hp=some (r,rd)→
  ∃h' ff d u,(k h').run C hp=some (r,ff)∧Ext P w I β hp h h' d u∧d.length=Fq bs∧
   ∀rest,(eZ bs (d++rest)).length=bs.length∧∃o:Nat→Option Nat,
    (∀(i:Nat) blk,(eZ bs (d++rest))[i]? =some blk→∃p,eC h'.pl (j+i)=some p∧ep P w β hp p (o i) blk)∧
    mH P w I β hp h' u fun I' μ hp0=> ∀(i:Nat) blk,(eZ bs (d++rest))[i]? =some blk→(∀b,bw P w (o i) blk b→¬I' b)→en P w I' μ hp0 (o i) blk
 | [],j,h,k,r,rd,hr=>⟨h,rd,[],[],hr,Ext.refl h,rfl,fun rest=>⟨rfl,fun _=>none,fun i blk hb=>by simp[eZ] at hb,fun I' μ hp0 _ _ _ _ _ _ i blk hb=>by simp[eZ] at hb⟩⟩
 | b::bs,j,h,k,r,rd,hr=>by
  simp only[qa] at hr
  have fin: ∀{h1:Hand} {jr:List Nat} {d1:List V} {u1:List (Nat × ah)} {o1:Option Nat} {p:Place},(qa P bs (j+1) h1 k).run C hp=some (r,jr)→Ext P w I β hp h h1 d1 u1→d1.length=b.size→eC h.pl j=some p→
    (∀rest,ep P w β hp p o1 (gb b (d1++rest)))→(∀rest,mH P w I β hp h1 u1 fun I' μ hp0=>(∀bb,bw P w o1 (gb b (d1++rest)) bb→¬I' bb)→en P w I' μ hp0 o1 (gb b (d1++rest)))→
    ∃h' ff d u,(k h').run C hp=some (r,ff)∧Ext P w I β hp h h' d u∧d.length=Fq (b::bs)∧
     ∀rest,(eZ (b::bs) (d++rest)).length=(b::bs).length∧∃o:Nat→Option Nat,
      (∀(i:Nat) blk,(eZ (b::bs) (d++rest))[i]? =some blk→∃p,eC h'.pl (j+i)=some p∧ep P w β hp p (o i) blk)∧
      mH P w I β hp h' u fun I' μ hp0=> ∀(i:Nat) blk,(eZ (b::bs) (d++rest))[i]? =some blk→(∀b,bw P w (o i) blk b→¬I' b)→en P w I' μ hp0 (o i) blk:=by
   intro h1 jr d1 u1 o1 p hk he hd br hl ht
   obtain ⟨h2,sJ,d2,u2,b1,b2,b3,b4⟩:=RC S hk
   refine ⟨h2,sJ,d1++d2,u1++u2,b1,he.trans b2,by simp only[List.length_append,Fq];omega,fun rest=> ?_⟩
   obtain ⟨c1,o,c2,c3⟩:=b4 rest
   simp only[eZ]
   rw[show (d1++d2++rest).drop b.size=d2++rest by rw[List.append_assoc];exact nE hd,List.append_assoc]
   refine ⟨by simp[c1],fun i=>match i with|0=>o1|i+1=>o i,fun i blk hb=> ?_,fun I' μ hp0 i1 i2 ρ m dR dm i blk hb cW=> ?_⟩
   ·cases i with
    | zero=>
     simp at hb
     subst hb
     exact ⟨p,b2.look (he.look br),hl _⟩
    | succ i=>
     obtain ⟨q,e1,e2⟩:=c2 i blk (by simpa using hb)
     exact ⟨q,by rw[show j+(i+1)=j+1+i by omega];exact e1,e2⟩
   ·cases i with
    | zero=>
     simp at hb
     subst hb
     exact ((ht _).later b2) I' μ hp0 i1 i2 ρ m dR dm cW
    | succ i=>exact c3.more I' μ hp0 i1 i2 ρ m dR dm i blk (by simpa using hb) cW
  cases br:eC h.pl j with
  | none=>rw[br] at hr;cases hr
  | some p=>
   rw[br] at hr
   cases p with
   | blk id=>
    obtain ⟨l1,hr⟩:=run_get hr
    cases af:hp id with
    | none=>rw[af] at hr;cases hr
    | some blk=>
     rw[af] at hr
     cases blk with
     | dead=>cases hr
     | var T0 cs=>
      cases b<;>simp only at hr<;>first|(cases hr;done)|skip
      rename_i T1 ss
      obtain ⟨hT,hr1⟩:=aH hr
      clear hr
      rw[Nat.beq_eq] at hT
      subst hT
      have cN:=S.h.rel id _ af
      generalize ho:β id=o at cN
      cases cN with
      | @var _ bb Ca T hb hh hs hI hx gv=>
       obtain ⟨h1,jr,d1,u1,a1,a2,a3,a5,a4⟩:=J0 S hr1 (vs:=Ca.toList) (by simpa using hs) (fun j v x hj cH=>hx j v x (by simpa using hj) cH)
       refine fin (o1:=β id) a1 a2 a3 br (fun rest=> .var af) fun rest I' μ hp0 i1 i2 ρ m dR dm cW=> ?_
       obtain ⟨k1,k2⟩:=a4 I' μ hp0 i1 i2 ρ m dR dm rest
       exact .var (ho.trans hb) hh (by rw[k1];exact hs) (cW _ (.root (by simp[gb]) (ho.trans hb))) (fun i v y hi hy=>k2 i v y (by simpa using hi) hy) gv
     | arr e' es fz=>
      cases fz with
      | true=>cases hr
      | false=>
       cases b with
       | arr e fz=>
        cases fz with
        | true=>cases hr
        | false=>
         obtain ⟨hc,ou⟩:=aH hr
         clear hr
         rw[Nat.beq_eq] at hc
         subst hc
         refine fin (d1:=[.list e es]) (o1:=β id) ou (Ext.leaf h _) rfl br (fun rest=>ep.arr af) fun rest I' μ hp0 i1 i2 ρ m dR dm cW=> ?_
         change en P w I' μ hp0 (β id) (.arr e es false)
         have cN:=S.h.rel id _ af
         generalize ho:β id=o at cN cW⊢
         cases cN with
         | eb hb=>exact .eb hb
         | arr a1 a2 a3 a4 a5 a6 a7=>
          refine .arr a1 a2 a3 a4 (fun h=>by cases h) (fun _=>cW _ (.root (by simp[gb]) a2)) fun i j x t' y1 y2 y3=> ?_
          obtain ⟨v,z1,z2⟩:=a7 i j x t' y1 y2 y3
          exact ⟨v,z1,z2.mono i1 fun _ _=>rfl⟩
       | _=>cases hr
     | nest e' es ak=>
      cases b with
      | nest e=>
       obtain ⟨hc,ou⟩:=aH hr
       clear hr
       rw[Nat.beq_eq] at hc
       subst hc
       refine fin (d1:=[.list e es]) (o1:=β id) ou (Ext.leaf h _) rfl br (fun rest=>ep.nest af) fun rest I' μ hp0 i1 i2 ρ m dR dm cW=> ?_
       have RD: ∀bb,bw P w (β id) (.nest e es [0,0,0]) bb→¬I' bb:=cW
       change en P w I' μ hp0 (β id) (.nest e es [0,0,0])
       have cN:=S.h.rel id _ af
       generalize ho:β id=o at cN RD⊢
       cases cN with
       | nest hb cA oh=>
        refine .nest hb (fun q b' e1 m1 hq=> ?_) oh
        obtain ⟨ok,⟨Ca,c1,c2,c3⟩,nI⟩:=cA q b' e1 m1 hq
        refine ⟨ok,⟨Ca,c1,c2,fun i j x t' y1 y2 y3=> ?_⟩,RD _ (.row hb hq)⟩
        obtain ⟨v,z1,z2⟩:=c3 i j x t' y1 y2 y3
        exact ⟨v,z1,z2.mono i1 (fun _ _=>rfl) fun _ _ _ _ _=>rfl⟩
      | _=>cases hr
     | map t' es=>
      cases b with
      | map t=>
       obtain ⟨hc,ou⟩:=aH hr
       clear hr
       rw[Nat.beq_eq] at hc
       subst hc
       refine fin (d1:=[.list t es]) (o1:=β id) ou (Ext.leaf h _) rfl br (fun rest=>ep.map af) fun rest I' μ hp0 i1 i2 ρ m dR dm cW=> ?_
       change en P w I' μ hp0 (β id) (.map t es)
       have cN:=S.h.rel id _ af
       generalize ho:β id=o at cN cW⊢
       cases cN with
       | map a1 a2 a3 a4 a5 a6 a7=>exact .map a1 a2 a3 a4 (cW _ (.root (by simp[gb]) a2)) a6 a7
      | _=>cases hr
   | row id ver path=>
    obtain ⟨e0,es,ak,l1,k1,k2,k3,k4,k5⟩:=od hr
    obtain ⟨e',vv,m1,m2,m3⟩:=vY k5
    cases b with
    | arr e fz=>
     cases fz with
     | true=>cases m3
     | false=>
      obtain ⟨hc,m4⟩:=aH m3
      clear m3
      simp only[Bool.and_eq_true,Nat.beq_eq,Nat.blt_eq] at hc
      obtain ⟨rfl,z7,mq⟩:=hc
      have cN:=S.h.rel id _ k1
      cases hb:β id with
      | none=>
       rw[hb] at cN
       cases cN with
       | nest ax _ _=>cases ax
      | some b0=>
       rw[hb] at cN
       cases cN with
       | nest ax cA oh=>
        cases ax
        obtain ⟨b1,dF⟩:=RB cA path m1 m2 mq
        refine fin (d1:=[.list e vv.toList]) (o1:=some b1) m4 (Ext.leaf h _) rfl br (fun rest=>ep.row k1 hb dF z7 k2 k3 k4 mq) fun rest I' μ hp0 i1 i2 ρ m dR dm cW=> ?_
        change en P w I' μ hp0 (some b1) (.arr e vv.toList false)
        obtain ⟨ok,⟨Ca,c1,c2,c3⟩,nI⟩:=cA _ _ _ _ dF
        refine .arr ok rfl c1 c2 (fun h=>by cases h) (fun _=>cW _ (.root (by simp[gb]) rfl)) fun i j x t' y1 y2 y3=> ?_
        obtain ⟨v,z1,z2⟩:=c3 i j x t' y1 y2 y3
        refine ⟨v,z1,?_⟩
        generalize bN P e x j=y at z2⊢
        cases z2 with
        | gg _ p=>exact p.mono i1 fun _ _=>rfl
        | emp hu _=>exact absurd hu (RE z7 y2 _)
        | row hu _ _ _ _=>exact absurd hu (RE z7 y2 _)
    | _=>cases m3
where
 RE {e t:TypeId} {j:Nat} (h:y9 P e=true) (ht:(aY P e)[j]? =some t) (e':TypeId):P.underlying t≠some (.slice e'):=by
  intro hu
  have h2:=List.all_eq_true.1 h t (List.mem_of_getElem? ht)
  rw[hu] at h2
  cases h2
end
end Go.AM
