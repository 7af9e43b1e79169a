/-
  Functions of wW program, lifted to plain data.
-/
import Derived.Great.BuildSlice
import Derived.Maps.Keyed
import Derived.WideKeyArr
import Derived.MapKept
import Derived.ChangeMaps4
import Derived.Carry
import Derived.Lib.AppendStr
import Derived.Laws.BytesString
import Derived.Lib.Builder
import Derived.Lib.UnsafeStr
import Derived.Test.YtmcdbnalaobmpaaDoorP1
set_option linter.unusedVariables false
set_option linter.unusedSimpArgs false
namespace Go.AM
section
variable {P:Program} {w w':World} {I I':Nat→Prop} {β aj:Nat→Option Nat} {hp hp':Nat→Option ag} {C:ae} {B:Nat} {M:Nat→Prop} {w0:Start}
theorem V1 (S:aC P w I β hp B M w0) {t:TypeId} {a v:Value} {xa x:V} {r:R} {rd:List Nat} (ha:ah P w I β hp a xa) (hv:ah P w I β hp v x)
  (h:(FR P t xa x).run C hp=some (r,rd)):nU P ((Instr.storeAt t a v).run P w) w I β hp B M w0 r:=by
 unfold FR at h
 obtain ⟨h0,h⟩:=aD h
 simp only[Bool.and_eq_true,Nat.beq_eq] at h0
 obtain ⟨ht,hn⟩:=h0
 cases xa with
 | ptr id i c=>
  obtain ⟨l,h⟩:=run_get h
  cases aa:hp id with
  | none=>rw[aa] at h;cases h
  | some blk=>
   rw[aa] at h
   cases blk with
   | dead=>cases h
   | var T0 cs=>
    obtain ⟨Mh,h⟩:=aD h
    have kY:nH P T0=true→0<c:=fun bZ=>by
     rw[bZ] at Mh
     simpa using Mh
    obtain ⟨b,hb,rfl⟩:=ha.gg aa (by simp)
    simp only[ag.sz,Nat.mul_zero,Nat.zero_add]
    cases nT:(w4 P t cs&&dM P t x) with
    | true=>
     dsimp only at h
     rw[nT] at h
     simp only[cond_true] at h
     obtain ⟨hc,h⟩:=aD h
     obtain rfl:=aH h
     simp only[Bool.and_eq_true,Nat.blt_eq] at hc nT
     obtain ⟨o1,o2⟩:=Ma hv nT.2
     have kf:=VG nT.2
     refine L8 S aa hb ht hn (by rw[o2,kf];rfl) kY (fun j u y hu hy=> ?_) (by rw[o2];simp[o1]) (by rw[kf];simp;omega) (L7 _ _ _ _) (fun j y hy hj u hu=> ?_) (fun j y hy hj u hu=> ?_)
     ·rw[o2] at hu
      rw[kf] at hy
      cases j with
      | zero=>simp at hu hy;subst hu;subst hy;exact hv
      | succ j=>simp at hy
     ·rw[Gw] at hy
      cases u3:cs[j]? with
      | none=>rw[u3] at hy;cases hy
      | some y0=>
       rw[u3] at hy
       simp only[Option.map_some,Option.some.injEq] at hy
       rw[kf] at hj
       simp only[List.length_singleton] at hj
       have bA:Nat.beq c (0+j)=false:=by
        cases hq:Nat.beq c (0+j) with
        | false=>rfl
        | true=>rw[Nat.beq_eq] at hq;omega
       rw[bA] at hy
       have:=LR (c:=false) hv (hu y0 u3)
       rw[←hy]
       simpa using this
     ·rw[kf] at hj hu
      have V2:j=0:=by simpa using hj
      subst V2
      rw[Gw] at hy
      cases u3:cs[c+0]? with
      | none=>rw[u3] at hy;cases hy
      | some y0=>
       rw[u3] at hy
       simp only[Option.map_some,Option.some.injEq] at hy
       have heq:Nat.beq c (0+(c+0))=true:=by rw[Nat.beq_eq];omega
       rw[heq] at hy
       have h2:ah P w I β hp u x:=hu x rfl
       have:qC true x y0=x:=VH x y0
       rw[←hy,this]
       exact h2
    | false=>
     dsimp only at h
     rw[nT] at h
     simp only[cond_false] at h
     obtain ⟨hc,h⟩:=aD h
     simp only[Bool.and_eq_true,Nat.ble_eq] at hc
     obtain ⟨e1,e2⟩:=Gu hv h
     obtain ⟨h1,l2,h⟩:=B1 h (vs:=v.cells.toList) (by simpa using e1) (fun j u y a b=>e2 j u y (by simpa using a) b)
     obtain rfl:=aH h
     refine L8 S aa hb ht hn e1 kY e2 h1 hc.2 (xJ _ _ _ hc.2) (fun j y hy hj u hu=> ?_) (fun j y hy hj u hu=> ?_)
     ·unfold ff at hy
      rw[lX _ _ _ _ hc.2] at hy
      rcases hj with hj|hj
      ·rw[if_pos hj] at hy;exact hu y hy
      ·rw[if_neg (by omega),if_neg (by omega)] at hy;exact hu y hy
     ·unfold ff at hy
      rw[lX _ _ _ _ hc.2,if_neg (by omega),if_pos (by omega)] at hy
      rw[show c+j-c=j by omega] at hy
      exact hu y hy
   | arr e es fz=>
    cases fz with
    | true=>cases h
    | false=>
    obtain ⟨b,hb,rfl⟩:=ha.gg aa (by simp)
    obtain ⟨aq,h⟩:=aD h
    obtain ⟨⟨ys,fr⟩,l1,l2,a9,h⟩:=jK h
    obtain ⟨hc,h⟩:=aD h
    obtain ⟨x0,pj,h⟩:=kb h
    obtain rfl:=aH h
    simp only[Bool.and_eq_true,Bool.not_eq_true',Nat.ble_eq] at hc
    obtain ⟨di,V3,iL⟩:=hc
    have nW:v.cells.size=x.cells.length∧∀(j:Nat) u y,v.cells.toList[j]? =some u→x.cells[j]? =some y→ah P w I β hp u y:=by
     cases x with
     | agg xs=>
      obtain ⟨cs,rfl,h1,h2⟩:=hv.jL
      exact ⟨h1,fun j u y a b=>h2 j u y (by simpa[Value.cells] using a) b⟩
     | _=>
      simp only[V.cells] at a9 iL⊢
      simp only[qB] at a9
      obtain ⟨⟨y1,u1⟩,l3,l4,hq,a9⟩:=jK a9
      obtain ⟨q1,q2⟩:=BP S.h.rel hq hv
      obtain ⟨⟨y2,u2⟩,l5,l6,nX,a9⟩:=jK a9
      cases nX
      have:=aH a9
      cases this
      obtain ⟨tl,tg⟩:=sx iL
      have e9:=tg 0 _ y1 (List.getElem?_eq_getElem (by rw[tl];exact Nat.one_pos)) rfl
      have e8:=q2 (gS P w I β hp u1) (fun _ h=> .inl h) (fun p hp b h=> .inr ⟨p,hp,h⟩)
      have ho:=e8.pure e9
      have GL:v.cells= #[v]:=by cases ho<;>rfl
      rw[GL]
      refine ⟨rfl,fun j u y hu hy=> ?_⟩
      cases j with
      | zero=>simp at hu hy;subst hu;subst hy;exact hv
      | succ j=>simp at hy
    obtain ⟨k1,k2,k3⟩:=Gn S.h.rel a9 (vs:=v.cells.toList) (by simpa using nW.1) nW.2
    obtain ⟨pg,S1⟩:=xB S k2
    have xQ:bz hp fr id=some (.arr e es false):=by
     rcases sj (hp:=hp) (l:=fr) (id:=id) with h|⟨b',hm,_⟩
     ·exact h.trans aa
     ·exfalso
      have nY:jh (fr.map (·.1)) id=true:=uT (List.mem_map.2 ⟨_,hm,rfl⟩)
      rw[nY] at di;cases di
    have Mi:=k3 (gS P w I β hp fr) (fun _ h=> .inl h) (fun p hp b h=> .inr ⟨p,hp,h⟩)
    obtain ⟨tl,tg⟩:=sx iL
    have uN:=(js aq).1
    have sB:ys.length=v.cells.size:=by rw[k1,nW.1]
    have hcn:c+v.cells.size≤P.cellsOf e:=by rw[nW.1];exact V3
    have hr:=S1.h.rel id _ xQ
    cases hr with
    | dh au=>simp at pj
    | @arr _ _ _ b' Ca Gt au hh hs hf dE hx=>
     rw[hb] at au
     cases au
     have kg:i<es.length:=(List.getElem?_eq_some_iff.1 pj).1
     have hbound:i*P.cellsOf e+P.cellsOf e≤Ca.size:=by
      have:(i+1)*P.cellsOf e≤es.length*P.cellsOf e:=Nat.mul_le_mul_right _ kg
      rw[Nat.add_mul] at this
      omega
     simp only[ag.sz]
     have qU:i*P.cellsOf e+c+v.cells.size≤Ca.size:=by omega
     have cu: ¬gS P w I β hp fr b:=dE rfl
     have h1: ∀u∈v.cells.toList,u.oneCell'=true:=by
      intro u hu
      obtain ⟨j,hj⟩:=List.getElem?_of_mem hu
      have cz:j<ys.length:=by rw[sB];simpa using (List.getElem?_eq_some_iff.1 hj).1
      have mZ:j<(((flat P e).drop c).take x.cells.length).length:=by rw[tl];exact cz
      exact (Mi j u ys[j] hj (List.getElem?_eq_getElem cz)).one (tg j _ ys[j] (List.getElem?_eq_getElem mZ) (List.getElem?_eq_getElem cz))
     have cA:=Gv (t:=t) (o:=i*P.cellsOf e+c) (v:=v) ht (by rw[nW.1];exact hn.symm) hh qU h1
     have hlen:(Ca.toList.take (i*P.cellsOf e+c)++(v.cells.toList++Ca.toList.drop (i*P.cellsOf e+c+v.cells.toList.length))).length=Ca.size:=by
      rw[xJ _ _ _ (by simpa using qU)];simp
     have e8:(parts P e x0).length=P.cellsOf e:=by rw[uQ];exact e7 aq
     have xK:=B4 S1 (blk':= .arr e (es.set i (b9 P e (ff (parts P e x0) c ys))) false)
      (Cb:=(Ca.toList.take (i*P.cellsOf e+c)++(v.cells.toList++Ca.toList.drop (i*P.cellsOf e+c+v.cells.toList.length))).toArray) xQ (by simp) ⟨rfl,by simp⟩ hb cu (by simp) hh (by simpa using hlen)
      (fun hle er=> .arr aq rfl er (by simp only[List.size_toArray,List.length_set];omega) (fun h=>by cases h) (fun _=>cu) fun i' j z t' hz mZ hj=>by
       simp only[List.getElem?_toArray]
       rw[lX _ _ _ _ (by simpa using qU)]
       simp only[Array.length_toList]
       rw[List.getElem?_set] at hz
       by_cases gV:i=i'
       ·subst gV
        rw[if_pos rfl,if_pos kg] at hz
        cases hz
        have Cf:j<(parts P e x0).length:=by omega
        have sC:(ff (parts P e x0) c ys)[j]? =if j<c then (parts P e x0)[j]? else if j<c+ys.length then ys[j-c]? else (parts P e x0)[j]? :=by
         unfold ff;exact lX _ _ _ _ (by omega)
        by_cases pc:j<c
        ·rw[if_pos (by omega)]
         rw[if_pos pc] at sC
         obtain ⟨u,t2,a1,a2,a3⟩:=BY hx aq pj (List.getElem?_eq_getElem Cf)
         rw[mZ] at a1;cases a1
         refine ⟨u,by simpa using a2,?_⟩
         rw[pd (sC.trans (List.getElem?_eq_getElem Cf)) mZ]
         exact a3.mono hle.cM hle.bR
        ·rw[if_neg pc] at sC
         by_cases bS:j<c+ys.length
         ·rw[if_pos bS] at sC
          rw[if_neg (by omega),if_pos (by omega)]
          have nZ:j-c<ys.length:=by omega
          have Mj:j-c<v.cells.toList.length:=by simp;omega
          have agP:j-c<v.cells.size:=by omega
          refine ⟨v.cells.toList[j-c],?_,?_⟩
          ·rw[show i*P.cellsOf e+j-(i*P.cellsOf e+c)=j-c by omega]
           exact List.getElem?_eq_getElem Mj
          ·rw[pd (sC.trans (List.getElem?_eq_getElem nZ)) mZ]
           have V4:(((flat P e).drop c).take x.cells.length)[j-c]? =some t':=by
            rw[List.getElem?_take_of_lt (by omega),List.getElem?_drop,show c+(j-c)=j by omega,←qR]
            exact mZ
           exact ((Mi (j-c) _ ys[j-c] (List.getElem?_eq_getElem Mj) (List.getElem?_eq_getElem nZ)).pure (tg (j-c) t' ys[j-c] V4 (List.getElem?_eq_getElem nZ))).mono hle.cM hle.bR
         ·rw[if_neg bS] at sC
          rw[if_neg (by omega),if_neg (by omega)]
          obtain ⟨u,t2,a1,a2,a3⟩:=BY hx aq pj (List.getElem?_eq_getElem Cf)
          rw[mZ] at a1;cases a1
          refine ⟨u,by simpa using a2,?_⟩
          rw[pd (sC.trans (List.getElem?_eq_getElem Cf)) mZ]
          exact a3.mono hle.cM hle.bR
       ·rw[if_neg gV] at hz
        obtain ⟨u,a2,a3⟩:=hx i' j z t' hz mZ hj
        have bA:i'*P.cellsOf e+j<i*P.cellsOf e+c∨i*P.cellsOf e+c+v.cells.size≤i'*P.cellsOf e+j:=by
         rcases Nat.lt_or_ge i' i with aK|n0
         ·left
          have:(i'+1)*P.cellsOf e≤i*P.cellsOf e:=Nat.mul_le_mul_right _ aK
          rw[Nat.add_mul] at this
          omega
         ·right
          have:(i+1)*P.cellsOf e≤i'*P.cellsOf e:=Nat.mul_le_mul_right _ (by omega)
          rw[Nat.add_mul] at this
          omega
        refine ⟨u,?_,a3.mono hle.cM hle.bR⟩
        rcases bA with bA|bA
        ·rw[if_pos bA];simpa using a2
        ·rw[if_neg (by omega),if_neg (by omega)];simpa using a2)
     exact ⟨_,_,_,cA,pg.trans xK.1,xK.2,rfl⟩
   | map _ _=>cases h
   | nest e es ai=>
    obtain ⟨b,hb,rfl⟩:=ha.gg aa (by simp)
    exact Mg S ht hn hv aa hb .here h
 | cg id ver path i c=>
  obtain ⟨e0,es,ai,l,aa,h1,h2,h3,h⟩:=mU h
  obtain ⟨b,b1,e1,l1,hb,cN,rfl⟩:=ha.LO aa h1 h2 h3
  exact Mg S ht hn hv aa hb cN h
 | _=>cases h
end
section
variable {P:Program} {w w':World} {I I':Nat→Prop} {β aj:Nat→Option Nat} {hp hp':Nat→Option ag} {C:ae} {B:Nat} {M:Nat→Prop} {w0:Start}
theorem GM: ∀{ts:List TypeId} {vs:List Value} {j:Nat} {y:V},(ib P ts vs)[j]? =some y→∃t v,ts[j]? =some t∧vs[j]? =some v∧y=nG P t v
 | [],vs,j,y,h=>by simp[ib] at h
 | _::_,[],j,y,h=>by simp[ib] at h
 | t::ts,v::vs,0,y,h=>by simp[ib] at h;exact ⟨t,v,rfl,rfl,h.symm⟩
 | t::ts,v::vs,j+1,y,h=>by
  simp only[ib,List.getElem?_cons_succ] at h
  obtain ⟨t',v',a,b,c⟩:=GM h
  exact ⟨t',v',by simpa using a,by simpa using b,c⟩
theorem Mk: ∀{ts:List TypeId} {vs:List Value},ts.length=vs.length→(ib P ts vs).length=vs.length
 | [],[],_=>rfl
 | [],_::_,h=>by simp at h
 | _::_,[],h=>by simp at h
 | t::ts,v::vs,h=>by simp[ib,Mk (ts:=ts) (vs:=vs) (by simpa using h)]
theorem ju {e:TypeId} (h:cw P e=true): ∃i z,P.info? e=some i∧i.zero=some z∧i.size=P.cellsOf e∧z.cells.size=P.cellsOf e∧zeroCells P e=ib P (flat P e) z.cells.toList:=by
 unfold cw at h
 simp only[Bool.and_eq_true,Nat.beq_eq,Nat.blt_eq] at h
 obtain ⟨h1,h2,_,h3⟩:=h
 cases hi:P.info? e with
 | none=>rw[hi] at h3;cases h3
 | some i=>
  rw[hi] at h3
  simp only[Option.bind_some] at h3
  cases hz:i.zero with
  | none=>rw[hz] at h3;cases h3
  | some z=>
   rw[hz] at h3
   simp only[Nat.beq_eq] at h3
   exact ⟨i,z,rfl,hz,by simp[Program.cellsOf,hi],h3,by simp[zeroCells,hi,hz]⟩
theorem Ml {e:TypeId} (h:cw P e=true): ∃i z,P.info? e=some i∧i.zero=some z∧z.cells.size=(zeroCells P e).length∧z.cells.size=P.cellsOf e∧
  ∀(j:Nat) v x,z.cells[j]? =some v→(zeroCells P e)[j]? =some x→ah P w I β hp v x:=by
 obtain ⟨i,z,h1,h2,h3,h4,h5⟩:=ju h
 have hl:(flat P e).length=z.cells.toList.length:=by rw[(js h).1];simpa using h4.symm
 refine ⟨i,z,h1,h2,?_,h4,fun j v x hv hx=> ?_⟩
 ·rw[h5,Mk hl];simp
 ·rw[h5] at hx
  obtain ⟨t,v',_,uR,rfl⟩:=GM hx
  have:v'=v:=by
   have e1:z.cells[j]? =some v':=by simpa using uR
   rw[hv] at e1;exact (Option.some.inj e1).symm
  subst this
  exact ah.const t v'
theorem lZ {nb:Nat} {b:ag} {v:V} {upd:List (Nat × ag)} {r:R} {rd:List Nat} (h:(ij nb b v upd).run C hp=some (r,rd)):hp nb=none∧r=⟨v,(nb,b)::upd⟩:=by
 obtain ⟨l,h⟩:=run_get h
 cases hn:hp nb with
 | none=>rw[hn] at h;exact ⟨rfl,(aH h).symm⟩
 | some x=>rw[hn] at h;cases h
theorem Mm (S:aC P w I β hp B M w0) {nb:Nat} {xs:List V} {C0:Array Value} {T:TypeId} (hn:hp nb=none) (hs:C0.size=xs.length)
  (hx: ∀(j:Nat) v x,C0[j]? =some v→xs[j]? =some x→ah P w I β hp v x) (fF:LI P w.heap.size T C0):
  Le P w I β hp (w.alloc (.cells C0 T)) I (aF β nb (some w.heap.size)) (aF hp nb (some (.var T xs)))∧aC P (w.alloc (.cells C0 T)) I (aF β nb (some w.heap.size)) (aF hp nb (some (.var T xs))) B M w0∧
  ah P (w.alloc (.cells C0 T)) I (aF β nb (some w.heap.size)) (aF hp nb (some (.var T xs))) (.pointer (some ⟨w.heap.size,0,none⟩)) (.ptr nb 0 0):=by
 obtain ⟨h1,h2⟩:=Gp S (blk:= .var T xs) (c:=C0) (T:=T) hn (fun b' h=>(Option.some.inj (h.flat (by simp))).symm) (fun hle er cu=> .var rfl er hs cu (fun j v x a b=>(hx j v x a b).mono hle) fF)
 refine ⟨h1,h2,?_⟩
 have:=ah.ptr (P:=P) (w:=w.alloc (.cells C0 T)) (I:=I) (β:=aF β nb (some w.heap.size)) (hp:=aF hp nb (some (.var T xs))) (i:=0) (c:=0) (blk:= .var T xs) (cy _ _ _) (by simp) (cy _ _ _)
 simpa using this
theorem V5 (S:aC P w I β hp B M w0) {e:TypeId} {nb:Nat} {r:R} {rd:List Nat}
  (h:(Rd.ay (cw P e&&(!(nH P e)||LD (zeroCells P e))) (ij nb (.var e (zeroCells P e)) (.ptr nb 0 0) [])).run C hp=some (r,rd)):cC P ((Instr.alloc e true (.tuple #[])).run P w) w I β hp B M w0 r:=by
 obtain ⟨aq,h⟩:=aD h
 rw[Bool.and_eq_true] at aq
 obtain ⟨aq,kY⟩:=aq
 obtain ⟨hn,rfl⟩:=lZ h
 obtain ⟨i,z,h1,h2,h3,h4,h5⟩:=Ml (w:=w) (I:=I) (β:=β) (hp:=hp) aq
 obtain ⟨a,b,c⟩:=Mm S (T:=e) hn h3 h5 fun bZ=>by
  rw[bZ,Bool.not_true,Bool.false_or] at kY
  cases hz:zeroCells P e with
  | nil=>rw[hz] at kY;cases kY
  | cons y l=>
   rw[hz] at kY h3 h5
   cases y<;>first|(cases kY;done)|skip
   have aK:0<z.cells.size:=by rw[h3];simp
   have:=h5 0 z.cells[0] .cP (Array.getElem?_eq_getElem aK) rfl
   left
   rw[Array.getElem?_eq_getElem aK]
   generalize z.cells[0]=u at this
   cases this;rfl
 exact ⟨_,_,_,_,by simp[Instr.alloc,zeroValue,typeInfo,h1,h2,newVar,newRow],a,b,c⟩
theorem V6 (S:aC P w I β hp B M w0) {e:TypeId} {nb:Nat} {x:V} {v:Value} {r:R} {rd:List Nat} (hv:ah P w I β hp v x)
  (h:(Rd.ay (!(nH P e)) <| j7 x.cells (ij nb (.var e x.cells) (.ptr nb 0 0) [])).run C hp=some (r,rd)):cC P ((Instr.box e v).run P w) w I β hp B M w0 r:=by
 obtain ⟨kY,h⟩:=aD h
 obtain ⟨e1,e2⟩:=Gu hv h
 obtain ⟨_,l,h⟩:=B1 h (vs:=v.cells.toList) (by simpa using e1) (fun j u y a b=>e2 j u y (by simpa using a) b)
 obtain ⟨hn,rfl⟩:=lZ h
 obtain ⟨a,b,c⟩:=Mm S (T:=e) hn e1 e2 fun bZ=>by rw[bZ] at kY;cases kY
 exact ⟨_,_,_,_,by simp[Instr.box,newVar,newRow],a,b,c⟩
theorem foldl_set (off:Nat): ∀(vs:List Value) (k:Nat) (cs:Array Value) (i:Nat),off+k+vs.length≤cs.size→
  ((vs.zipIdx k).foldl (fun cs p=>cs.setIfInBounds (off+p.2) p.1) cs)[i]? =if i<off+k then cs[i]? else if i<off+k+vs.length then vs[i-(off+k)]? else cs[i]?
 | [],k,cs,i,h=>by simp;intro h1 h2;omega
 | v::vs,k,cs,i,h=>by
  simp only[List.zipIdx_cons,List.foldl_cons]
  simp only[List.length_cons] at h⊢
  rw[foldl_set off vs (k+1) _ i (by simp;omega)]
  by_cases h1:i<off+k
  ·rw[if_pos (by omega),if_pos h1]
   rw[Array.getElem?_setIfInBounds_ne (by omega)]
  ·rw[if_neg h1]
   by_cases h2:i=off+k
   ·subst h2
    rw[if_pos (by omega),if_pos (by omega)]
    rw[Array.getElem?_setIfInBounds_self_of_lt (by omega)]
    simp
   ·rw[if_neg (by omega)]
    by_cases h3:i<off+k+(vs.length+1)
    ·rw[if_pos (by omega),if_pos h3,show i-(off+k)=(i-(off+(k+1)))+1 by omega]
     simp
    ·rw[if_neg (by omega),if_neg h3,Array.getElem?_setIfInBounds_ne (by omega)]
theorem Mn (off:Nat): ∀(vs:List Value) (k:Nat) (cs:Array Value),((vs.zipIdx k).foldl (fun cs p=>cs.setIfInBounds (off+p.2) p.1) cs).size=cs.size
 | [],k,cs=>rfl
 | v::vs,k,cs=>by
  simp only[List.zipIdx_cons,List.foldl_cons]
  rw[Mn off vs (k+1)]
  simp
theorem Mo {cells:Array Value} {off:Nat} {v:Value} (h:off+v.cells.size≤cells.size) (i:Nat):
  (v.cells.zipIdx.foldl (fun cs (p:Value × Nat)=>cs.setIfInBounds (off+p.2) p.1) cells)[i]? =if i<off then cells[i]? else if i<off+v.cells.size then v.cells[i-off]? else cells[i]? :=by
 have:=foldl_set off v.cells.toList 0 cells i (by simpa using h)
 rw[←Array.foldl_toList]
 simpa[Array.toList_zipIdx] using this
theorem Mp {cells:Array Value} {off:Nat} {v:Value}:(v.cells.zipIdx.foldl (fun cs (p:Value × Nat)=>cs.setIfInBounds (off+p.2) p.1) cells).size=cells.size:=by
 have:=Mn off v.cells.toList 0 cells
 rw[←Array.foldl_toList]
 simpa[Array.toList_zipIdx] using this
inductive u4 (P:Program) (w:World) (I:Nat→Prop) (β:Nat→Option Nat) (hp:Nat→Option ag):List (Nat × Value)→List (Nat × V)→Prop
 | nil:u4 P w I β hp [] []
 | cons {i:Nat} {v:Value} {x:V} {vs:List (Nat × Value)} {xs:List (Nat × V)}:v.cells.size=x.cells.length→(∀(j:Nat) u y,v.cells[j]? =some u→x.cells[j]? =some y→ah P w I β hp u y)→
   u4 P w I β hp vs xs→u4 P w I β hp ((i,v)::vs) ((i,x)::xs)
theorem Mq (place:Nat→Option (Nat × Nat)): ∀{vs:List (Nat × Value)} {px:List (Nat × V)} {cells:Array Value} {xs ys:List V},u4 P w I β hp vs px→cells.size=xs.length→
  (∀(j:Nat) v x,cells[j]? =some v→xs[j]? =some x→ah P w I β hp v x)→rS place xs px=some ys→
  ∃n7:Array Value,Instr.fill place cells vs=some n7∧n7.size=ys.length∧∀(j:Nat) v x,n7[j]? =some v→ys[j]? =some x→ah P w I β hp v x
 | _,_,cells,xs,ys,.nil,hs,hx,h=>by
  simp only[rS,Option.some.injEq] at h
  subst h
  exact ⟨cells,by simp[Instr.fill],hs,hx⟩
 | _,_,cells,xs,ys,@u4.cons _ _ _ _ _ i v x vs px h1 h2 h3,hs,hx,h=>by
  simp only[rS] at h
  cases e8:place i with
  | none=>rw[e8] at h;cases h
  | some os=>
   obtain ⟨off,size⟩:=os
   rw[e8] at h
   simp only at h
   cases hc:(Nat.beq x.cells.length size&&Nat.ble (off+size) xs.length) with
   | false=>rw[hc] at h;cases h
   | true=>
    rw[hc] at h
    simp only[cond_true] at h
    simp only[Bool.and_eq_true,Nat.beq_eq,Nat.ble_eq] at hc
    have hv:off+v.cells.size≤cells.size:=by omega
    have hb:off+x.cells.length≤xs.length:=by omega
    have hl:(ff xs off x.cells).length=xs.length:=xJ _ _ _ hb
    obtain ⟨n7,f1,f2,f3⟩:=Mq place (cells:=v.cells.zipIdx.foldl (fun cs (p:Value × Nat)=>cs.setIfInBounds (off+p.2) p.1) cells) (xs:=ff xs off x.cells) h3 (by rw[Mp,hl,hs])
     (fun j u y hu hy=>by
      rw[Mo hv] at hu
      unfold ff at hy
      rw[lX _ _ _ _ hb] at hy
      by_cases j1:j<off
      ·rw[if_pos j1] at hu hy;exact hx j u y hu hy
      ·rw[if_neg j1] at hu hy
       by_cases j2:j<off+x.cells.length
       ·rw[if_pos (by omega)] at hu
        rw[if_pos j2] at hy
        exact h2 (j-off) u y hu hy
       ·rw[if_neg (by omega)] at hu
        rw[if_neg j2] at hy
        exact hx j u y hu hy) h
    refine ⟨n7,?_,f2,f3⟩
    simp only[Instr.fill,e8]
    rw[if_neg (by simp;omega)]
    exact f1
theorem V7 {t:TypeId} {parts:Array (Nat × Value)} {cells:Array Value} {z:Value} {i:TypeInfo} (hi:P.info? t=some i) (hz:i.zero=some z) (h:Instr.fill (placeOf P t) z.cells parts.toList=some cells) (ha:bt P t=true)
  (e8: ∀fs,P.underlying t=some (.struct fs)→(fs.toList.mapM fun f=>(P.info? f.type).map fun i=>(f.offset,i.size)).isSome=true) (pk: ∀n e,P.underlying t=some (.array n e)→(P.info? e).isSome=true):
  (Instr.build t parts).run P w= .ok (.agg cells) w:=by
 refine run_build w t parts cells ?_
 unfold Program.built
 unfold bt at ha
 rw[hi]
 split at ha
 ·rename_i fs hu
  have:=e8 fs hu
  cases hm:fs.toList.mapM fun f=>(P.info? f.type).map fun i=>(f.offset,i.size) with
  | none=>rw[hm] at this;cases this
  | some places=>
   simp only[hu,hz,hm]
   have hq:placeOf P t=fun i=>places[i]? :=by simp[placeOf,hu,hm]
   rw[hq] at h
   simpa using h
 ·rename_i n e hu
  have:=pk n e hu
  cases iP:P.info? e with
  | none=>rw[iP] at this;cases this
  | some ie=>
   simp only[hu,hz,iP]
   have hq:placeOf P t=fun i=>some (i*ie.size,ie.size):=by simp[placeOf,hu,iP]
   rw[hq] at h
   exact h
 ·cases ha
theorem Mr {α:Type}: ∀(xs ys:List V) (k:Rd α),j7 (xs++ys) k=j7 xs (j7 ys k)
 | [],_,_=>rfl
 | x::xs,ys,k=>by simp only[List.cons_append,j7,Mr xs ys k]
theorem Ms {a:Act} {sl:Nat→V} (hs:jJ P w I β hp a sl) {G:Nat→V} (hg:gb P G w I) (t:TypeId) {α:Type}: ∀{l:List (Nat × Operand)} {k:Rd α} {r:α} {rd:List Nat},
  (j7 ((l.map fun p=>(aI P G t sl p.2).cells).flatten) k).run C hp=some (r,rd)→
  u4 P w I β hp (l.map fun p=>(p.1,a.eval p.2)) (l.map fun p=>(p.1,aI P G t sl p.2))∧∃eu,k.run C hp=some (r,eu)
 | [],k,r,rd,h=>⟨.nil,rd,h⟩
 | (i,x)::l,k,r,rd,h=>by
  simp only[List.map_cons,List.flatten_cons,Mr] at h
  obtain ⟨e1,e2⟩:=Gu (hs.ev hg t x) h
  obtain ⟨_,l1,h⟩:=B1 h (vs:=(a.eval x).cells.toList) (by simpa using e1) (fun j u y a b=>e2 j u y (by simpa using a) b)
  obtain ⟨h1,h2⟩:=Ms hs hg t h
  exact ⟨.cons e1 e2 h1,h2⟩
theorem V8 (S:aC P w I β hp B M w0) {a:Act} {sl:Nat→V} (hs:jJ P w I β hp a sl) {G:Nat→V} (hg:gb P G w I) {t ty:TypeId} {ps:Array (Nat × Operand)} {r:R} {rd:List Nat}
  (h:(Rd.ay (cw P t&&(bt P t&&BB P t)) (j7 ((ps.toList.map fun p=>(aI P G ty sl p.2).cells).flatten)
   (uz (rS (placeOf P t) (zeroCells P t) (ps.toList.map fun p=>(p.1,aI P G ty sl p.2))) fun cs=> .ret ⟨.agg cs,[]⟩))).run C hp=some (r,rd)):
  cC P ((Instr.build t (ps.map fun (i,x)=>(i,a.eval x))).run P w) w I β hp B M w0 r:=by
 obtain ⟨aq,h⟩:=aD h
 simp only[Bool.and_eq_true] at aq
 obtain ⟨h1,l,h⟩:=Ms hs hg ty h
 cases hf:rS (placeOf P t) (zeroCells P t) (ps.toList.map fun p=>(p.1,aI P G ty sl p.2)) with
 | none=>rw[hf] at h;cases h
 | some cs=>
  rw[hf] at h
  obtain rfl:=aH h
  obtain ⟨i,z,hi,hz,h3,h4,h5⟩:=Ml (w:=w) (I:=I) (β:=β) (hp:=hp) aq.1
  obtain ⟨cells,f1,f2,f3⟩:=Mq (placeOf P t) h1 h3 h5 hf
  have Mt:=aq.2.2
  refine .same S (v:= .agg cells) (V7 hi hz (by simpa using f1) aq.2.1 (fun fs hu=> ?_) (fun n e hu=> ?_)) (.agg f2 f3)
  ·simpa[BB,hu] using Mt
  ·simpa[BB,hu] using Mt
theorem V9 (cj: ∀id blk,hp id=some blk→dt P w I β hp (β id) blk) {x:V} {v:Value} {ys:List V} {fr:List (Nat × ag)} {rd:List Nat} {ts:List TypeId} (hv:ah P w I β hp v x)
  (h:(qB P x.cells).run C hp=some ((ys,fr),rd)) (ht:oT P ts ys=true):
  v.cells.size=x.cells.length∧∀(j:Nat) u y,v.cells.toList[j]? =some u→x.cells[j]? =some y→ah P w I β hp u y:=by
 cases x with
 | agg xs=>
  obtain ⟨cs,rfl,h1,h2⟩:=hv.jL
  exact ⟨h1,fun j u y a b=>h2 j u y (by simpa[Value.cells] using a) b⟩
 | _=>
  simp only[V.cells] at h⊢
  simp only[qB] at h
  obtain ⟨⟨y1,u1⟩,l3,l4,hq,h⟩:=jK h
  obtain ⟨q1,q2⟩:=BP cj hq hv
  obtain ⟨⟨y2,u2⟩,l5,l6,nX,h⟩:=jK h
  cases nX
  have:=aH h
  cases this
  obtain ⟨tl,tg⟩:=sx ht
  have e9:=tg 0 _ y1 (List.getElem?_eq_getElem (by rw[tl];exact Nat.one_pos)) rfl
  have e8:=q2 (gS P w I β hp u1) (fun _ h=> .inl h) (fun p hp b h=> .inr ⟨p,hp,h⟩)
  have ho:=e8.pure e9
  have GL:v.cells= #[v]:=by cases ho<;>rfl
  rw[GL]
  refine ⟨rfl,fun j u y hu hy=> ?_⟩
  cases j with
  | zero=>simp at hu hy;subst hu;subst hy;exact hv
  | succ j=>simp at hy
def u5 (P:Program) (w:World) (I:Nat→Prop) (e:TypeId) (cells:Array Value) (es:List V):Prop:=
 cells.size=es.length*P.cellsOf e∧∀(i j:Nat) (x:V) (t':TypeId),es[i]? =some x→(aM P e)[j]? =some t'→j<P.cellsOf e→∃v,cells[i*P.cellsOf e+j]? =some v∧Pure P w I t' v (bx P e x j)
theorem u5.set {e:TypeId} {cells:Array Value} {es ys:List V} {i:Nat} {v:Value} (h:u5 P w I e cells es) (hi:i<es.length) (hv:v.cells.size=P.cellsOf e) (hy:ys.length=P.cellsOf e)
  (hr: ∀(j:Nat) (t':TypeId) (u:Value) (y:V),(aM P e)[j]? =some t'→v.cells[j]? =some u→ys[j]? =some y→Pure P w I t' u y):
  u5 P w I e (v.cells.zipIdx.foldl (fun cs (p:Value × Nat)=>cs.setIfInBounds (i*P.cellsOf e+p.2) p.1) cells) (es.set i (b9 P e ys)):=by
 obtain ⟨h1,h2⟩:=h
 have hb:i*P.cellsOf e+v.cells.size≤cells.size:=by
  have:(i+1)*P.cellsOf e≤es.length*P.cellsOf e:=Nat.mul_le_mul_right _ hi
  rw[Nat.add_mul] at this
  omega
 refine ⟨by rw[Mp,List.length_set,h1],fun i' j x t' hx ht hj=> ?_⟩
 rw[Mo hb]
 rw[List.getElem?_set] at hx
 by_cases gV:i=i'
 ·subst gV
  rw[if_pos rfl,if_pos hi] at hx
  cases hx
  rw[if_neg (by omega),if_pos (by omega),show i*P.cellsOf e+j-i*P.cellsOf e=j by omega]
  have h3:j<v.cells.size:=by omega
  have h4:j<ys.length:=by omega
  refine ⟨v.cells[j],Array.getElem?_eq_getElem h3,?_⟩
  rw[pd (List.getElem?_eq_getElem h4) ht]
  exact hr j t' _ _ ht (Array.getElem?_eq_getElem h3) (List.getElem?_eq_getElem h4)
 ·rw[if_neg gV] at hx
  have bA:i'*P.cellsOf e+j<i*P.cellsOf e∨i*P.cellsOf e+v.cells.size≤i'*P.cellsOf e+j:=by
   rcases Nat.lt_or_ge i' i with aK|n0
   ·left
    have:(i'+1)*P.cellsOf e≤i*P.cellsOf e:=Nat.mul_le_mul_right _ aK
    rw[Nat.add_mul] at this
    omega
   ·right
    have:(i+1)*P.cellsOf e≤i'*P.cellsOf e:=Nat.mul_le_mul_right _ (by omega)
    rw[Nat.add_mul] at this
    omega
  rcases bA with bA|bA
  ·rw[if_pos bA];exact h2 i' j x t' hx ht hj
  ·rw[if_neg (by omega),if_neg (by omega)];exact h2 i' j x t' hx ht hj
theorem Wa {t':TypeId} {v:Value} (e9:dM P t' (ur (nG P t' v))=true):Pure P w I t' v (ur (nG P t' v)):=by
 have hc:=ah.const (P:=P) (w:=w) (I:=I) (β:=fun _=>none) (hp:=fun _=>none) t' v
 cases sD:nG P t' v<;>rw[sD] at e9 hc<;>simp only[ur] at e9⊢
 case int k n=>rw[hc.dK];exact Plain.pure (v:= .int k n) (y:= .int k n) rfl e9
 case bool b=>rw[hc.iN];exact Plain.pure (v:= .bool b) (y:= .bool b) rfl e9
 case str l=>obtain ⟨s,e1,e2⟩:=hc.kX;rw[e1];exact Plain.pure (v:= .string s) (y:= .str l) ⟨s,rfl,e2⟩ e9
 case nilS e'=>
  cases hc
  exact Plain.pure (y:= .list e' []) (gQ.any fun _=>rfl) e9
 case list e' es=>
  cases hc with
  | list hp=>exact Plain.pure (y:= .list e' es) hp e9
 all_goals (unfold dM at e9;split at e9<;>simp_all)
theorem xR {e:TypeId} (h:kQ P e=true): ∃i z,P.info? e=some i∧i.zero=some z∧i.size=P.cellsOf e∧z.cells.size=P.cellsOf e∧
  ∀(j:Nat) (t':TypeId),(aM P e)[j]? =some t'→j<P.cellsOf e→∃v,z.cells[j]? =some v∧Pure P w I t' v (bx P e (b9 P e (dZ P e)) j):=by
 unfold kQ at h
 simp only[Bool.and_eq_true] at h
 obtain ⟨i,z,h1,h2,h3,h4,h5⟩:=ju h.1
 refine ⟨i,z,h1,h2,h3,h4,fun j t' ht hj=> ?_⟩
 obtain ⟨tl,tg⟩:=sx h.2
 have cz:j<(dZ P e).length:=by rw[←tl,(js h.1).1];exact hj
 have hz:=List.getElem?_eq_getElem cz
 have e9:=tg j t' _ (by rw[←qR];exact ht) hz
 refine ⟨z.cells[j],Array.getElem?_eq_getElem (by omega),?_⟩
 rw[pd hz ht]
 have sE:(dZ P e)[j]=ur (nG P t' z.cells[j]):=by
  have:(dZ P e)[j]? =((zeroCells P e)[j]?).map ur:=by simp[dZ]
  rw[hz] at this
  cases hc:(zeroCells P e)[j]? with
  | none=>rw[hc] at this;cases this
  | some y=>
   rw[hc] at this
   simp only[Option.map_some,Option.some.injEq] at this
   rw[h5] at hc
   obtain ⟨t2,v2,a1,a2,rfl⟩:=GM hc
   have GN:t2=t':=by
    rw[←qR,ht] at a1;exact (Option.some.inj a1).symm
   have o4:v2=z.cells[j]:=by
    have Wb:j<z.cells.size:=by omega
    have:z.cells.toList[j]? =some z.cells[j]:=by simp[Wb]
    rw[this] at a2;exact (Option.some.inj a2).symm
   rw[this,GN,o4]
 rw[sE] at e9⊢
 exact Wa e9
end
section
variable {P:Program} {w w':World} {I I':Nat→Prop} {β aj:Nat→Option Nat} {hp hp':Nat→Option ag} {C:ae} {B:Nat} {M:Nat→Prop} {w0:Start}
theorem u6 (S:aC P w I β hp B M w0) {nb cap:Nat} {e:TypeId} {es:List V} {C0:Array Value} (aq:cw P e=true) (hn:hp nb=none) (hs:C0.size=cap*P.cellsOf e) (hl:es.length≤cap) (hm:cap≤maxLen)
  (hx: ∀(i j:Nat) (x:V) (t':TypeId),es[i]? =some x→(aM P e)[j]? =some t'→j<P.cellsOf e→∃v,C0[i*P.cellsOf e+j]? =some v∧Pure P w I t' v (bx P e x j)):
  Le P w I β hp (w.alloc (.cells C0 e)) I (aF β nb (some w.heap.size)) (aF hp nb (some (.arr e es false)))∧aC P (w.alloc (.cells C0 e)) I (aF β nb (some w.heap.size)) (aF hp nb (some (.arr e es false))) B M w0∧
  ah P (w.alloc (.cells C0 e)) I (aF β nb (some w.heap.size)) (aF hp nb (some (.arr e es false))) (.slice (some ⟨w.heap.size,0,none⟩) es.length cap) (.whole e nb):=by
 obtain ⟨h1,h2⟩:=Gp S (blk:= .arr e es false) (c:=C0) (T:=e) hn (fun b' h=>(Option.some.inj (h.flat (by simp))).symm) (fun hle er cu=> .arr aq rfl er (by rw[hs];exact Nat.mul_le_mul_right _ hl) (fun h=>by cases h) (fun _=>cu) fun i j x t' a b c=>by
  obtain ⟨v,hv,hp⟩:=hx i j x t' a b c
  exact ⟨v,hv,hp.mono hle.cM hle.bR⟩)
 refine ⟨h1,h2,.whole (cy _ _ _) (cy _ _ _) ?_ hl hm⟩
 rw[lR (heap_alloc_new w (.cells C0 e)),hs]
theorem At.only {b b':Nat} {e e':TypeId} {es aG:List V} {q:Path} (hz: ∀(i j:Nat) x t' e1 l,es[i]? =some x→(aM P e)[j]? =some t'→bx P e x j= .list e1 l→l=[])
  (h:At P w b e es q b' e' aG):q=[]∧b'=b∧e'=e∧aG=es:=by
 cases h with
 | here=>exact ⟨rfl,rfl,rfl,rfl⟩
 | step h1 h2 h3 h4 h5 h6=>have:=hz _ _ _ _ _ _ h2 h3 h5;subst this;simp at h6
theorem kT.o0 {t:TypeId} {v:Value} {x:V} (h:Pure P w I t v x) (hz: ∀e1 l,x= .list e1 l→l=[]):kT P w I t v x:=by
 cases h with
 | int h=>exact .fk (by unfold fg;rw[h]) (.int h)
 | bool h=>exact .fk (by unfold fg;rw[h]) (.bool h)
 | str h hl=>exact .fk (by unfold fg;rw[h]) (.str h hl)
 | nil h=>exact .emp h fun _=>rfl
 | emp h=>exact .emp h fun h=>by cases h
 | list g hu hl _ _ _ _=>
  have:=hz _ _ rfl
  subst this
  simp at hl
  subst hl
  exact .emp hu fun h=>by cases h
theorem Wc (S:aC P w I β hp B M w0) {nb cap:Nat} {e:TypeId} {es:List V} {C0:Array Value} (aq:cw P e=true) (hn:hp nb=none) (hs:C0.size=cap*P.cellsOf e) (hl:es.length≤cap) (hm:cap≤maxLen)
  (hx: ∀(i j:Nat) (x:V) (t':TypeId),es[i]? =some x→(aM P e)[j]? =some t'→j<P.cellsOf e→∃v,C0[i*P.cellsOf e+j]? =some v∧Pure P w I t' v (bx P e x j))
  (hz: ∀(i j:Nat) x t' e1 l,es[i]? =some x→(aM P e)[j]? =some t'→bx P e x j= .list e1 l→l=[]):
  Le P w I β hp (w.alloc (.cells C0 e)) I (aF β nb (some w.heap.size)) (aF hp nb (some (.nest e es [0,0,0])))∧aC P (w.alloc (.cells C0 e)) I (aF β nb (some w.heap.size)) (aF hp nb (some (.nest e es [0,0,0]))) B M w0∧
  ah P (w.alloc (.cells C0 e)) I (aF β nb (some w.heap.size)) (aF hp nb (some (.nest e es [0,0,0]))) (.slice (some ⟨w.heap.size,0,none⟩) es.length cap) (.whole e nb):=by
 obtain ⟨h1,h2⟩:=Gp S (blk:= .nest e es [0,0,0]) (c:=C0) (T:=e) hn (fun b' h=>by
   cases h with
   | root _ h=>exact (Option.some.inj h).symm
   | row h ha=>cases h;exact (At.only hz ha).2.1)
  (fun hle er cu=> .nest rfl (fun q b' e' aG ha=>by
   obtain ⟨rfl,rfl,rfl,rfl⟩:=At.only hz ha
   refine ⟨aq,⟨C0,er,by rw[hs];exact Nat.mul_le_mul_right _ hl,fun i j x t' a b c=> ?_⟩,cu⟩
   obtain ⟨v,hv,hp⟩:=hx i j x t' a b c
   exact ⟨v,hv,.o0 (hp.mono hle.cM hle.bR) fun e1 l h=>hz i j x t' e1 l a b h⟩)
   fun q1 q2 b' e1 bY e2 bP a1 a2=>(At.only hz a1).1.trans (At.only hz a2).1.symm)
 refine ⟨h1,h2,.dJ (cy _ _ _) (cy _ _ _) ?_ hl hm⟩
 rw[lR (heap_alloc_new w (.cells C0 e)),hs]
theorem Mu (cj: ∀id blk,hp id=some blk→dt P w I β hp (β id) blk) {a:Act} {sl:Nat→V} (hs:jJ P w I β hp a sl) {G:Nat→V} (hg:gb P G w I) {e:TypeId} {len:Nat}: ∀{l:List (Nat × Operand)} {ps:List (Nat × V)} {upd:List (Nat × ag)} {rd:List Nat},
  (w8 P e len (l.map fun p=>(p.1,aI P G e sl p.2))).run C hp=some ((ps,upd),rd)→cw P e=true→(∀p∈upd,xw hp p)∧∀I':Nat→Prop,(∀b,I b→I' b)→(∀p∈upd,∀b,qQ P w β hp p.1 b→I' b)→
   ∀(cells:Array Value) (es:List V),es.length=len→u5 P w I' e cells es→∃n7,Instr.fill (fun i=>some (i*P.cellsOf e,P.cellsOf e)) cells (l.map fun p=>(p.1,a.eval p.2))=some n7∧u5 P w I' e n7 (w7 es ps)∧(w7 es ps).length=len
 | [],ps,upd,rd,h,_=>by
  cases h
  exact ⟨by simp,fun I' _ _ cells es hl he=>⟨cells,by simp[Instr.fill],he,hl⟩⟩
 | (i,x)::l,ps,upd,rd,h,aq=>by
  simp only[List.map_cons,w8] at h
  obtain ⟨⟨ys,u1⟩,l1,l2,h1,h⟩:=jK h
  obtain ⟨hc,h⟩:=aD h
  obtain ⟨⟨ps',u2⟩,l3,l4,h2,h⟩:=jK h
  have:=aH h
  cases this
  simp only[Bool.and_eq_true,Nat.blt_eq] at hc
  obtain ⟨hi,e9⟩:=hc
  obtain ⟨tl,tg⟩:=sx e9
  have uS:=hs.ev hg e x
  obtain ⟨v1,v2⟩:=V9 cj uS h1 e9
  obtain ⟨k1,k2,k3⟩:=Gn cj h1 (vs:=(a.eval x).cells.toList) (by simpa using v1) v2
  obtain ⟨m1,m2⟩:=Mu cj hs hg h2 aq
  refine ⟨fun p hp=> ?_,fun I' i1 i2 cells es hl he=> ?_⟩
  ·rcases List.mem_append.1 hp with h|h
   ·exact k2 p h
   ·exact m1 p h
  ·have e8:=k3 I' i1 (fun p hp=>i2 p (List.mem_append.2 (.inl hp)))
   have aO:=(js aq).1
   have sB:ys.length=P.cellsOf e:=by rw[←tl,aO]
   have L9:(a.eval x).cells.size=P.cellsOf e:=by rw[v1,←k1,sB]
   have sF:=he.set (i:=i) (ys:=ys) (by omega) L9 sB (fun j t' u y ht hu hy=>by
    exact (e8 j u y (by simpa using hu) hy).pure (tg j t' y (by rw[←qR];exact ht) hy))
   obtain ⟨n7,f1,f2,f3⟩:=m2 I' i1 (fun p hp=>i2 p (List.mem_append.2 (.inr hp))) _ (es.set i (b9 P e ys)) (by simpa using hl) sF
   refine ⟨n7,?_,f2,f3⟩
   have hb:i*P.cellsOf e+P.cellsOf e≤cells.size:=by
    rw[he.1,hl]
    have:(i+1)*P.cellsOf e≤len*P.cellsOf e:=Nat.mul_le_mul_right _ hi
    rw[Nat.add_mul] at this
    omega
   simp only[List.map_cons,Instr.fill]
   rw[if_neg (by simp;omega)]
   exact f1
theorem Mv {z:Array Value} {n k:Nat} (hk:k<n) (hz:0<z.size):((Array.range n).map (z[· %z.size]!))[k]? =z[k %z.size]? :=by
 have hm:k %z.size<z.size:=Nat.mod_lt _ hz
 simp[hk,hm]
theorem Cg {e:TypeId} (h:kQ P e=true) {i:TypeInfo} {z:Value} (hi:P.info? e=some i) (hz:i.zero=some z) (n m:Nat) (mM:n≤m):
  ∀(k j:Nat) (x:V) (t':TypeId),(List.replicate n (b9 P e (dZ P e)))[k]? =some x→(aM P e)[j]? =some t'→j<P.cellsOf e→
   ∃v,((Array.range (m*P.cellsOf e)).map (z.cells[· %z.cells.size]!))[k*P.cellsOf e+j]? =some v∧Pure P w I t' v (bx P e x j):=by
 intro k j x t' hx ht hj
 obtain ⟨i2,z2,h1,h2,h3,h4,h5⟩:=xR (w:=w) (I:=I) h
 rw[hi] at h1;cases h1
 rw[hz] at h2;cases h2
 rw[List.getElem?_replicate] at hx
 split at hx
 ·rename_i hk
  cases hx
  obtain ⟨v,hv,hp⟩:=h5 j t' ht hj
  refine ⟨v,?_,hp⟩
  have hb:k*P.cellsOf e+j<m*P.cellsOf e:=by
   have:(k+1)*P.cellsOf e≤m*P.cellsOf e:=Nat.mul_le_mul_right _ (by omega)
   rw[Nat.add_mul] at this
   omega
  rw[Mv hb (by omega),h4,show (k*P.cellsOf e+j) %P.cellsOf e=j by rw[Nat.mul_comm,Nat.mul_add_mod];exact Nat.mod_eq_of_lt hj]
  exact hv
 ·cases hx
theorem Wd {P:Program} (w:World) (t e:TypeId) (len:Nat) (parts:Array (Nat × Value)) (cells:Array Value) (ie:TypeInfo) (z:Value)
  (hu:P.underlying t=some (.slice e)) (iP:P.info? e=some ie) (hz:ie.zero=some z) (We: ¬len*ie.size>2^24)
  (h:Instr.fill (fun i=>some (i*ie.size,ie.size)) ((Array.range (len*ie.size)).map (z.cells[· %z.cells.size]!)) parts.toList=some cells):
  (Instr.buildSlice t len parts).run P w= .ok (.slice (some ⟨w.heap.size,0,none⟩) len len) (w.alloc (.cells cells e)):=by
 by_cases mM:len*ie.size=0
 ·have h0: ∀g:Nat→Value,(Array.range (len*ie.size)).map g= #[]:=by intro g;exact Array.eq_empty_of_size_eq_zero (by simp[mM])
  have hp: ∀(u:Array Value),(Pure.pure u:Sem (Array Value)).run P w= .ok u w:=fun _=>rfl
  rw[h0] at h
  simp only[Instr.buildSlice,Sem.run_bind,run_underlying hu,Result.andThen_ok,sizeOf,typeInfo,iP]
  have h1:(Array.range (len*ie.size)).map (fun _:Nat=>(default:Value))= #[]:=h0 _
  have hs: ¬16777216<len*ie.size:=by omega
  simp[iP,hs,mM]
  simp only[mM] at h1
  simp[h1,h,newRow]
 ·exact run_buildSlice w t e len parts cells ie z hu iP hz We mM h
theorem Wf (S:aC P w I β hp B M w0) {a:Act} {sl:Nat→V} (hs:jJ P w I β hp a sl) {G:Nat→V} (hg:gb P G w I) {t e:TypeId} {len nb:Nat} {ps:Array (Nat × Operand)} {r:R} {rd:List Nat} (hu:P.underlying t=some (.slice e))
  (h:(Rd.ay (kQ P e&&Nat.ble (len*P.cellsOf e) (2^24)) ((w8 P e len (ps.toList.map fun p=>(p.1,aI P G e sl p.2))).bind fun r=>
    ij nb (.arr e (w7 (List.replicate len (b9 P e (dZ P e))) r.1) false) (.whole e nb) r.2)).run C hp=some (r,rd)):
  cC P ((Instr.buildSlice t len (ps.map fun (i,x)=>(i,a.eval x))).run P w) w I β hp B M w0 r:=by
 obtain ⟨hc,h⟩:=aD h
 simp only[Bool.and_eq_true,Nat.ble_eq] at hc
 obtain ⟨cx,uH⟩:=hc
 have aq:cw P e=true:=by
  unfold kQ at cx;simp only[Bool.and_eq_true] at cx;exact cx.1
 obtain ⟨⟨pv,upd⟩,l1,l2,h1,h⟩:=jK h
 obtain ⟨hn,rfl⟩:=lZ h
 obtain ⟨m1,m2⟩:=Mu S.h.rel hs hg h1 aq
 obtain ⟨pg,S1⟩:=xB S m1
 obtain ⟨i,z,hi,hz,h3,h4,_⟩:=xR (w:=w) (I:=I) cx
 have gR:=(js aq).2
 have h0:u5 P w (gS P w I β hp upd) e ((Array.range (len*P.cellsOf e)).map (z.cells[· %z.cells.size]!)) (List.replicate len (b9 P e (dZ P e))):=
  ⟨by simp,Cg cx hi hz len len (Nat.le_refl _)⟩
 obtain ⟨cells,f1,f2,f3⟩:=m2 (gS P w I β hp upd) (fun _ h=> .inl h) (fun p hp b h=> .inr ⟨p,hp,h⟩) _ _ (by simp) h0
 have jv:bz hp upd nb=none:=by
  rcases sj (hp:=hp) (l:=upd) (id:=nb) with h|⟨b',hm,_⟩
  ·exact h.trans hn
  ·obtain ⟨e1,bY,_,h5⟩:=m1 _ hm
   simp only[hn] at h5
   rcases h5 with ⟨_,h5⟩|⟨_,h5⟩<;>cases h5
 have mV:len≤maxLen:=by
  have:len*1≤len*P.cellsOf e:=Nat.mul_le_mul_left _ gR
  simp only[maxLen]
  omega
 obtain ⟨n1,n2,n3⟩:=u6 S1 (cap:=len) aq jv (by rw[f2.1,f3]) (by rw[f3];exact Nat.le_refl _) mV f2.2
 have cA:=Wd w t e len (ps.map fun (i,x)=>(i,a.eval x)) cells i z hu hi hz (by rw[h3];omega) (by rw[h3];simpa using f1)
 refine ⟨_,_,_,_,cA,pg.trans n1,n2,?_⟩
 rw[f3] at n3
 exact n3
theorem Mw (S:aC P w I β hp B M w0) {t e:TypeId} {nb:Nat} {kl kc:IntKind} {n m:Int} {r:R} {rd:List Nat} (hu:P.underlying t=some (.slice e))
  (h:(Rd.ay (kQ P e&&(decide (0≤n)&&(decide (n≤m)&&Nat.ble (m.toNat*P.bytesOf e) b7)))
    (ij nb (.arr e (List.replicate n.toNat (b9 P e (dZ P e))) false) (.whole e nb) [])).run C hp=some (r,rd)):
  cC P ((Instr.makeSlice t (.int kl n) (.int kc m)).run P w) w I β hp B M w0 r:=by
 obtain ⟨hc,h⟩:=aD h
 simp only[Bool.and_eq_true,Nat.ble_eq,decide_eq_true_eq] at hc
 obtain ⟨cx,h0,mM,dO⟩:=hc
 have aq:cw P e=true:=by
  unfold kQ at cx;simp only[Bool.and_eq_true] at cx;exact cx.1
 obtain ⟨hn,rfl⟩:=lZ h
 obtain ⟨i,z,hi,hz,h3,h4,_⟩:=xR (w:=w) (I:=I) cx
 have lb:P.bytesOf e=i.bytes:=by simp[Program.bytesOf,hi]
 have GO:m≤9223372036854775807:=by
  have h1:m.toNat*1≤m.toNat*P.bytesOf e:=Nat.mul_le_mul_left _ (uJ aq)
  simp only[b7] at dO
  omega
 have cA:=run_make (P:=P) w t e i z hu hi hz kl kc n m h0 mM (by
  rw[lb] at dO
  simp only[b7] at dO
  have:(i.bytes:Int)*m=((m.toNat*i.bytes:Nat):Int):=by
   rw[Int.natCast_mul,Int.toNat_of_nonneg (by omega),Int.mul_comm]
  rw[this]
  omega) GO
 have hlen:(List.replicate n.toNat (b9 P e (dZ P e))).length=n.toNat:=by simp
 obtain ⟨n1,n2,n3⟩:=u6 S (cap:=m.toNat) (es:=List.replicate n.toNat (b9 P e (dZ P e))) (C0:=madeCells z.cells (m.toNat*i.size)) aq hn (by rw[size_madeCells,h3]) (by rw[hlen];omega) (by simp only[maxLen];omega)
  (by rw[h3];exact Cg cx hi hz n.toNat m.toNat (by omega))
 refine ⟨_,_,_,_,cA,n1,n2,?_⟩
 rw[hlen] at n3
 exact n3
theorem GP: ∀{l:List V} {j:Nat} {e1:TypeId} {k:List V},xi l=true→V.nth l j= .list e1 k→k=[]
 | [],j,e1,k,_,h=>by cases j<;>cases h
 | x::l,0,e1,k,hn,h=>by
  simp only[V.nth] at h
  subst h
  cases k with
  | nil=>rfl
  | cons _ _=>cases hn
 | x::l,j+1,e1,k,hn,h=>by
  refine GP (l:=l) (j:=j) ?_ h
  cases x with
  | list e2 k2=>
   cases k2 with
   | nil=>exact hn
   | cons _ _=>cases hn
  | _=>exact hn
theorem Wg {e:TypeId} {n:Nat} (aq:cw P e=true) (h:xi (dZ P e)=true):
  ∀(i j:Nat) x t' e1 l,(List.replicate n (b9 P e (dZ P e)))[i]? =some x→(aM P e)[j]? =some t'→bx P e x j= .list e1 l→l=[]:=by
 intro i j x t' e1 l hx ht hl
 have:=List.eq_of_mem_replicate (List.mem_of_getElem? hx)
 subst this
 unfold bx b9 at hl
 cases ha:bt P e with
 | true=>rw[ha] at hl;exact GP h hl
 | false=>rw[ha] at hl;exact GP h hl
theorem Wh (S:aC P w I β hp B M w0) {t e:TypeId} {nb:Nat} {kl kc:IntKind} {n m:Int} {r:R} {rd:List Nat} (hu:P.underlying t=some (.slice e))
  (h:(Rd.ay (kQ P e&&(decide (0≤n)&&(decide (n≤m)&&Nat.ble (m.toNat*P.bytesOf e) b7)))
    (Rd.ay (xi (dZ P e)) (ij nb (.nest e (List.replicate n.toNat (b9 P e (dZ P e))) [0,0,0]) (.whole e nb) []))).run C hp=some (r,rd)):
  cC P ((Instr.makeSlice t (.int kl n) (.int kc m)).run P w) w I β hp B M w0 r:=by
 obtain ⟨hc,h⟩:=aD h
 simp only[Bool.and_eq_true,Nat.ble_eq,decide_eq_true_eq] at hc
 obtain ⟨cx,h0,mM,dO⟩:=hc
 have aq:cw P e=true:=by
  unfold kQ at cx;simp only[Bool.and_eq_true] at cx;exact cx.1
 obtain ⟨Wi,h⟩:=aD h
 obtain ⟨hn,rfl⟩:=lZ h
 obtain ⟨i,z,hi,hz,h3,h4,_⟩:=xR (w:=w) (I:=I) cx
 have lb:P.bytesOf e=i.bytes:=by simp[Program.bytesOf,hi]
 have GO:m≤9223372036854775807:=by
  have h1:m.toNat*1≤m.toNat*P.bytesOf e:=Nat.mul_le_mul_left _ (uJ aq)
  simp only[b7] at dO
  omega
 have cA:=run_make (P:=P) w t e i z hu hi hz kl kc n m h0 mM (by
  rw[lb] at dO
  simp only[b7] at dO
  have:(i.bytes:Int)*m=((m.toNat*i.bytes:Nat):Int):=by
   rw[Int.natCast_mul,Int.toNat_of_nonneg (by omega),Int.mul_comm]
  rw[this]
  omega) GO
 have hlen:(List.replicate n.toNat (b9 P e (dZ P e))).length=n.toNat:=by simp
 obtain ⟨n1,n2,n3⟩:=Wc S (cap:=m.toNat) (es:=List.replicate n.toNat (b9 P e (dZ P e))) (C0:=madeCells z.cells (m.toNat*i.size)) aq hn (by rw[size_madeCells,h3]) (by rw[hlen];omega) (by simp only[maxLen];omega)
  (by rw[h3];exact Cg cx hi hz n.toNat m.toNat (by omega))
  (Wg aq Wi)
 refine ⟨_,_,_,_,cA,n1,n2,?_⟩
 rw[hlen] at n3
 exact n3
theorem Pure.one {t:TypeId} {v:Value} {x:V} (h:Pure P w I t v x):v.oneCell'=true:=by cases h<;>rfl
structure Row (P:Program) (w:World) (I:Nat→Prop) (e:TypeId) (v:Value) (xs:List V) (a:Addr) (c:Nat) (news:List Value):Prop where
 val:v= .slice (some a) xs.length c
 len:news.length=xs.length*P.cellsOf e
 cell: ∀(j:Nat) u,news[j]? =some u→w.cell? (a.add j)=some u
 el: ∀(i j:Nat) (x:V) (t':TypeId),xs[i]? =some x→(aM P e)[j]? =some t'→j<P.cellsOf e→∃u,news[i*P.cellsOf e+j]? =some u∧Pure P w I t' u (bx P e x j)
theorem Row.one {e:TypeId} {v:Value} {xs:List V} {a:Addr} {c:Nat} {news:List Value} (h:Row P w I e v xs a c news) (aq:cw P e=true): ∀u∈news,u.oneCell'=true:=by
 intro u hu
 obtain ⟨k,hk⟩:=List.getElem?_of_mem hu
 have ki:=(List.getElem?_eq_some_iff.1 hk).1
 have gR:=(js aq).2
 rw[h.len] at ki
 have hi:k/P.cellsOf e<xs.length:=Nat.div_lt_of_lt_mul (by rw[Nat.mul_comm];exact ki)
 have hj:k %P.cellsOf e<P.cellsOf e:=Nat.mod_lt _ gR
 have fP:k %P.cellsOf e<(aM P e).length:=by rw[e7 aq];exact hj
 obtain ⟨u',fp,hp⟩:=h.el (k/P.cellsOf e) (k %P.cellsOf e) _ _ (List.getElem?_eq_getElem hi) (List.getElem?_eq_getElem fP) hj
 rw[Nat.div_add_mod'] at fp
 rw[hk] at fp
 cases fp
 exact hp.one
theorem Mx {e:TypeId} {es:List V} {b:Nat} {Ca:Array Value} {off len cap o:Nat} (hh:w.heap[b]? =some (.cells Ca e (0,0))) (hs:es.length*P.cellsOf e≤Ca.size)
  (hx: ∀(i j:Nat) (x:V) (t':TypeId),es[i]? =some x→(aM P e)[j]? =some t'→j<P.cellsOf e→∃v,Ca[i*P.cellsOf e+j]? =some v∧Pure P w I t' v (bx P e x j))
  (iq:off+len≤es.length) (ho:0<len→o=off*P.cellsOf e):
  Row P w I e (.slice (some ⟨b,o,none⟩) len cap) ((es.drop off).take len) ⟨b,o,none⟩ cap ((Ca.toList.drop (off*P.cellsOf e)).take (len*P.cellsOf e)):=by
 have hlen:((es.drop off).take len).length=len:=by simp;omega
 have hb:(off+len)*P.cellsOf e≤Ca.size:=Nat.le_trans (Nat.mul_le_mul_right _ iq) hs
 rw[Nat.add_mul] at hb
 refine ⟨by rw[hlen],by rw[hlen];simp;omega,fun j u hj=> ?_,fun i j x t' fN ht hj=> ?_⟩
 ·have cz:=(List.getElem?_eq_some_iff.1 hj).1
  have GQ:j<len*P.cellsOf e:=by
   rw[List.length_take] at cz;omega
  have kU:0<len:=by
   rcases Nat.eq_zero_or_pos len with h|h
   ·rw[h] at GQ;simp at GQ
   ·exact h
  rw[List.getElem?_take_of_lt GQ,List.getElem?_drop] at hj
  rw[lW,cell?_cells hh,ho kU]
  simpa using hj
 ·have hi:i<len:=by rw[←hlen];exact (List.getElem?_eq_some_iff.1 fN).1
  rw[List.getElem?_take_of_lt hi,List.getElem?_drop] at fN
  obtain ⟨u,hu,hp⟩:=hx (off+i) j x t' fN ht hj
  refine ⟨u,?_,hp⟩
  have:i*P.cellsOf e+j<len*P.cellsOf e:=by
   have:(i+1)*P.cellsOf e≤len*P.cellsOf e:=Nat.mul_le_mul_right _ hi
   rw[Nat.add_mul] at this
   omega
  rw[List.getElem?_take_of_lt this,List.getElem?_drop]
  rw[Nat.add_mul] at hu
  rw[←Nat.add_assoc]
  simpa using hu
theorem Ch (cj: ∀id blk,hp id=some blk→dt P w I β hp (β id) blk) {e:TypeId} {v:Value} {x:V} {k:List V→Rd R} {r:R} {rd:List Nat} (aq:cw P e=true) (hv:ah P w I β hp v x)
  (h:(qG e x k).run C hp=some (r,rd)): ∃xs,(((∃a,v= .slice a 0 0)∧xs=[])∨∃a c news,Row P w I e v xs a c news)∧∃l,(k xs).run C hp=some (r,l):=by
 cases hv with
 | list hp'=>
  obtain ⟨hc,h2⟩:=aD h
  clear h
  rw[Nat.beq_eq] at hc
  subst hc
  cases hp' with
  | nil=>exact ⟨[],.inl ⟨⟨_,rfl⟩,rfl⟩,rd,h2⟩
  | @emp a cap=>exact ⟨[],.inr ⟨a,cap,[],⟨rfl,by simp,fun j u hj=>by simp at hj,fun i j x t' hx _ _=>by simp at hx⟩⟩,rd,h2⟩
  | @list b o len cap es g hl bQ hI fE hx=>
   refine ⟨_,.inr ⟨⟨b,o,none⟩,cap,(List.range (len*P.cellsOf e)).map fun k=>g (k/P.cellsOf e) (k %P.cellsOf e),⟨by rw[hl],by rw[hl];simp,fun j u hj=> ?_,fun i j x t' fN ht hj=> ?_⟩⟩,rd,h2⟩
   ·obtain ⟨cz,gA⟩:=List.getElem?_eq_some_iff.1 hj
    simp at cz gA
    have gR:=(js aq).2
    have hi:j/P.cellsOf e<len:=Nat.div_lt_of_lt_mul (by rw[Nat.mul_comm];exact cz)
    have bS:j %P.cellsOf e<P.cellsOf e:=Nat.mod_lt _ gR
    rw[lW,←gA]
    have:=fE (j/P.cellsOf e) (j %P.cellsOf e) hi bS
    rwa [Nat.div_add_mod'] at this
   ·have hi:i<len:=by rw[←hl];exact (List.getElem?_eq_some_iff.1 fN).1
    have hb:i*P.cellsOf e+j<len*P.cellsOf e:=by
     have:(i+1)*P.cellsOf e≤len*P.cellsOf e:=Nat.mul_le_mul_right _ hi
     rw[Nat.add_mul] at this
     omega
    refine ⟨g i j,?_,hx i j x t' fN ht⟩
    have e1:(i*P.cellsOf e+j)/P.cellsOf e=i:=by
     rw[Nat.mul_comm,Nat.mul_add_div (js aq).2,Nat.div_eq_of_lt hj,Nat.add_zero]
    have e2:(i*P.cellsOf e+j) %P.cellsOf e=j:=by
     rw[Nat.mul_comm,Nat.mul_add_mod];exact Nat.mod_eq_of_lt hj
    simp[hb,e1,e2]
 | nilS=>
  obtain ⟨hc,h⟩:=aD h
  exact ⟨[],.inl ⟨⟨_,rfl⟩,rfl⟩,rd,h⟩
 | dg aa hb=>
  obtain ⟨l,h⟩:=run_get h
  simp only[aa] at h
  obtain ⟨hc,h⟩:=aD h
  exact ⟨[],.inl ⟨⟨_,rfl⟩,rfl⟩,l,h⟩
 | @whole e' id es fz b cap aa hb aO bQ hm=>
  obtain ⟨l,h⟩:=run_get h
  simp only[aa] at h
  obtain ⟨hc,h2⟩:=aD h
  clear h
  simp only[Bool.and_eq_true,Nat.beq_eq] at hc
  obtain ⟨rfl,_⟩:=hc
  have hr:=cj _ _ aa
  cases hr with
  | dh au=>rw[au] at hb;cases hb
  | arr Gt au hh hs hf dE hx=>
   rw[hb] at au;cases au
   have:=Mx (cap:=cap) (off:=0) (len:=es.length) (o:=0) hh hs hx (by omega) (fun _=>by simp)
   exact ⟨es,.inr ⟨_,_,_,by simpa using this⟩,l,h2⟩
 | fl aa hb=>
  obtain ⟨l,h⟩:=run_get h
  simp only[aa] at h
  obtain ⟨hc,h⟩:=aD h
  exact ⟨[],.inl ⟨⟨_,rfl⟩,rfl⟩,l,by simpa using h⟩
 | @sub e' id off len es fz b o cap aa hb iq bQ ho=>
  obtain ⟨l,h⟩:=run_get h
  simp only[aa] at h
  obtain ⟨hc,h2⟩:=aD h
  clear h
  simp only[Bool.and_eq_true,Nat.beq_eq] at hc
  obtain ⟨rfl,_⟩:=hc
  have hr:=cj _ _ aa
  cases hr with
  | dh au=>rw[au] at hb;cases hb
  | arr Gt au hh hs hf dE hx=>
   rw[hb] at au;cases au
   exact ⟨_,.inr ⟨_,_,_,Mx (cap:=cap) hh hs hx iq ho⟩,l,h2⟩
 | dD aa=>
  obtain ⟨l,h⟩:=run_get h
  simp only[aa] at h
  cases h
 | fD aa=>
  obtain ⟨l,h⟩:=run_get h
  simp only[aa] at h
  cases h
 | undef=>cases h
 | int=>cases h
 | bool=>cases h
 | str=>cases h
 | agg=>cases h
 | aQ=>cases h
 | cP=>cases h
 | fn=>cases h
 | pref=>cases h
 | jq=>cases h
 | ptr=>cases h
 | iI=>cases h
 | iJ=>cases h
 | row=>cases h
 | cg=>cases h
 | cQ=>cases h
 | gz=>cases h
 | bG=>cases h
 | dJ aa=>
  obtain ⟨l,h⟩:=run_get h
  simp only[aa] at h
  cases h
theorem My {t ty e:TypeId} {i:TypeInfo} (ht:P.underlying t=some (.slice e)) (hi:P.info? e=some i) (a:Option Addr) (n cap:Nat) (x:Value) (hx: ∃a c,x= .slice a 0 c) (hn:n≤cap):
  (Builtin.append_ #[t,t] ty #[.slice a n cap,x]).run P w= .ok (.slice a n cap) w:=by
 obtain ⟨a',c,rfl⟩:=hx
 cases a' with
 | none=>cases a<;>simp[Builtin.append_,run_underlying ht,sizeOf,typeInfo,hi,Builtin.lenOf,Builtin.firstCells,hn,storeCells]
 | some a'=>cases a<;>simp[Builtin.append_,run_underlying ht,sizeOf,typeInfo,hi,Builtin.lenOf,Builtin.firstCells,hn,storeCells,loadCells,loadCellsFrom]
theorem Ci {e:TypeId} {es xs:List V} {n:Nat} {c:List Value} {news:List Value} (hn:es.length=n)
  (h1: ∀(i j:Nat) (x:V) (t':TypeId),es[i]? =some x→(aM P e)[j]? =some t'→j<P.cellsOf e→∃v,c[i*P.cellsOf e+j]? =some v∧Pure P w I t' v (bx P e x j))
  (h2: ∀(i j:Nat) (x:V) (t':TypeId),xs[i]? =some x→(aM P e)[j]? =some t'→j<P.cellsOf e→∃v,news[i*P.cellsOf e+j]? =some v∧Pure P w I t' v (bx P e x j))
  (hb:n*P.cellsOf e≤c.length) (rest:List Value):
  ∀(i j:Nat) (x:V) (t':TypeId),(es++xs)[i]? =some x→(aM P e)[j]? =some t'→j<P.cellsOf e→∃v,(c.take (n*P.cellsOf e)++news++rest)[i*P.cellsOf e+j]? =some v∧Pure P w I t' v (bx P e x j):=by
 intro i j x t' hx ht hj
 have hl:(c.take (n*P.cellsOf e)).length=n*P.cellsOf e:=by simp;omega
 by_cases hi:i<n
 ·rw[List.getElem?_append_left (by omega)] at hx
  obtain ⟨v,hv,hp⟩:=h1 i j x t' hx ht hj
  have:i*P.cellsOf e+j<n*P.cellsOf e:=by
   have:(i+1)*P.cellsOf e≤n*P.cellsOf e:=Nat.mul_le_mul_right _ hi
   rw[Nat.add_mul] at this
   omega
  exact ⟨v,by rw[List.append_assoc,List.getElem?_append_left (by omega),List.getElem?_take_of_lt this];exact hv,hp⟩
 ·rw[List.getElem?_append_right (by omega),hn] at hx
  obtain ⟨v,hv,hp⟩:=h2 (i-n) j x t' hx ht hj
  have ma:i-n<xs.length:=(List.getElem?_eq_some_iff.1 hx).1
  have e1:i*P.cellsOf e+j-n*P.cellsOf e=(i-n)*P.cellsOf e+j:=by
   rw[Nat.sub_mul]
   have:n*P.cellsOf e≤i*P.cellsOf e:=Nat.mul_le_mul_right _ (by omega)
   omega
  have h3:(i-n)*P.cellsOf e+j<news.length:=(List.getElem?_eq_some_iff.1 hv).1
  refine ⟨v,?_,hp⟩
  have h4:n*P.cellsOf e≤i*P.cellsOf e+j:=by
   have:n*P.cellsOf e≤i*P.cellsOf e:=Nat.mul_le_mul_right _ (by omega)
   omega
  rw[List.append_assoc,List.getElem?_append_right (by omega),hl,e1,List.getElem?_append_left h3]
  exact hv
theorem Pure.drew {t:TypeId} {v:Value} {x:V} (h:Pure P w I t v x):Pure P w.drew I t v x:=Pure.mono (w:=w) (w':=w.drew) (fun _ h=>h) (fun _ _=>rfl) h
theorem Wj (w:World) (t ty e:TypeId) (i:TypeInfo) (z:Value) (ht:P.underlying t=some (.slice e)) (hi:P.info? e=some i) (hz:i.zero=some z)
  (a0:Option Addr) (a:Addr) (n c:Nat) (news:List Value) (hl:news.length=n*i.size) (Cj: ∀j v,news[j]? =some v→w.cell? (a.add j)=some v)
  (h0:0<n) (Ck:(n:Int)≤9223372036854775807) (Cl:n*i.bytes≤281474976710656):
  (Builtin.append_ #[t,t] ty #[.slice a0 0 0,.slice (some a) n c]).run P w=
   .ok (.slice (some ⟨w.heap.size,0,none⟩) n (grownCap w n 0 e)) (w.drew.alloc (.cells (news.toArray++Builtin.zeroCells z.cells (grownCap w n 0 e-n)) e)):=by
 cases a0 with
 | none=>exact run_append_nil w t ty e i z ht hi hz a n c news hl Cj h0 Ck Cl
 | some b=>
  have:=run_append_grow (P:=P) w t ty e i z ht hi hz b 0 0 [] (by simp) (by simp) a n c news hl Cj (by omega) (by omega) (by rw[Nat.zero_add,nextslicecap_zero h0];omega)
  simpa using this
theorem GR (S:aC P w I β hp B M w0) {t ty e:TypeId} {nb:Nat} {x:Value} {xs:List V} (hu:P.underlying t=some (.slice e)) (aq:cw P e=true) (hn:hp nb=none)
  (dO:xs.length*P.bytesOf e≤b7) {a0:Option Addr} (hx:((∃a,x= .slice a 0 0)∧xs=[])∨∃a c news,Row P w I e x xs a c news):
  ∃v w' aj,(Builtin.append_ #[t,t] ty #[.slice a0 0 0,x]).run P w= .ok v w'∧Le P w I β hp w' I aj (aF hp nb (some (.arr e xs false)))∧aC P w' I aj (aF hp nb (some (.arr e xs false))) B M w0∧
   ah P w' I aj (aF hp nb (some (.arr e xs false))) v (.whole e nb):=by
 obtain ⟨i,z,hi,hz,h3,h4,_⟩:=ju aq
 have sG:=uJ aq
 have lb:P.bytesOf e=i.bytes:=by simp[Program.bytesOf,hi]
 have hlen:xs.length≤2^45:=by
  have:xs.length*1≤xs.length*P.bytesOf e:=Nat.mul_le_mul_left _ sG
  simp only[b7] at dO
  omega
 have empty:xs=[]→(∃a c,x= .slice a 0 c)→∃v w' aj,(Builtin.append_ #[t,t] ty #[.slice a0 0 0,x]).run P w= .ok v w'∧Le P w I β hp w' I aj (aF hp nb (some (.arr e xs false)))∧aC P w' I aj (aF hp nb (some (.arr e xs false))) B M w0∧
   ah P w' I aj (aF hp nb (some (.arr e xs false))) v (.whole e nb):=by
  intro fQ GS
  subst fQ
  obtain ⟨a1,a2⟩:=BQ S e hn
  exact ⟨_,_,_,My hu hi a0 0 0 x GS (Nat.le_refl _),a1,a2,.dg (cy _ _ _) (cy _ _ _)⟩
 rcases hx with ⟨⟨_,rfl⟩,rfl⟩|⟨a,c,news,hr⟩
 ·exact empty rfl ⟨_,_,rfl⟩
 ·by_cases h0:xs.length=0
  ·have fQ:xs=[]:=List.eq_nil_of_length_eq_zero h0
   refine empty fQ ⟨some a,c,?_⟩
   rw[hr.val,h0]
  ·have cA:=Wj (P:=P) w t ty e i z hu hi hz a0 a xs.length c news (by rw[hr.len,h3]) hr.cell (by omega) (by omega) (by rw[←lb];simp only[b7] at dO;omega)
   have n0:=grownCap_ge w xs.length 0 e
   have sH:grownCap w xs.length 0 e≤maxLen:=grownCap_le_maxLen w xs.length 0 e (by simp only[maxLen];omega)
   obtain ⟨n1,n2,n3⟩:=u6 S.drew (nb:=nb) (cap:=grownCap w xs.length 0 e) (es:=xs) (C0:=news.toArray++Builtin.zeroCells z.cells (grownCap w xs.length 0 e-xs.length)) aq hn
    (by simp only[Array.size_append,List.size_toArray,size_zeroCells,h4,hr.len,←Nat.add_mul];congr 1;omega) n0 sH
    (fun i' j y t' hy ht hj=>by
     obtain ⟨u,fp,hp⟩:=hr.el i' j y t' hy ht hj
     have aK:=(List.getElem?_eq_some_iff.1 fp).1
     refine ⟨u,?_,Pure.drew hp⟩
     rw[Array.getElem?_append_left (by simpa using aK)]
     simpa using fp)
   rw[hr.val]
   exact ⟨_,_,_,cA,(Le.drew w I β hp).trans n1,n2,n3⟩
theorem Wk (S:aC P w I β hp B M w0) {t ty e:TypeId} {nb:Nat} {s x:Value} {sv xv:V} {r:R} {rd:List Nat} (hu:P.underlying t=some (.slice e)) (hs:ah P w I β hp s sv) (hx:ah P w I β hp x xv)
  (h:(uy P nb e sv xv).run C hp=some (r,rd)):cC P ((Builtin.append_ #[t,t] ty #[s,x]).run P w) w I β hp B M w0 r:=by
 unfold uy at h
 obtain ⟨aq,h⟩:=aD h
 obtain ⟨xs,kj,l0,h⟩:=Ch S.h.rel aq hx h
 cases sv with
 | nilS e'=>
  obtain ⟨hc,h⟩:=aD h
  simp only[Bool.and_eq_true,Nat.beq_eq,Nat.ble_eq] at hc
  obtain ⟨hn,rfl⟩:=lZ h
  obtain ⟨a0,rfl⟩: ∃a0,s= .slice a0 0 0:=by cases hs;exact ⟨_,rfl⟩
  obtain ⟨v,w',aj,a1,a2,a3,a4⟩:=GR (ty:=ty) S hu aq hn hc.2 kj
  exact ⟨v,w',I,aj,a1,a2,a3,a4⟩
 | whole e' id=>
  obtain ⟨l,h⟩:=run_get h
  cases aa:hp id with
  | none=>rw[aa] at h;cases h
  | some blk=>
   rw[aa] at h
   cases blk with
   | dead=>cases h
   | var _=>cases h
   | nest _ _ _=>cases h
   | map _ _=>cases h
   | arr dc es fz=>
    cases fz with
    | true=>cases h
    | false=>
     obtain ⟨hc,h⟩:=aD h
     obtain ⟨hn,rfl⟩:=lZ h
     simp only[Bool.and_eq_true,Nat.beq_eq,Nat.ble_eq] at hc
     obtain ⟨GU,GV,dO⟩:=hc
     subst GU
     subst GV
     have bA:nb≠id:=fun e=>by rw[e,aa] at hn;cases hn
     obtain ⟨k1,k2⟩:=BR S aa
     have jv:aF hp id (some ag.dead) nb=none:=by rw[dF _ _ bA];exact hn
     cases hs with
     | dD hd=>rw[aa] at hd;cases hd
     | dJ hd=>rw[aa] at hd;cases hd
     | dg hd hb=>
      rw[aa] at hd
      cases hd
      simp only[List.length_nil,Nat.zero_add] at dO
      have Wl:((∃a,x= .slice a 0 0)∧xs=[])∨∃a c news,Row P w I e x xs a c news:=kj
      obtain ⟨v,w',aj,a1,a2,a3,a4⟩:=GR (ty:=ty) k2 hu aq jv dO Wl
      exact ⟨v,w',I,aj,a1,k1.trans a2,a3,a4⟩
     | @whole _ _ aG lO b cap hd hb aO bQ hm=>
      rw[aa] at hd
      cases hd
      have hr:=S.h.rel id _ aa
      cases hr with
      | dh au=>rw[au] at hb;cases hb
      | @arr _ _ _ b' Ca _ au hh n8 hf dE ld=>
       rw[hb] at au
       cases au
       obtain ⟨i,z,hi,hz,h3,h4,_⟩:=ju aq
       have sG:=uJ aq
       have lb:P.bytesOf e=i.bytes:=by simp[Program.bytesOf,hi]
       have hlen:es.length+xs.length≤2^45:=by
        have:(es.length+xs.length)*1≤(es.length+xs.length)*P.bytesOf e:=Nat.mul_le_mul_left _ sG
        simp only[b7] at dO
        omega
       rw[lR hh] at aO
       have o8: ∀az blk',aF hp id (some ag.dead) az=some blk'→¬bj P w (β az) blk' b:=by
        intro az blk' h1 h2
        by_cases gV:az=id
        ·subst gV;rw[cy] at h1;cases h1;exact h2.alive rfl
        ·rw[dF _ _ gV] at h1
         exact gV (S.h.inj az id blk' _ b h1 aa h2 (.root (by simp) hb))
       have GW:=S.h.qO id _ b aa (by simp) hb
       have room: ∀(C':Array Value) (w':World) (ys:List V),w'.heap[b]? =some (.cells C' e (0,0))→C'.size=Ca.size→(∀b',b'≠b→w'.heap[b']? =w.heap[b']?)→w.heap.size≤w'.heap.size→(w'.os=w.os∧w'.output=w.output)→ys.length≤cap→
         (∀(i j:Nat) (y:V) (t':TypeId),ys[i]? =some y→(aM P e)[j]? =some t'→j<P.cellsOf e→∃v,C'[i*P.cellsOf e+j]? =some v∧Pure P w I t' v (bx P e y j))→
         Le P w I β hp w' I (aF β nb (some b)) (aF (aF hp id (some .dead)) nb (some (.arr e ys false)))∧aC P w' I (aF β nb (some b)) (aF (aF hp id (some .dead)) nb (some (.arr e ys false))) B M w0∧
         ah P w' I (aF β nb (some b)) (aF (aF hp id (some .dead)) nb (some (.arr e ys false))) (.slice (some ⟨b,0,none⟩) ys.length cap) (.whole e nb):=by
        intro C' w' ys hC m7 xS Wm Wn sB hy
        obtain ⟨a1,a2⟩:=xD k2 (blk:= .arr e ys false) (w':=w') jv o8 (dE rfl) (fun b' h _=>xS b' h) Wm Wn GW
         (fun b' h=>(Option.some.inj (h.flat (by simp))).symm) (fun hle=> .arr aq rfl hC (by rw[m7,←aO];exact Nat.mul_le_mul_right _ sB) (fun h=>by cases h) (fun _=>dE rfl) fun i j y t' a b c=>by
          obtain ⟨v,hv,hp⟩:=hy i j y t' a b c
          exact ⟨v,hv,hp.mono hle.cM hle.bR⟩)
        refine ⟨k1.trans a1,a2,.whole (cy _ _ _) (cy _ _ _) ?_ sB hm⟩
        rw[lR hC,m7,aO]
       have same:xs=[]→(∃a c,x= .slice a 0 c)→cC P ((Builtin.append_ #[t,t] ty #[.slice (some ⟨b,0,none⟩) es.length cap,x]).run P w) w I β hp B M w0 ⟨.whole e nb,[(nb,.arr e (es++xs) false),(id,.dead)]⟩:=by
        intro fQ GS
        subst fQ
        rw[List.append_nil]
        obtain ⟨a1,a2,a3⟩:=room Ca w es hh rfl (fun _ _=>rfl) (Nat.le_refl _) ⟨rfl,rfl⟩ bQ ld
        exact ⟨_,_,_,_,My hu hi _ _ _ x GS bQ,a1,a2,a3⟩
       rcases kj with ⟨⟨_,rfl⟩,rfl⟩|⟨a,c,news,b8⟩
       ·exact same rfl ⟨_,_,rfl⟩
       ·have h1:=b8.one aq
        have kh:es.length*P.cellsOf e≤Ca.toList.length:=by simpa using n8
        by_cases qX:es.length+xs.length≤cap
        ·have xT:es.length*P.cellsOf e+news.length≤Ca.size:=by rw[b8.len,←Nat.add_mul,←aO];exact Nat.mul_le_mul_right _ qX
         have cA:=run_append_room (P:=P) w t ty e i hu hi b es.length cap Ca hh a xs.length c news (by rw[b8.len,h3]) b8.cell h1 qX (by rw[h3];exact xT)
         rw[h3] at cA
         have cx:=Ci (P:=P) (w:=w) (I:=I) (n:=es.length) (c:=Ca.toList) rfl (fun i j y t' a b c=>by
          obtain ⟨v,hv,hp⟩:=ld i j y t' a b c
          exact ⟨v,by simpa using hv,hp⟩) b8.el kh (Ca.toList.drop (es.length*P.cellsOf e+news.length))
         obtain ⟨a1,a2,a3⟩:=room (Ca.toList.take (es.length*P.cellsOf e)++news++Ca.toList.drop (es.length*P.cellsOf e+news.length)).toArray (w.setRow b _) (es++xs)
          (setRow_heap w b Ca _ e _ hh) (by simp;omega) (fun b' au=>setRow_other w b b' _ au) (by simp) ⟨rfl,rfl⟩ (by simpa using qX)
          (fun i j y t' a b c=>by
           obtain ⟨v,hv,hp⟩:=cx i j y t' a b c
           exact ⟨v,by simpa using hv,hp⟩)
         rw[b8.val]
         rw[List.length_append] at a3
         exact ⟨_,_,_,_,cA,a1,a2,a3⟩
        ·have hold: ∀(j:Nat) v,(Ca.toList.take (es.length*P.cellsOf e))[j]? =some v→w.cell? ((⟨b,0,none⟩:Addr).add j)=some v:=by
          intro j v hj
          have cz:=(List.getElem?_eq_some_iff.1 hj).1
          have bS:j<es.length*P.cellsOf e:=by rw[List.length_take] at cz;omega
          rw[List.getElem?_take_of_lt bS] at hj
          rw[lW,cell?_cells hh,Nat.zero_add]
          simpa using hj
         have cA:=run_append_grow (P:=P) w t ty e i z hu hi hz ⟨b,0,none⟩ es.length cap (Ca.toList.take (es.length*P.cellsOf e)) (by rw[h3];simp;omega) hold a xs.length c news (by rw[b8.len,h3]) b8.cell (by omega) (by omega)
          (growslice_fits (by omega) (by rw[←lb];simp only[b7] at dO;omega))
         have n0:=grownCap_ge w (es.length+xs.length) cap e
         have sH:grownCap w (es.length+xs.length) cap e≤maxLen:=grownCap_le_maxLen w _ cap e (by simp only[maxLen];omega)
         have cx:=Ci (P:=P) (w:=w) (I:=I) (n:=es.length) (c:=Ca.toList) rfl (fun i j y t' a b c=>by
          obtain ⟨v,hv,hp⟩:=ld i j y t' a b c
          exact ⟨v,by simpa using hv,hp⟩) b8.el kh (Builtin.zeroCells z.cells (grownCap w (es.length+xs.length) cap e-(es.length+xs.length))).toList
         obtain ⟨n1,n2,n3⟩:=u6 k2.drew (nb:=nb) (cap:=grownCap w (es.length+xs.length) cap e) (es:=es++xs)
          (C0:=(Ca.toList.take (es.length*P.cellsOf e)).toArray++news.toArray++Builtin.zeroCells z.cells (grownCap w (es.length+xs.length) cap e-(es.length+xs.length))) aq jv
          (by
           have e1:(Ca.toList.take (es.length*P.cellsOf e)).length=es.length*P.cellsOf e:=by simp;omega
           simp only[Array.size_append,List.size_toArray,size_zeroCells,h4,b8.len,e1,←Nat.add_mul];congr 1;omega) (by simpa using n0) sH
          (fun i j y t' a b c=>by
           obtain ⟨v,hv,hp⟩:=cx i j y t' a b c
           refine ⟨v,?_,Pure.drew hp⟩
           rw[←Array.getElem?_toList]
           simpa using hv)
         rw[b8.val]
         rw[List.length_append] at n3
         exact ⟨_,_,_,_,cA,(k1.trans (Le.drew w I β _)).trans n1,n2,n3⟩
 | _=>cases h
end
section
variable {P:Program} {w w':World} {I I':Nat→Prop} {β aj:Nat→Option Nat} {hp hp':Nat→Option ag} {C:ae} {B:Nat} {M:Nat→Prop} {w0:Start}
theorem run_copy_none (w:World) {dT sT ty elem:TypeId} {i:TypeInfo} (a0:Option Addr) (Mz Wo:Nat) (a1:Option Addr) (MA Wp:Nat) (hu:P.underlying dT=some (.slice elem)) (hi:P.info? elem=some i) (h0:Nat.min MA Mz=0):
  (Builtin.copy_ #[dT,sT] ty #[.slice a0 Mz Wo,.slice a1 MA Wp]).run P w= .ok (goInt 0) w:=by
 cases a0<;>cases a1<;>simp[Builtin.copy_,run_underlying hu,Builtin.lenOf,Builtin.firstCells,sizeOf,typeInfo,hi,h0,storeCells,loadCells,loadCellsFrom]
theorem Wq (S:aC P w I β hp B M w0) {t u ty e:TypeId} {s x:Value} {sv xv:V} {r:R} {rd:List Nat} (hu:P.underlying t=some (.slice e)) (hs:ah P w I β hp s sv) (hx:ah P w I β hp x xv)
  (h:(FY P e sv xv).run C hp=some (r,rd)):cC P ((Builtin.copy_ #[t,u] ty #[s,x]).run P w) w I β hp B M w0 r:=by
 unfold FY at h
 obtain ⟨aq,h'⟩:=aD h
 clear h
 simp only[Bool.and_eq_true,Nat.beq_eq] at aq
 obtain ⟨aq,h1⟩:=aq
 obtain ⟨xs,kj,l0,h⟩:=Ch S.h.rel aq hx h'
 obtain ⟨i,z,hi,hz,aO,_⟩:=ju aq
 cases sv<;>simp only at h<;>first|(cases h;done)|skip
 rename_i e' id
 obtain ⟨l,h2⟩:=run_get h
 clear h
 cases aa:hp id with
 | none=>rw[aa] at h2;cases h2
 | some blk=>
  rw[aa] at h2
  cases blk<;>simp only at h2<;>first|(cases h2;done)|skip
  rename_i e2 es fz
  cases fz with
  | true=>cases h2
  | false=>
  obtain ⟨hc,h3⟩:=aD h2
  simp only[Bool.and_eq_true,Nat.beq_eq] at hc
  obtain ⟨rfl,rfl⟩:=hc
  obtain rfl:=aH h3
  have n9:min xs.length es.length=0→(Builtin.copy_ #[t,u] ty #[s,x]).run P w= .ok (goInt 0) w→cC P ((Builtin.copy_ #[t,u] ty #[s,x]).run P w) w I β hp B M w0 ⟨.int .i64 (min xs.length es.length:Nat),[(id,.arr e (xs.take es.length++es.drop xs.length) false)]⟩:=by
   intro h0 hr
   have he:xs.take es.length++es.drop xs.length=es:=by
    rcases Nat.le_total xs.length es.length with hl|hl
    ·have:xs=[]:=List.eq_nil_of_length_eq_zero (by omega)
     simp[this]
    ·have:es=[]:=List.eq_nil_of_length_eq_zero (by omega)
     simp[this]
   have fF:bz hp [(id,.arr e (xs.take es.length++es.drop xs.length) false)]=hp:=by
    rw[he];exact Gb hp id _ aa
   refine ⟨goInt 0,w,I,β,hr,?_⟩
   simp only[fF,h0]
   exact ⟨Le.refl w I β hp,S,.int⟩
  cases hs with
  | dD hd=>rw[aa] at hd;cases hd
  | dJ hd=>rw[aa] at hd;cases hd
  | @dg _ _ fz a hd hb=>
   rw[aa] at hd
   cases hd
   refine n9 (by simp) ?_
   rcases kj with ⟨⟨a',rfl⟩,rfl⟩|⟨a',c,news,b8⟩
   ·exact run_copy_none w _ _ _ _ _ _ hu hi (by simp)
   ·rw[b8.val];exact run_copy_none w _ _ _ _ _ _ hu hi (by simp)
  | @whole _ _ aG lO b cap hd hb xU bQ hm=>
   have ed:=hd
   rw[aa] at hd
   cases hd
   rcases kj with ⟨⟨a',rfl⟩,rfl⟩|⟨a',c,news,b8⟩
   ·exact n9 (by simp) (run_copy_none w _ _ _ _ _ _ hu hi (by simp))
   have hr:=S.h.rel id _ aa
   cases hr with
   | dh au=>rw[au] at hb;cases hb
   | @arr _ _ _ b' Ca _ au hh n8 hf dE ld=>
    rw[hb] at au
    cases au
    have kZ:news.length=xs.length:=by rw[b8.len,h1,Nat.mul_one]
    rw[h1,Nat.mul_one] at n8
    have km:(news.take es.length).length=Nat.min xs.length es.length:=by
     rw[List.length_take,kZ,Nat.min_comm]
    have MB:Nat.min xs.length es.length=min xs.length es.length:=rfl
    have cA:=run_copy_row (P:=P) w t u ty e b 0 es.length cap a' xs.length c Ca e (news.take es.length) hu (by rw[hi];simp[aO,h1]) hh km
     (fun j v hj=>b8.cell j v (by
      have:=(List.getElem?_eq_some_iff.1 hj).1
      rw[List.length_take] at this
      rwa [List.getElem?_take_of_lt (by omega)] at hj)) (by rw[km,MB];omega) (fun v hv=>b8.one aq v (List.mem_of_mem_take hv))
    rw[b8.val]
    have hq:(goInt (news.take es.length).length)= .int .i64 ((min xs.length es.length:Nat):Int):=by rw[km];rfl
    have iu:(xs.take es.length++es.drop xs.length).length=es.length:=by simp;omega
    have m7:(Ca.toList.take 0++news.take es.length++Ca.toList.drop (0+(news.take es.length).length)).toArray.size=Ca.size:=by
     simp only[List.size_toArray,List.length_append,List.length_drop,List.length_take,km,MB]
     simp
     omega
    obtain ⟨a1,a2⟩:=B4 S (blk':= .arr e (xs.take es.length++es.drop xs.length) false) (Cb:=(Ca.toList.take 0++news.take es.length++Ca.toList.drop (0+(news.take es.length).length)).toArray) aa (by simp) ⟨rfl,iu.symm⟩ hb (dE rfl) (by simp) hh m7
     (fun hle er=> .arr aq rfl er (by rw[m7,iu,h1,Nat.mul_one];exact n8) (fun h=>by cases h) (fun _=>dE rfl) fun i j y t' hy ht hj=>by
      rw[h1] at hj⊢
      obtain rfl:j=0:=by omega
      rw[Nat.mul_one,Nat.add_zero]
      have pn:=(List.getElem?_eq_some_iff.1 hy).1
      rw[iu] at pn
      by_cases xV:i<xs.length
      ·rw[List.getElem?_append_left (by rw[List.length_take];omega),List.getElem?_take_of_lt pn] at hy
       obtain ⟨u',k1,k2⟩:=b8.el i 0 y t' hy ht (by omega)
       rw[h1,Nat.mul_one,Nat.add_zero] at k1
       refine ⟨u',?_,k2.mono hle.cM hle.bR⟩
       simp only[List.take_zero,List.nil_append,List.getElem?_toArray]
       rw[List.getElem?_append_left (by rw[List.length_take];omega),List.getElem?_take_of_lt pn]
       exact k1
      ·have e1:(xs.take es.length).length=xs.length:=by rw[List.length_take];omega
       rw[List.getElem?_append_right (by omega),e1,List.getElem?_drop,show xs.length+(i-xs.length)=i by omega] at hy
       obtain ⟨u',k1,k2⟩:=ld i 0 y t' hy ht (by omega)
       rw[h1,Nat.mul_one,Nat.add_zero] at k1
       refine ⟨u',?_,k2.mono hle.cM hle.bR⟩
       simp only[List.take_zero,List.nil_append,List.getElem?_toArray,Nat.zero_add]
       have e2:(news.take es.length).length=xs.length:=by rw[List.length_take];omega
       rw[List.getElem?_append_right (by omega),e2,List.getElem?_drop,show xs.length+(i-xs.length)=i by omega]
       simpa using k1)
    exact ⟨_,_,_,_,cA,a1,a2,by rw[hq];exact .int⟩
theorem Wr (S:aC P w I β hp B M w0) {t ty e:TypeId} {x:Value} {xv:V} {r:R} {rd:List Nat} (hu:P.underlying t=some (.slice e)) (hx:ah P w I β hp x xv)
  (h:(FX P e xv).run C hp=some (r,rd)):cC P ((Builtin.clear_ #[t] ty #[x]).run P w) w I β hp B M w0 r:=by
 unfold FX at h
 obtain ⟨cx,h'⟩:=aD h
 clear h
 have aq:cw P e=true:=by
  unfold kQ at cx;simp only[Bool.and_eq_true] at cx;exact cx.1
 obtain ⟨i,z,hi,hz,aO,xW,Ws⟩:=xR (w:=w) (I:=I) cx
 have gR:=(js aq).2
 cases xv<;>simp only at h'<;>first|(cases h';done)|skip
 rename_i e' id off len
 obtain ⟨l,h2⟩:=run_get h'
 clear h'
 cases aa:hp id with
 | none=>rw[aa] at h2;cases h2
 | some blk=>
  rw[aa] at h2
  cases blk<;>simp only at h2<;>first|(cases h2;done)|skip
  rename_i e2 es fz
  cases fz with
  | true=>cases h2
  | false=>
  obtain ⟨hc,h3⟩:=aD h2
  simp only[Bool.and_eq_true,Nat.beq_eq] at hc
  obtain ⟨rfl,rfl⟩:=hc
  obtain rfl:=aH h3
  have n9:len=0→(Builtin.clear_ #[t] ty #[x]).run P w= .ok (.tuple #[]) w→cC P ((Builtin.clear_ #[t] ty #[x]).run P w) w I β hp B M w0 ⟨.aQ [],[(id,.arr e (es.take off++(List.replicate len (b9 P e (dZ P e))++es.drop (off+len))) false)]⟩:=by
   intro h0 hr
   subst h0
   have fF:bz hp [(id,.arr e (es.take off++(List.replicate 0 (b9 P e (dZ P e))++es.drop (off+0))) false)]=hp:=by
    simp only[List.replicate_zero,List.nil_append,Nat.add_zero,List.take_append_drop]
    exact Gb hp id _ aa
   refine ⟨.tuple #[],w,I,β,hr,?_⟩
   simp only[fF]
   exact ⟨Le.refl w I β hp,S,.aQ rfl fun j v x hj hx=>by simp at hx⟩
  cases hx with
  | fD hd=>rw[aa] at hd;cases hd
  | @fl _ _ _ a0 hd hb=>exact n9 rfl (by cases a0<;>simp[Builtin.clear_,run_underlying hu])
  | @sub _ _ _ _ aG lO b o cap hd hb iq bQ ho=>
   by_cases hlen:len=0
   ·refine n9 hlen ?_
    subst hlen
    simp[Builtin.clear_,run_underlying hu]
   have Wt:0<len:=by omega
   have ed:=hd
   rw[aa] at hd
   cases hd
   have hr:=S.h.rel id _ aa
   cases hr with
   | dh au=>rw[au] at hb;cases hb
   | @arr _ _ _ b' Ca _ au hh n8 hf dE ld=>
    rw[hb] at au
    cases au
    have ho:=ho Wt
    subst ho
    have sE:(Builtin.zeroCells z.cells len).toList.length=len*P.cellsOf e:=by rw[Array.length_toList,size_zeroCells,xW]
    have hmul:off*P.cellsOf e+len*P.cellsOf e≤es.length*P.cellsOf e:=by rw[←Nat.add_mul];exact Nat.mul_le_mul_right _ iq
    have ph: ∀v∈(Builtin.zeroCells z.cells len).toList,v.oneCell'=true:=by
     intro v hv
     obtain ⟨k,hk⟩:=List.getElem?_of_mem hv
     have ki:=(List.getElem?_eq_some_iff.1 hk).1
     rw[sE] at ki
     have Wu:(Builtin.zeroCells z.cells len)[k]? =z.cells[k %z.cells.size]? :=Mv (z:=z.cells) (n:=len*z.cells.size) (by rw[xW];exact ki) (by rw[xW];exact gR)
     rw[Array.getElem?_toList,Wu] at hk
     have hm:k %z.cells.size<P.cellsOf e:=by rw[xW];exact Nat.mod_lt _ gR
     have Wv:k %z.cells.size<(aM P e).length:=by rw[e7 aq];exact hm
     obtain ⟨v',uR,hp'⟩:=Ws (k %z.cells.size) _ (List.getElem?_eq_getElem Wv) hm
     rw[hk] at uR
     cases uR
     generalize bx P e (b9 P e (dZ P e)) (k %z.cells.size)=y at hp'
     cases hp'<;>rfl
    have bZ:=run_storeCells_at P b (off*P.cellsOf e) e (Builtin.zeroCells z.cells len).toList 0 Ca w hh (by rw[sE];omega) ph
    simp only[Nat.add_zero] at bZ
    have cA:(Builtin.clear_ #[t] ty #[.slice (some ⟨b,off*P.cellsOf e,none⟩) len cap]).run P w= .ok (.tuple #[]) (w.setRow b (Ca.toList.take (off*P.cellsOf e)++(Builtin.zeroCells z.cells len).toList++Ca.toList.drop (off*P.cellsOf e+(Builtin.zeroCells z.cells len).toList.length)).toArray):=by
     obtain ⟨n,rfl⟩: ∃n,len=n+1:=⟨len-1,by omega⟩
     simp[Builtin.clear_,run_underlying hu,zeroValue,typeInfo,hi,hz,bZ]
    have iu:(es.take off++(List.replicate len (b9 P e (dZ P e))++es.drop (off+len))).length=es.length:=by simp;omega
    have m7:(Ca.toList.take (off*P.cellsOf e)++(Builtin.zeroCells z.cells len).toList++Ca.toList.drop (off*P.cellsOf e+(Builtin.zeroCells z.cells len).toList.length)).toArray.size=Ca.size:=by
     simp only[List.size_toArray,List.length_append,List.length_drop,List.length_take,sE,Array.length_toList]
     omega
    obtain ⟨a1,a2⟩:=B4 S (blk':= .arr e (es.take off++(List.replicate len (b9 P e (dZ P e))++es.drop (off+len))) false) aa (by simp) ⟨rfl,iu.symm⟩ hb (dE rfl) (by simp) hh m7
     (fun hle er=> .arr aq rfl er (by rw[m7,iu];exact n8) (fun h=>by cases h) (fun _=>dE rfl) fun i' j y t' hy ht hj=>by
      have jN:=lX es (List.replicate len (b9 P e (dZ P e))) off i' (by simp;omega)
      rw[List.length_replicate] at jN
      rw[jN] at hy
      have hC:(Ca.toList.take (off*P.cellsOf e)++(Builtin.zeroCells z.cells len).toList++Ca.toList.drop (off*P.cellsOf e+(Builtin.zeroCells z.cells len).toList.length)).toArray[i'*P.cellsOf e+j]? =
        if i'*P.cellsOf e+j<off*P.cellsOf e then Ca.toList[i'*P.cellsOf e+j]? else if i'*P.cellsOf e+j<off*P.cellsOf e+len*P.cellsOf e then (Builtin.zeroCells z.cells len).toList[i'*P.cellsOf e+j-off*P.cellsOf e]? else Ca.toList[i'*P.cellsOf e+j]? :=by
       have:=lX Ca.toList (Builtin.zeroCells z.cells len).toList (off*P.cellsOf e) (i'*P.cellsOf e+j) (by rw[sE,Array.length_toList];omega)
       rw[List.getElem?_toArray,List.append_assoc,this,sE]
      by_cases lf:i'<off
      ·rw[if_pos lf] at hy
       have:(i'+1)*P.cellsOf e≤off*P.cellsOf e:=Nat.mul_le_mul_right _ lf
       rw[Nat.add_mul] at this
       rw[if_pos (by omega)] at hC
       obtain ⟨u,k1,k2⟩:=ld i' j y t' hy ht hj
       exact ⟨u,hC.trans (by simpa using k1),k2.mono hle.cM hle.bR⟩
      ·rw[if_neg lf] at hy
       have h1:off*P.cellsOf e≤i'*P.cellsOf e:=Nat.mul_le_mul_right _ (by omega)
       rw[if_neg (by omega)] at hC
       by_cases ma:i'<off+len
       ·rw[if_pos ma] at hy
        have:(i'+1)*P.cellsOf e≤(off+len)*P.cellsOf e:=Nat.mul_le_mul_right _ ma
        rw[Nat.add_mul,Nat.add_mul] at this
        rw[if_pos (by omega)] at hC
        obtain ⟨v,k1,k2⟩:=Cg (w:=w) (I:=I) cx hi hz len len (Nat.le_refl _) (i'-off) j y t' hy ht hj
        refine ⟨v,hC.trans ?_,k2.mono hle.cM hle.bR⟩
        rw[show i'*P.cellsOf e+j-off*P.cellsOf e=(i'-off)*P.cellsOf e+j by rw[Nat.sub_mul];omega,Array.getElem?_toList]
        unfold Builtin.zeroCells
        rw[xW] at k1⊢
        exact k1
       ·rw[if_neg ma] at hy
        have:(off+len)*P.cellsOf e≤i'*P.cellsOf e:=Nat.mul_le_mul_right _ (by omega)
        rw[Nat.add_mul] at this
        rw[if_neg (by omega)] at hC
        obtain ⟨u,k1,k2⟩:=ld i' j y t' hy ht hj
        exact ⟨u,hC.trans (by simpa using k1),k2.mono hle.cM hle.bR⟩)
    exact ⟨_,_,_,_,cA,a1,a2,.aQ rfl fun j v x hj hx=>by simp at hx⟩
end
section
variable {P:Program} {w w':World} {I I':Nat→Prop} {β aj:Nat→Option Nat} {hp hp':Nat→Option ag} {C:ae} {B:Nat} {M:Nat→Prop} {w0:Start}
theorem Ww (S:aC P w I β hp B M w0) {s:TypeId} {f:Nat} {v:Value} {x:V} {r:R} {rd:List Nat} (hv:ah P w I β hp v x)
  (h:(F3 P s f x).run C hp=some (r,rd)):cC P ((Instr.field s v f).run P w) w I β hp B M w0 r:=by
 unfold F3 Bt at h
 split at h
 ·rename_i fs hu
  cases hf:fs[f]? with
  | none=>rw[hf] at h;cases h
  | some fd=>
   rw[hf] at h
   simp only[uz] at h
   obtain ⟨ht,h⟩:=aD h
   obtain ⟨d,sI⟩:=xI ht
   obtain ⟨i,hi⟩:=uP sI
   have aO:i.size=P.cellsOf fd.type:=by simp[Program.cellsOf,hi]
   cases x with
   | agg xs=>
    obtain ⟨cs,rfl,h1,h2⟩:=hv.jL
    dsimp only at h
    cases ha:bt P fd.type with
    | true=>
     rw[ha] at h
     simp only[cond_true] at h
     obtain ⟨hc,h⟩:=aD h
     obtain rfl:=aH h
     rw[Nat.ble_eq] at hc
     refine .same S (v:= .agg (cs.extract fd.offset (fd.offset+P.cellsOf fd.type))) ?_ (.agg (by simp;omega) fun j u y fp hy=> ?_)
     ·simp[Instr.field,run_underlying hu,hf,part,Gr sI,ha,asAgg,sizeOf,typeInfo,hi,aO]
     ·have hj:j<P.cellsOf fd.type:=by
       have:=(Array.getElem?_eq_some_iff.1 fp).1
       simp at this;omega
      rw[List.getElem?_take_of_lt hj,List.getElem?_drop] at hy
      refine h2 (fd.offset+j) u y ?_ hy
      rw[Array.getElem?_extract] at fp
      split at fp
      ·exact fp
      ·cases fp
    | false=>
     rw[ha] at h
     simp only[cond_false] at h
     obtain ⟨y,hy,h⟩:=kb h
     obtain rfl:=aH h
     have aK:fd.offset<cs.size:=by rw[h1];exact (List.getElem?_eq_some_iff.1 hy).1
     refine .same S (v:=cs[fd.offset]) ?_ (h2 _ _ _ (Array.getElem?_eq_getElem aK) hy)
     simp[Instr.field,run_underlying hu,hf,part,Gr sI,ha,asAgg,aK]
   | _=>cases h
 ·cases h
theorem Wx (S:aC P w I β hp B M w0) {i:Nat} {v:Value} {xs:List V} {r:R} {rd:List Nat} (hv:ah P w I β hp v (.aQ xs))
  (h:(Rd.opt xs[i]? fun v=> .ret ⟨v,[]⟩).run C hp=some (r,rd)):cC P ((Instr.extract v i).run P w) w I β hp B M w0 r:=by
 obtain ⟨cs,rfl,h1,h2⟩:=hv.sr
 obtain ⟨y,hy,h⟩:=kb h
 obtain rfl:=aH h
 have aK:i<cs.size:=by rw[h1];exact (List.getElem?_eq_some_iff.1 hy).1
 exact .same S (v:=cs[i]) (by simp[Instr.extract,aK]) (h2 _ _ _ (Array.getElem?_eq_getElem aK) hy)
theorem Wy (S:aC P w I β hp B M w0) {t:TypeId} {s:ByteArray} {l:List UInt8} {k:IntKind} {i:Int} {r:R} {rd:List Nat} (hu:P.underlying t=some .string) (hs:s.data.toList=l)
  (h:(Rd.opt (bif decide (0≤i) then (l[i.toNat]?).map fun b=>V.int .u8 b.toNat else none) fun v=> .ret ⟨.int .u8 v.toInt,[]⟩).run C hp=some (r,rd)):
  cC P ((Instr.index t (.string s) (.int k i)).run P w) w I β hp B M w0 r:=by
 obtain ⟨v,hv,h⟩:=kb h
 obtain rfl:=aH h
 cases hc:decide (0≤i) with
 | false=>rw[hc] at hv;cases hv
 | true=>
  rw[hc] at hv
  simp only[cond_true] at hv
  have h0:0≤i:=by simpa using hc
  cases hb:l[i.toNat]? with
  | none=>rw[hb] at hv;cases hv
  | some b=>
   rw[hb] at hv
   simp only[Option.map_some,Option.some.injEq] at hv
   subst hv
   have Wz:s[i.toNat]? =some b:=by
    subst hs
    obtain ⟨aK,he⟩:=List.getElem?_eq_some_iff.1 hb
    have GX:i.toNat<s.size:=by simpa using aK
    rw[getElem?_pos s i.toNat GX]
    congr 1
   refine .same S (v:= .int .u8 b.toNat) ?_ .int
   simp[Instr.index,asIntOf,run_underlying hu,h0,Wz]
theorem GY (S:aC P w I β hp B M w0) (mx:Bool): ∀{vs:List Value} {xs:List V} {v:Value} {x:V} {r:R} {rd:List Nat},ah P w I β hp v x→vs.length=xs.length→
  (∀(j:Nat) u y,vs[j]? =some u→xs[j]? =some y→ah P w I β hp u y)→(uA mx x xs).run C hp=some (r,rd)→
  cC P ((vs.foldlM (if mx then Builtin.max2 else Builtin.min2) v).run P w) w I β hp B M w0 r
 | [],[],v,x,r,rd,hv,_,_,h=>by
  have:r=⟨x,[]⟩:=by
   cases x<;>(simp only[uA] at h;exact (aH h).symm)
  subst this
  exact .same S (by simp) hv
 | [],_::_,v,x,r,rd,hv,hl,_,h=>by simp at hl
 | _::_,[],v,x,r,rd,hv,hl,_,h=>by simp at hl
 | u::vs,y::xs,v,x,r,rd,hv,hl,hx,h=>by
  cases x<;>cases y<;>simp only[uA] at h<;>first|(cases h;done)|skip
  rename_i k a k' b
  obtain ⟨hc,h4⟩:=aD h
  clear h
  obtain rfl:k=k':=by simpa using hc
  have hu:=hx 0 u _ rfl rfl
  rw[hv.dK,hu.dK]
  have ih:=GY S mx (vs:=vs) (xs:=xs) (v:= .int k (bif mx then (if b>a then b else a) else (if b<a then b else a))) .int (by simpa using hl)
   (fun j u y h1 h2=>hx (j+1) u y (by simpa using h1) (by simpa using h2)) h4
  cases mx with
  | true=>simpa[List.foldlM_cons,Builtin.max2] using ih
  | false=>simpa[List.foldlM_cons,Builtin.min2] using ih
theorem po {n cap:Nat} {isS:Bool} {lo hi:Option V} {lov hiv:Option Value} {k:Nat→Nat→Rd R} {r:R} {rd:List Nat} (hn:n≤cap)
  (gW: ∀x,lo=some x→∃v,lov=some v∧ah P w I β hp v x) (gh: ∀x,hi=some x→∃v,hiv=some v∧ah P w I β hp v x) (mb:lo=none→lov=none) (m8:hi=none→hiv=none)
  (h:(qH n lo hi k).run C hp=some (r,rd)): ∃l u,l≤u∧u≤n∧(Instr.sliceBounds isS n cap lov hiv none).run P w= .ok (l,u,cap) w∧(k l u).run C hp=some (r,rd):=by
 have ok: ∀(kk:IntKind) (i:Int) (y:Nat) (c:BoundsCode),0≤i→i≤y→(Instr.sliceBound (.int kk i) y c).run P w= .ok i.toNat w:=by
  intro kk i y c h1 h2
  simp[Instr.sliceBound,asIntOf,h1,h2]
 unfold qH at h
 cases lo with
 | none=>
  rw[mb rfl]
  cases hi with
  | none=>
   rw[m8 rfl]
   exact ⟨0,n,Nat.zero_le _,Nat.le_refl _,by simp[Instr.sliceBounds],h⟩
  | some x=>
   obtain ⟨v,rfl,hv⟩:=gh x rfl
   cases x<;>simp only at h<;>first|(cases h;done)|skip
   rename_i kk u
   obtain ⟨hc,h⟩:=aD h
   simp only[Bool.and_eq_true,decide_eq_true_eq] at hc
   rw[hv.dK]
   have:=ok kk u cap (if isS then .sliceAcap else .sliceAlen) hc.1 (by omega)
   exact ⟨0,u.toNat,Nat.zero_le _,by omega,by simp[Instr.sliceBounds,this],h⟩
 | some x=>
  obtain ⟨v,rfl,hv⟩:=gW x rfl
  cases hi with
  | none=>
   rw[m8 rfl]
   cases x<;>simp only at h<;>first|(cases h;done)|skip
   rename_i kk l
   obtain ⟨hc,h⟩:=aD h
   simp only[Bool.and_eq_true,decide_eq_true_eq] at hc
   rw[hv.dK]
   have:=ok kk l n .sliceB hc.1 (by omega)
   exact ⟨l.toNat,n,by omega,Nat.le_refl _,by simp[Instr.sliceBounds,this],h⟩
  | some y=>
   obtain ⟨v2,rfl,o4⟩:=gh y rfl
   cases x<;>cases y<;>simp only at h<;>first|(cases h;done)|skip
   rename_i kk l WA u
   obtain ⟨hc,h⟩:=aD h
   simp only[Bool.and_eq_true,decide_eq_true_eq] at hc
   rw[hv.dK,o4.dK]
   have h1:=ok WA u cap (if isS then .sliceAcap else .sliceAlen) (by omega) (by omega)
   have h2:=ok kk l u.toNat .sliceB hc.1 (by omega)
   exact ⟨l.toNat,u.toNat,by omega,by omega,by simp[Instr.sliceBounds,h1,h2],h⟩
theorem Cm {a:Option Addr} {t e:TypeId} {i:TypeInfo} (hu:P.underlying t=some (.slice e)) (hi:P.info? e=some i) {lov hiv:Option Value}
  (hb:(Instr.sliceBounds true 0 0 lov hiv none).run P w= .ok (0,0,0) w):(Instr.sliceAt t (.slice a 0 0) lov hiv none).run P w= .ok (.slice a 0 0) w:=by
 cases a<;>simp[Instr.sliceAt,Instr.slice,run_underlying hu,hb,sizeOf,typeInfo,hi]
theorem GZ {t e:TypeId} {i:TypeInfo} {b o len cap l u:Nat} (hu:P.underlying t=some (.slice e)) (hi:P.info? e=some i) {lov hiv:Option Value} (huc:u≤cap)
  (hb:(Instr.sliceBounds true len cap lov hiv none).run P w= .ok (l,u,cap) w): ∃o',(0<u-l→o'=o+l*i.size)∧(Instr.sliceAt t (.slice (some ⟨b,o,none⟩) len cap) lov hiv none).run P w= .ok (.slice (some ⟨b,o',none⟩) (u-l) (cap-l)) w:=by
 by_cases hc:cap=l
 ·subst hc
  refine ⟨o,fun h=>by omega,?_⟩
  ·simp[Instr.sliceAt,Instr.slice,run_underlying hu,hb,sizeOf,typeInfo,hi]
 ·refine ⟨o+l*i.size,fun _=>rfl,?_⟩
  simp[Instr.sliceAt,Instr.slice,run_underlying hu,hb,sizeOf,typeInfo,hi,hc,lW]
theorem WB (s:ByteArray) (l:List UInt8) (h:s.data.toList=l) (a b:Nat):(s.extract a b).data.toList=(l.drop a).take (b-a):=by
 subst h
 simp[ByteArray.data_extract]
theorem WC (S:aC P w I β hp B M w0) {t:TypeId} {v:Value} {x:V} {lo hi:Option V} {lov hiv:Option Value} {r:R} {rd:List Nat} (hv:ah P w I β hp v x)
  (gW: ∀x,lo=some x→∃v,lov=some v∧ah P w I β hp v x) (gh: ∀x,hi=some x→∃v,hiv=some v∧ah P w I β hp v x) (mb:lo=none→lov=none) (m8:hi=none→hiv=none)
  (h:(Bz P t x lo hi).run C hp=some (r,rd)):cC P ((Instr.sliceAt t v lov hiv none).run P w) w I β hp B M w0 r:=by
 unfold Bz at h
 cases hu:P.underlying t with
 | none=>rw[hu] at h;cases h
 | some d=>
  rw[hu] at h
  cases d<;>simp only at h<;>first|(cases h;done)|skip
  case string=>
   cases x<;>simp only at h<;>first|(cases h;done)|skip
   rename_i l
   obtain ⟨s,rfl,hs⟩:=hv.kX
   have aO:l.length=s.size:=by rw[←hs];simp
   obtain ⟨a,u,h1,h2,h3,h4⟩:=po (isS:=false) (cap:=s.size) (by omega) gW gh mb m8 h
   obtain rfl:=aH h4
   rw[aO] at h3
   refine .same S (v:= .string (s.extract a u)) ?_ (.str (WB s l hs a u))
   simp[Instr.sliceAt,Instr.slice,run_underlying hu,h3]
  case slice e=>
   cases x<;>simp only at h<;>first|(cases h;done)|skip
   case list e' es=>
    obtain ⟨hc,h⟩:=aD h
    simp only[Bool.and_eq_true,Nat.beq_eq] at hc
    obtain ⟨di,aq⟩:=hc
    obtain ⟨i,z,dv,_,aO,_⟩:=ju aq
    cases hv with
    | list hp'=>
     cases hp' with
     | nil=>
      obtain ⟨a,u,h1,h2,h3,h4⟩:=po (n:=0) (isS:=true) (cap:=0) (Nat.le_refl _) gW gh mb m8 h
      obtain rfl:=aH h4
      obtain rfl:u=0:=by omega
      obtain rfl:a=0:=by omega
      exact .same S (Cm hu dv h3) (by simpa using ah.list gQ.nil)
     | @emp ad cap=>
      obtain ⟨a,u,h1,h2,h3,h4⟩:=po (n:=0) (isS:=true) (cap:=cap) (Nat.zero_le _) gW gh mb m8 h
      obtain rfl:=aH h4
      obtain rfl:u=0:=by omega
      obtain rfl:a=0:=by omega
      refine .same S (v:= .slice (some ad) 0 cap) ?_ (by simpa using ah.list gQ.emp)
      by_cases hc:cap=0
      ·subst hc
       simp[Instr.sliceAt,Instr.slice,run_underlying hu,h3,sizeOf,typeInfo,dv]
      ·simp[Instr.sliceAt,Instr.slice,run_underlying hu,h3,sizeOf,typeInfo,dv,hc,Addr.add]
     | @list b o len cap _ g hl bQ hI fE hx=>
      obtain ⟨a,u,h1,h2,h3,h4⟩:=po (isS:=true) (cap:=cap) (by omega) gW gh mb m8 h
      obtain rfl:=aH h4
      rw[hl] at h2 h3
      obtain ⟨o',kV,cA⟩:=GZ (b:=b) (o:=o) hu dv (by omega) h3
      have fR:e=e':=di
      refine .same S cA (.list ?_)
      rw[←fR]
      rw[←fR] at fE hx hI
      have hlen:((es.drop a).take (u-a)).length=u-a:=by simp;omega
      refine .list (fun i j=>g (a+i) j) hlen (by omega) (fun h=>hI (Nat.lt_of_lt_of_le h (Nat.mul_le_mul_right _ (by omega)))) (fun i j hi hj=> ?_) (fun i j y t' hy ht=> ?_)
      ·have:=fE (a+i) j (by omega) hj
       rw[Nat.add_mul,Nat.add_assoc,←Nat.add_assoc o] at this
       rw[kV (by omega),aO]
       exact this
      ·have hi:i<u-a:=by rw[←hlen];exact (List.getElem?_eq_some_iff.1 hy).1
       rw[List.getElem?_take_of_lt hi,List.getElem?_drop] at hy
       exact hx (a+i) j y t' hy ht
   case whole e' id=>
    obtain ⟨l,h⟩:=run_get h
    cases aa:hp id with
    | none=>rw[aa] at h;cases h
    | some blk=>
     rw[aa] at h
     cases blk<;>simp only at h<;>first|(cases h;done)|skip
     rename_i dc es fz
     obtain ⟨hc,h9⟩:=aD h
     clear h
     simp only[Bool.and_eq_true,Nat.beq_eq] at hc
     obtain ⟨di,iL,aq⟩:=hc
     obtain ⟨i,z,dv,_,aO,_⟩:=ju aq
     cases hv with
     | dD hd=>rw[aa] at hd;cases hd
     | dJ hd=>rw[aa] at hd;cases hd
     | dg hd hb=>
      rw[aa] at hd
      cases hd
      obtain ⟨a,u,h1,h2,h3,h4⟩:=po (n:=0) (isS:=true) (cap:=0) (Nat.le_refl _) gW gh mb m8 h9
      obtain rfl:=aH h4
      obtain rfl:u=0:=by omega
      obtain rfl:a=0:=by omega
      exact .same S (Cm hu dv h3) (.fl aa hb)
     | @whole _ _ aG lO b cap hd hb xU bQ hm=>
      have ed:=hd
      rw[aa] at hd
      cases hd
      obtain ⟨a,u,h1,h2,h3,h4⟩:=po (isS:=true) (cap:=cap) bQ gW gh mb m8 h9
      obtain rfl:=aH h4
      obtain ⟨o',kV,cA⟩:=GZ (b:=b) (o:=0) hu dv (by omega) h3
      have fR:e=e':=di
      exact .same S cA (.sub ed hb (by omega) (by omega) (fun h=>by rw[kV h,aO,fR,Nat.zero_add]))
   case sub e' id off len=>
    obtain ⟨l,h⟩:=run_get h
    cases aa:hp id with
    | none=>rw[aa] at h;cases h
    | some blk=>
     rw[aa] at h
     cases blk<;>simp only at h<;>first|(cases h;done)|skip
     rename_i dc es fz
     obtain ⟨hc,h⟩:=aD h
     simp only[Bool.and_eq_true,Nat.beq_eq] at hc
     obtain ⟨di,iL,aq⟩:=hc
     obtain ⟨i,z,dv,_,aO,_⟩:=ju aq
     cases hv with
     | fD hd=>rw[aa] at hd;cases hd
     | fl hd hb=>
      have ed:=hd
      obtain ⟨a,u,h1,h2,h3,h4⟩:=po (isS:=true) (cap:=0) (Nat.le_refl _) gW gh mb m8 h
      obtain rfl:=aH h4
      obtain rfl:u=0:=by omega
      obtain rfl:a=0:=by omega
      exact .same S (Cm hu dv h3) (.fl ed hb)
     | @sub _ _ _ _ aG lO b o cap hd hb iq bQ ho=>
      have ed:=hd
      obtain ⟨a,u,h1,h2,h3,h4⟩:=po (isS:=true) (cap:=cap) bQ gW gh mb m8 h
      obtain rfl:=aH h4
      obtain ⟨o',kV,cA⟩:=GZ (b:=b) (o:=o) hu dv (by omega) h3
      have fR:e=e':=di
      exact .same S cA (.sub ed hb (by omega) (by omega) (fun h=>by rw[kV h,aO,ho (by omega),fR,Nat.add_mul]))
theorem WD (S:aC P w I β hp B M w0) {t:TypeId} {v:Value} {x:V} {lo hi mx:Option V} {lov hiv MC:Option Value} {r:R} {rd:List Nat} (hv:ah P w I β hp v x)
  (gW:lo=none→lov=none) (gh: ∀y,hi=some y→∃u,hiv=some u∧ah P w I β hp u y) (mV: ∀y,mx=some y→∃u,MC=some u∧ah P w I β hp u y)
  (h:(FZ P t x lo hi mx).run C hp=some (r,rd)):cC P ((Instr.sliceAt t v lov hiv MC).run P w) w I β hp B M w0 r:=by
 unfold FZ at h
 cases hu:P.underlying t with
 | none=>rw[hu] at h;cases h
 | some d=>
  rw[hu] at h
  cases d<;>(try (cases h;done))
  rename_i e
  cases lo<;>(try (cases h;done))
  cases hi<;>(try (cases h;done))
  rename_i u7
  cases u7<;>(try (cases h;done))
  cases mx<;>(try (cases h;done))
  rename_i WE
  cases WE<;>(try (cases h;done))
  obtain ⟨hc,h9⟩:=aD h
  clear h
  have h:=h9
  clear h9
  simp only[Bool.and_eq_true,decide_eq_true_eq] at hc
  obtain ⟨rfl,rfl,aq⟩:=hc
  obtain ⟨i,z,dv,_,_,_⟩:=ju aq
  obtain ⟨u1,rfl,k1⟩:=gh _ rfl
  obtain ⟨u2,rfl,k2⟩:=mV _ rfl
  rw[k1.dK,k2.dK,gW rfl]
  have run: ∀{k k2:IntKind} (a:Option Addr) (len cap:Nat),(Instr.sliceAt t (.slice a len cap) none (some (.int k 0)) (some (.int k2 0))).run P w= .ok (.slice a 0 0) w:=by
   intro k k2 a len cap
   cases a<;>simp[Instr.sliceAt,Instr.slice,Instr.sliceBounds,Instr.sliceBound,asIntOf,run_underlying hu,sizeOf,typeInfo,dv]
  cases x<;>(try (cases h;done))
  ·simp only at h
   obtain rfl:=aH h
   cases hv with
   | list hp'=>cases hp'<;>exact .same S (run _ _ _) .nilS
  ·simp only at h
   obtain rfl:=aH h
   cases hv
   exact .same S (run _ _ _) .nilS
  ·rename_i e' id
   simp only at h
   obtain ⟨l,h⟩:=run_get h
   cases aa:hp id with
   | none=>rw[aa] at h;cases h
   | some blk=>
    rw[aa] at h
    cases blk<;>simp only at h<;>first|(cases h;done)|skip
    all_goals
     obtain rfl:=aH h
     cases hv with
     | dD hd=>rw[aa] at hd;cases hd
     | dJ hd=>exact .same S (run _ _ _) .nilS
     | dg hd hb=>exact .same S (run _ _ _) .nilS
     | whole hd=>exact .same S (run _ _ _) .nilS
theorem WG (S:aC P w I β hp B M w0) {t:TypeId} {v ix:Value} {x y:V} {r:R} {rd:List Nat} (hv:ah P w I β hp v x) (hy:ah P w I β hp ix y)
  (h:(F4 P t x y).run C hp=some (r,rd)):cC P ((Instr.indexAt t v ix).run P w) w I β hp B M w0 r:=by
 unfold F4 at h
 cases hu:P.underlying t with
 | none=>rw[hu] at h;cases h
 | some d=>
  rw[hu] at h
  cases y<;>(try (cases d<;>cases h;done))
  rename_i k i
  rw[hy.dK]
  cases d<;>simp only at h<;>first|(cases h;done)|skip
  case slice e=>
   have run: ∀(b o len cap:Nat) (ie:TypeInfo),P.info? e=some ie→0≤i→i<(len:Int)→(Instr.indexAt t (.slice (some ⟨b,o,none⟩) len cap) (.int k i)).run P w= .ok (.pointer (some ⟨b,o+i.toNat*ie.size,none⟩)) w:=by
    intro b o len cap ie iP h0 h1
    simp[Instr.indexAt,asIntOf,run_underlying hu,h0,h1,sizeOf,typeInfo,iP,lW]
   cases x<;>simp only at h<;>first|(cases h;done)|skip
   case list e' es=>
    obtain ⟨hc,h⟩:=aD h
    simp only[Bool.and_eq_true,Nat.beq_eq] at hc
    obtain ⟨di,aq⟩:=hc
    have fR:e=e':=di
    obtain ⟨ie,z,dv,_,aO,_⟩:=ju aq
    obtain ⟨el,cx,h⟩:=kb h
    obtain rfl:=aH h
    unfold idx at cx
    cases h0:decide (0≤i) with
    | false=>rw[h0] at cx;cases cx
    | true=>
     rw[h0] at cx
     simp only[cond_true] at cx
     have WH:0≤i:=by simpa using h0
     have aK:i.toNat<es.length:=(List.getElem?_eq_some_iff.1 cx).1
     cases hv with
     | list hp'=>
      cases hp' with
      | nil=>simp at aK
      | emp=>simp at aK
      | @list b o len cap _ g hl bQ hI fE hx=>
       rw[←fR] at fE hx hI
       refine .same S (run b o len cap ie dv WH (by omega)) ?_
       have e8:=uQ (P:=P) e el
       have G0:=e7 aq
       have MD:(bif bt P e then flat P e else [e])=aM P e:=rfl
       rw[MD]
       refine .pref (by rw[e8]) (fun _=>hI ?_) (fun j t' y' ht xE=> ?_)
       ·have:=Nat.mul_pos (show 0<len by omega) (js aq).2
        exact this
       ·obtain ⟨t2,a1,a2⟩:=Gs xE
        rw[ht] at a1;cases a1
        have hj:j<P.cellsOf e:=by rw[←G0];exact (List.getElem?_eq_some_iff.1 ht).1
        have gd:=hx i.toNat j el t' cx ht
        refine ⟨g i.toNat j,?_,?_⟩
        ·rw[aO,Nat.add_assoc];exact fE i.toNat j (by omega) hj
        ·rw[a2,gd.qS];exact gd
   case whole e' id=>
    obtain ⟨l,h⟩:=run_get h
    cases aa:hp id with
    | none=>rw[aa] at h;cases h
    | some blk=>
     rw[aa] at h
     cases blk<;>simp only at h<;>first|(cases h;done)|skip
     rename_i dc es fz
     obtain ⟨hc,h⟩:=aD h
     simp only[Bool.and_eq_true,Nat.beq_eq] at hc
     obtain ⟨di,iL⟩:=hc
     obtain ⟨ee,h⟩:=aD h
     simp only[Bool.and_eq_true,decide_eq_true_eq] at ee
     obtain rfl:=aH h
     cases hv with
     | dD hd=>rw[aa] at hd;cases hd
     | dJ hd=>rw[aa] at hd;cases hd
     | dg hd hb=>rw[aa] at hd;cases hd;simp at ee;omega
     | @whole _ _ aG lO b cap hd hb xU bQ hm=>
      have ed:=hd
      rw[aa] at hd
      cases hd
      have hr:=S.h.rel id _ aa
      cases hr with
      | dh au=>rw[au] at hb;cases hb
      | arr aq au hh hs hf dE hx=>
       have fR:e=e':=di
       obtain ⟨ie,z,dv,_,aO,_⟩:=ju aq
       rw[←fR] at dv aO
       refine .same S (run b 0 _ cap ie dv ee.1 ee.2) ?_
       have:=ah.ptr (P:=P) (w:=w) (I:=I) (i:=i.toNat) (c:=0) ed (by simp) hb
       simp only[ag.sz] at this
       rw[Nat.zero_add,aO,fR]
       simpa using this
     rename_i dc es ai
     obtain ⟨hc,h⟩:=aD h
     simp only[Bool.and_eq_true,Nat.beq_eq] at hc
     obtain ⟨di,iL⟩:=hc
     obtain ⟨ee,h⟩:=aD h
     simp only[Bool.and_eq_true,decide_eq_true_eq] at ee
     obtain rfl:=aH h
     cases hv with
     | dD hd=>rw[aa] at hd;cases hd
     | dg hd hb=>rw[aa] at hd;cases hd
     | whole hd=>rw[aa] at hd;cases hd
     | @dJ _ _ aG vers' b cap hd hb xU bQ hm=>
      have ed:=hd
      rw[aa] at hd
      cases hd
      have aq:=(S.rows ed hb .here).ok
      have fR:e=e':=di
      obtain ⟨ie,z,dv,_,aO,_⟩:=ju aq
      rw[←fR] at dv aO
      refine .same S (run b 0 _ cap ie dv ee.1 ee.2) ?_
      have:=ah.ptr (P:=P) (w:=w) (I:=I) (i:=i.toNat) (c:=0) ed (by simp) hb
      simp only[ag.sz] at this
      rw[Nat.zero_add,aO,fR]
      simpa using this
   case row e' id ver path=>
    obtain ⟨e0,es,ai,l,aa,h1,h2,h3,h⟩:=mU h
    obtain ⟨e2,v',k1,k2,h⟩:=uK h
    obtain ⟨hc,h⟩:=aD h
    simp only[Bool.and_eq_true,Nat.beq_eq] at hc
    obtain ⟨di,iL⟩:=hc
    obtain ⟨ee,h⟩:=aD h
    simp only[Bool.and_eq_true,decide_eq_true_eq] at ee
    obtain rfl:=aH h
    cases hv with
    | iI hd hp'=>rw[aa] at hd;cases hd;exact absurd hp' (uL h1 h2 h3)
    | @row v _ e0 t1 _ ver b i1 c1 q es l1 ai hd hb hq GH ht fE=>
     have WI:=fE
     obtain ⟨b',e3,aG,Ca,T,f,x,m1,m2,m3,m4,m5,m6⟩:=fE
     have lV:=hd
     rw[aa] at lV
     cases lV
     obtain ⟨n1,n2⟩:=BO m1 m3 m4 ht m5
     rw[n2] at k2
     cases k2
     simp only[V.toList] at ee
     have hR:=S.rows hd hb m1
     obtain ⟨C1,c2,c3,c4⟩:=hR.cells
     rw[m2] at c2
     cases c2
     have hj:c1<P.cellsOf e3:=by
      rw[←e7 hR.ok];exact (List.getElem?_eq_some_iff.1 m4).1
     obtain ⟨v2,d1,d2⟩:=c4 _ _ _ _ m3 m4 hj
     rw[m6] at d1
     cases d1
     rw[m5] at d2
     cases d2 with
     | fk a _=>unfold fg at a;rw[ht] at a;cases a
     | emp _ _=>simp at ee;omega
     | @row _ _ b1 cap _ hl _ _ _=>
      have aq:=(S.rows hd hb (m1.snoc m2 m3 m4 ht m5 hl m6)).ok
      have fR:e=e':=di
      obtain ⟨ie,z,dv,_,aO,_⟩:=ju aq
      rw[←fR] at dv aO
      refine .same S (run b1 0 _ cap ie dv ee.1 ee.2) ?_
      have:=ah.cg (P:=P) (I:=I) (i:=i.toNat) (c:=0) hd hb hq GH ht hl WI
      rw[Nat.zero_add,aO,fR]
      simpa using this
   case sub e' id off len=>
    obtain ⟨l,h⟩:=run_get h
    cases aa:hp id with
    | none=>rw[aa] at h;cases h
    | some blk=>
     rw[aa] at h
     cases blk<;>simp only at h<;>first|(cases h;done)|skip
     rename_i dc es fz
     obtain ⟨hc,h⟩:=aD h
     simp only[Bool.and_eq_true,Nat.beq_eq] at hc
     obtain ⟨di,iL⟩:=hc
     obtain ⟨ee,h⟩:=aD h
     simp only[Bool.and_eq_true,decide_eq_true_eq] at ee
     obtain rfl:=aH h
     cases hv with
     | fD hd=>rw[aa] at hd;cases hd
     | fl hd hb=>simp at ee;omega
     | @sub _ _ _ _ aG lO b o cap hd hb iq bQ ho=>
      have ed:=hd
      rw[aa] at hd
      cases hd
      have hr:=S.h.rel id _ aa
      cases hr with
      | dh au=>rw[au] at hb;cases hb
      | arr aq au hh hs hf dE hx=>
       have fR:e=e':=di
       obtain ⟨ie,z,dv,_,aO,_⟩:=ju aq
       rw[←fR] at dv aO
       refine .same S (run b o _ cap ie dv ee.1 ee.2) ?_
       have:=ah.ptr (P:=P) (w:=w) (I:=I) (i:=off+i.toNat) (c:=0) ed (by simp) hb
       simp only[ag.sz] at this
       rw[ho (by omega),aO,fR,←Nat.add_mul]
       simpa using this
  case array n e=>
   have run: ∀(b o:Nat) (ie:TypeInfo),P.info? e=some ie→0≤i→i<(n:Int)→(Instr.indexAt t (.pointer (some ⟨b,o,none⟩)) (.int k i)).run P w= .ok (.pointer (some ⟨b,o+i.toNat*ie.size,none⟩)) w:=by
    intro b o ie iP h0 h1
    simp[Instr.indexAt,asIntOf,run_underlying hu,h0,h1,sizeOf,typeInfo,iP,lW,Instr.sureAddr]
   cases x<;>simp only at h<;>first|(cases h;done)|skip
   case ptr id j c=>
    obtain ⟨⟨blk,aa,hd⟩,l,h⟩:=uO h
    obtain ⟨ee,h⟩:=aD h
    simp only[Bool.and_eq_true,decide_eq_true_eq] at ee
    obtain rfl:=aH h
    obtain ⟨b,hb,rfl⟩:=hv.gg aa hd
    obtain ⟨d,sI⟩:=xI ee.1
    obtain ⟨ie,iP⟩:=uP sI
    have aO:ie.size=P.cellsOf e:=by simp[Program.cellsOf,iP]
    refine .same S (run b _ ie iP ee.2.1 ee.2.2) ?_
    rw[aO,Nat.add_assoc]
    exact .ptr aa hd hb
   case pref ts cs=>
    obtain ⟨ee,h⟩:=aD h
    simp only[Bool.and_eq_true,decide_eq_true_eq] at ee
    obtain rfl:=aH h
    obtain ⟨b,o,rfl,h1,h2,h3⟩:=hv.BW
    obtain ⟨d,sI⟩:=xI ee.1
    obtain ⟨ie,iP⟩:=uP sI
    have aO:ie.size=P.cellsOf e:=by simp[Program.cellsOf,iP]
    refine .same S (run b _ ie iP ee.2.1 ee.2.2) ?_
    rw[aO]
    exact ah.LV h1 h2 h3
end
end Go.AM
namespace Go.AM
open Go.Maps
section
variable {P:Program} {w w':World} {I I':Nat→Prop} {β aj:Nat→Option Nat} {hp hp':Nat→Option ag} {C:ae} {B:Nat} {M:Nat→Prop} {w0:Start}
theorem WJ (S:aC P w I β hp B M w0) {nb:Nat} {t:TypeId} {v:Value} {x:V} {lo hi:Option V} {lov hiv:Option Value} {r:R} {rd:List Nat} (hv:ah P w I β hp v x)
  (gh: ∀x,hi=some x→∃v,hiv=some v∧ah P w I β hp v x) (mb:lo=none→lov=none)
  (h:(BA P nb t x lo hi).run C hp=some (r,rd)):cC P ((Instr.sliceAt t v lov hiv none).run P w) w I β hp B M w0 r:=by
 unfold BA at h
 split at h
 case h_2=>cases h
 rename_i e e' id k hh hu
 obtain ⟨l,h1⟩:=run_get h
 cases aa:hp id with
 | none=>rw[aa] at h1;cases h1
 | some blk=>
  rw[aa] at h1
  cases blk<;>simp only at h1<;>first|(cases h1;done)|skip
  rename_i e2 es fz
  cases fz with
  | true=>cases h1
  | false=>
  obtain ⟨hc,h2⟩:=aD h1
  simp only[Bool.and_eq_true,Nat.beq_eq,decide_eq_true_eq] at hc
  obtain ⟨rfl,rfl,aq,ME,MF⟩:=hc
  obtain ⟨hn,rfl⟩:=lZ h2
  have gW:=mb rfl
  subst gW
  obtain ⟨G1,rfl,WK⟩:=gh _ rfl
  obtain rfl:=WK.dK
  obtain ⟨i,z,dv,_,aO,_⟩:=ju aq
  have bA:nb≠id:=fun e=>by rw[e,aa] at hn;cases hn
  obtain ⟨k1,k2⟩:=BR S aa
  have jv:aF hp id (some ag.dead) nb=none:=by rw[dF _ _ bA];exact hn
  have MG: ∀cap,es.length≤cap→(Instr.sliceBounds true es.length cap none (some (.int k hh)) none).run P w= .ok (0,hh.toNat,cap) w:=by
   intro cap bQ
   have hb:(qH es.length none (some (.int k hh)) fun l u=> .ay (decide (l=0∧u=hh.toNat)) (.ret (⟨.undef,[]⟩:R))).run C hp=some (⟨.undef,[]⟩,[]):=by
    simp[qH,Rd.run,ME,MF]
   obtain ⟨l,u,b1,b2,b3,b4⟩:=po (P:=P) (w:=w) (I:=I) (β:=β) (hp:=hp) (n:=es.length) (isS:=true) (cap:=cap) (lov:=none) (hiv:=some (.int k hh)) bQ (by simp) (fun x hx=>by cases hx;exact ⟨_,rfl,.int⟩) (fun _=>rfl) (by simp) hb
   obtain ⟨b5,_⟩:=aD b4
   simp only[decide_eq_true_eq] at b5
   obtain ⟨rfl,rfl⟩:=b5
   exact b3
  cases hv with
  | dD hd=>rw[aa] at hd;cases hd
  | dJ hd=>rw[aa] at hd;cases hd
  | @dg _ _ _ a0 hd hb=>
   rw[aa] at hd
   cases hd
   have Gy:hh=0:=by simpa using Int.le_antisymm MF ME
   subst Gy
   have au:=MG 0 (Nat.le_refl _)
   obtain ⟨a1,a2⟩:=BQ k2 e jv
   refine ⟨_,w,I,_,Cm hu dv au,k1.trans a1,a2,.dg (cy _ _ _) (cy _ _ _)⟩
  | @whole _ _ aG lO b cap hd hb xU bQ hm=>
   have ed:=hd
   rw[aa] at hd
   cases hd
   have hr:=S.h.rel id _ aa
   cases hr with
   | dh au=>rw[au] at hb;cases hb
   | @arr _ _ _ b' Ca _ au Cn n8 hf dE ld=>
    rw[hb] at au
    cases au
    have iu:(es.take hh.toNat).length=hh.toNat:=by rw[List.length_take];omega
    have cA:(Instr.sliceAt t (.slice (some ⟨b,0,none⟩) es.length cap) none (some (.int k hh)) none).run P w= .ok (.slice (some ⟨b,0,none⟩) hh.toNat cap) w:=by
     have au:=MG cap bQ
     by_cases Co:cap=0
     ·subst Co
      simp[Instr.sliceAt,Instr.slice,run_underlying hu,au,sizeOf,typeInfo,dv]
     ·simp[Instr.sliceAt,Instr.slice,run_underlying hu,au,sizeOf,typeInfo,dv,Co,lW]
    have o8: ∀az blk',aF hp id (some ag.dead) az=some blk'→¬bj P w (β az) blk' b:=by
     intro az blk' h1 h2
     by_cases gV:az=id
     ·subst gV;rw[cy] at h1;cases h1;exact h2.alive rfl
     ·rw[dF _ _ gV] at h1
      exact gV (S.h.inj az id blk' _ b h1 aa h2 (.root (by simp) hb))
    obtain ⟨a1,a2⟩:=xD k2 (blk:= .arr e (es.take hh.toNat) false) (w':=w) jv o8 (dE rfl) (fun _ _ _=>rfl) (Nat.le_refl _) ⟨rfl,rfl⟩ (S.h.qO id _ b aa (by simp) hb)
     (fun b' h=>(Option.some.inj (h.flat (by simp))).symm) (fun hle=> .arr aq rfl Cn (by rw[iu];exact Nat.le_trans (Nat.mul_le_mul_right _ (by omega)) n8) (fun h=>by cases h) (fun _=>dE rfl) fun i j y t' hy ht hj=>by
      have pn:=(List.getElem?_eq_some_iff.1 hy).1
      rw[iu] at pn
      rw[List.getElem?_take_of_lt pn] at hy
      obtain ⟨v,hv,hp⟩:=ld i j y t' hy ht hj
      exact ⟨v,hv,hp.mono hle.cM hle.bR⟩)
    refine ⟨_,w,I,_,cA,k1.trans a1,a2,?_⟩
    have:=ah.whole (P:=P) (w:=w) (I:=I) (β:=aF β nb (some b)) (hp:=aF (aF hp id (some .dead)) nb (some (.arr e (es.take hh.toNat) false))) (cap:=cap) (cy _ _ _) (cy _ _ _) xU (by rw[iu];omega) hm
    rw[iu] at this
    exact this
theorem pq {t:TypeId} {x:V} (h:nK P t x=true):
  (∃q n,P.underlying t=some (.int q)∧x= .int q n∧cL q n=true)∨(∃b,P.underlying t=some .bool∧x= .bool b)∨(∃s,P.underlying t=some .string∧x= .str s∧s.length≤maxLen):=by
 unfold nK at h
 split at h
 ·rename_i q q' n hu
  simp only[Bool.and_eq_true,decide_eq_true_eq] at h
  obtain ⟨rfl,h⟩:=h
  exact .inl ⟨_,_,hu,rfl,h⟩
 ·rename_i b hu
  exact .inr (.inl ⟨_,hu,rfl⟩)
 ·rename_i s hu
  exact .inr (.inr ⟨_,hu,rfl,by simpa using h⟩)
 ·cases h
theorem size_data (s:ByteArray):s.data.toList.length=s.size:=by simp
theorem WM {q:IntKind} {n:Int} (h:cL q n=true):(Lit.int q n).wf=true:=h
theorem MH {t:TypeId} {x:V} {v:Value} (h:nK P t x=true) (hv:im v x): ∃l,mapKey P t v=some l∧∀d,P.keyLits (d+1) t [v]=some [l]:=by
 rcases pq h with ⟨q,n,hu,rfl,hn⟩|⟨b,hu,rfl⟩|⟨s,hu,rfl,hs⟩
 ·obtain rfl:v= .int q n:=hv
  have hw:=WM hn
  exact ⟨.int q n,by simp[mapKey,hu,hw],fun d=>by simp[Program.keyLits,hu,hw]⟩
 ·obtain rfl:v= .bool b:=hv
  exact ⟨.bool b,by simp[mapKey,hu],fun d=>by simp[Program.keyLits,hu]⟩
 ·obtain ⟨s',rfl,qY⟩:=hv
  have:s'.size≤maxLen:=by rw[←size_data,qY];exact hs
  exact ⟨.string s'.data.toList,by simp[mapKey,hu,this],fun d=>by simp[Program.keyLits,hu,this]⟩
theorem G2 {t:TypeId}: ∀{xs:List V} {j:Nat} {x:V},oU P t xs=true→xs[j]? =some x→nK P t x=true
 | [],j,x,_,h=>by simp at h
 | y::ys,0,x,h,hx=>by
  simp only[oU,Bool.and_eq_true] at h
  simp at hx;subst hx;exact h.1
 | y::ys,j+1,x,h,hx=>by
  simp only[oU,Bool.and_eq_true] at h
  exact G2 (j:=j) h.2 (by simpa using hx)
theorem mapM_some {α β:Type} {f:α→Option β}: ∀{l:List α},(∀a∈l,∃b,f a=some b)→∃bs,l.mapM f=some bs
 | [],_=>⟨[],rfl⟩
 | a::l,h=>by
  obtain ⟨b,hb⟩:=h a (List.mem_cons_self ..)
  obtain ⟨bs,gf⟩:=mapM_some (l:=l) fun x hx=>h x (List.mem_cons_of_mem _ hx)
  exact ⟨b::bs,by simp[List.mapM_cons,hb,gf]⟩
inductive G3 (P:Program) (t:TypeId) (x:V):Prop
 | one:nK P t x=true→x.cells=[x]→G3 P t x
 | arr {n:Nat} {e:TypeId} {xs:List V}:x= .agg xs→WideMaps.ArrKey P t e n→xs.length=n→0<P.types.size→oU P e xs=true→G3 P t x
theorem u9 {t:TypeId} {x:V} (h:lM P t x=true):G3 P t x:=by
 unfold lM at h
 split at h
 ·rename_i n e xs hu
  simp only[Bool.and_eq_true,Nat.beq_eq] at h
  rw[Nat.blt_eq] at h
  exact .arr rfl ⟨hu,h.2.2.2.1,h.2.1,h.2.2.1⟩ h.1 h.2.2.2.2.1 h.2.2.2.2.2
 ·refine .one h ?_
  rcases pq h with ⟨q,n,hu,rfl,hn⟩|⟨b,hu,rfl⟩|⟨s,hu,rfl,hs⟩<;>rfl
theorem oZ.one {x:V} {v:Value} (h:oZ v x) (hx:x.cells=[x]):im v x:=by
 cases x<;>first|exact h|skip
 simp only[V.cells] at hx
 rename_i cs
 have:=congrArg List.length hx
 cases cs with
 | nil=>simp at hx
 | cons c cs=>
  simp only[List.cons.injEq] at hx
  have:=congrArg SizeOf.sizeOf hx.1
  simp at this
  omega
theorem Cp {t:TypeId} {x:V} {v:Value} (h:lM P t x=true) (hv:oZ v x): ∃l,Go.keyOf P t v=some l:=by
 cases u9 h with
 | one h1 hx=>
  obtain ⟨l,hl,_⟩:=MH h1 (hv.one hx)
  refine ⟨l,?_⟩
  rcases pq h1 with ⟨q,n,hu,_⟩|⟨b,hu,_⟩|⟨s,hu,_⟩<;>simp only[Go.keyOf,hu,hl]
 | @arr n e xs hx A hl hp0 hf=>
  subst hx
  obtain ⟨cs,rfl,hs,hc⟩:=hv
  obtain ⟨m,hm⟩: ∃m,P.types.size=m+1:=⟨P.types.size-1,by omega⟩
  have WN:=A.keyType ⟨m,hm⟩
  have hlen:cs.toList.length=P.cellsOf t:=by rw[A.size];simp[hs,hl]
  have WO:(Value.agg cs).formed P t=true:=by simp[Value.formed,A.hu,A.size,hs,hl]
  have hex: ∀i∈List.range n,∃y,P.keyLits (m+1) e (((Value.agg cs).cells.toList.drop (i*P.cellsOf e)).take (P.cellsOf e))=some y:=by
   intro i hi
   have hi:=List.mem_range.1 hi
   rw[A.one]
   have fG:i<cs.size:=by omega
   have xV:i<xs.length:=by omega
   obtain ⟨l,_,h2⟩:=MH (G2 hf (List.getElem?_eq_getElem xV)) (hc i cs[i] xs[i] (Array.getElem?_eq_getElem fG) (List.getElem?_eq_getElem xV))
   have e1:((Value.agg cs).cells.toList.drop (i*1)).take 1=[cs[i]]:=by
    show (cs.toList.drop (i*1)).take 1=_
    rw[Nat.mul_one,List.drop_eq_getElem_cons (by simpa using fG)]
    simp
   rw[e1]
   exact ⟨_,h2 m⟩
  obtain ⟨bs,gf⟩:=mapM_some hex
  refine ⟨.string (keyBytes bs.flatten),?_⟩
  have MI:(Value.agg cs).cells.toList.length=P.cellsOf t:=hlen
  unfold Go.keyOf
  rw[A.hu]
  simp only[WN,WO,Bool.and_self,if_true]
  unfold Program.keyLits
  rw[A.hu,hm]
  simp only[MI,if_true,gf,Option.map_some]
theorem G4 {t:TypeId} {x:V} (h:lM P t x=true):Keyed P t:=by
 cases u9 h with
 | one h1 hx=>
  rcases pq h1 with ⟨q,n,hu,_⟩|⟨b,hu,_⟩|⟨s,hu,_⟩
  ·exact int_keyed hu
  ·exact bool_keyed hu
  ·exact string_keyed hu
 | arr hx A hl _ hf=>exact Keyed.of_law A.law
theorem MJ {t:TypeId} {x y:V} {v u:Value} (h1:nK P t x=true) (h2:nK P t y=true) (hv:im v x) (hu:im u y):qE x y=true↔v=u:=by
 rcases pq h1 with ⟨q,n,lg,rfl,_⟩|⟨b,lg,rfl⟩|⟨s,lg,rfl,_⟩<;>
 rcases pq h2 with ⟨q',n',oa,rfl,_⟩|⟨b',oa,rfl⟩|⟨s',oa,rfl,_⟩<;>
  (rw[lg] at oa;cases oa)
 ·obtain rfl:v= .int q n:=hv
  obtain rfl:u= .int q n':=hu
  simp[qE]
 ·obtain rfl:v= .bool b:=hv
  obtain rfl:u= .bool b':=hu
  simp[qE]
 ·obtain ⟨s1,rfl,e1⟩:=hv
  obtain ⟨s2,rfl,e2⟩:=hu
  simp only[qE,beq_iff_eq,Value.string.injEq,←e1,←e2]
  constructor
  ·intro h
   have:=Array.toList_inj.1 h
   cases s1;cases s2;simp_all
  ·rintro rfl;rfl
theorem MK {t:TypeId}: ∀{xs ys:List V} {vs us:List Value},oU P t xs=true→oU P t ys=true→xs.length=ys.length→vs.length=xs.length→us.length=ys.length→
  (∀(j:Nat) v x,vs[j]? =some v→xs[j]? =some x→im v x)→(∀(j:Nat) v x,us[j]? =some v→ys[j]? =some x→im v x)→(nJ xs ys=true↔vs=us)
 | [],[],vs,us,_,_,_,h1,h2,_,_=>by
  have e1:=List.eq_nil_of_length_eq_zero (l:=vs) (by simpa using h1)
  have e2:=List.eq_nil_of_length_eq_zero (l:=us) (by simpa using h2)
  simp[nJ,e1,e2]
 | [],_::_,_,_,_,_,h,_,_,_,_=>by simp at h
 | _::_,[],_,_,_,_,h,_,_,_,_=>by simp at h
 | x::xs,y::ys,[],us,_,_,_,h,_,_,_=>by simp at h
 | x::xs,y::ys,v::vs,[],_,_,_,_,h,_,_=>by simp at h
 | x::xs,y::ys,v::vs,u::us,f1,f2,h,h1,h2,r1,r2=>by
  simp only[oU,Bool.and_eq_true] at f1 f2
  have a:=MJ f1.1 f2.1 (r1 0 v x rfl rfl) (r2 0 u y rfl rfl)
  have b:=MK (vs:=vs) (us:=us) f1.2 f2.2 (by simpa using h) (by simpa using h1) (by simpa using h2) (fun j v x hj hx=>r1 (j+1) v x (by simpa using hj) (by simpa using hx)) (fun j v x hj hx=>r2 (j+1) v x (by simpa using hj) (by simpa using hx))
  simp only[nJ,Bool.and_eq_true,a,b,List.cons.injEq]
theorem G5 {t:TypeId} {x y:V} {v u:Value} (h1:lM P t x=true) (h2:lM P t y=true) (hv:oZ v x) (hu:oZ u y):ic x y=true↔v=u:=by
 unfold ic
 cases u9 h1 with
 | one f1 c1=>
  cases u9 h2 with
  | one f2 c2=>
   rw[c1,c2]
   simp only[nJ,Bool.and_true]
   exact MJ f1 f2 (hv.one c1) (hu.one c2)
  | arr hy A hl _ hf=>
   rcases pq f1 with ⟨q,n,lg,_⟩|⟨b,lg,_⟩|⟨s,lg,_⟩<;>(rw[A.hu] at lg;cases lg)
 | arr hx A hl _ hf=>
  cases u9 h2 with
  | one f2 c2=>
   rcases pq f2 with ⟨q,n,lg,_⟩|⟨b,lg,_⟩|⟨s,lg,_⟩<;>(rw[A.hu] at lg;cases lg)
  | arr hy A2 rQ _ WQ=>
   have fR:=A.hu.symm.trans A2.hu
   cases fR
   subst hx
   subst hy
   obtain ⟨cs,rfl,s1,r1⟩:=hv
   obtain ⟨ds,rfl,s2,r2⟩:=hu
   have:=MK (vs:=cs.toList) (us:=ds.toList) hf WQ (by omega) (by simpa using s1) (by simpa using s2) (fun j v x hj hx=>r1 j v x (by simpa using hj) hx) (fun j v x hj hx=>r2 j v x (by simpa using hj) hx)
   simp only[V.cells,this,Value.agg.injEq]
   exact Array.toList_inj
theorem ML {k:V}: ∀{es:List V},(∀x∈es,ic k (x.comp 0)=false)→fM k es=false∧(∀z,ig k es z=z)∧∀v,eX k v es=es++[.aQ [k,v]]
 | [],_=>⟨rfl,fun _=>rfl,fun _=>rfl⟩
 | e::es,h=>by
  have h0:=h e (List.mem_cons_self ..)
  obtain ⟨a,b,c⟩:=ML (k:=k) (es:=es) fun x hx=>h x (List.mem_cons_of_mem _ hx)
  exact ⟨by simp[fM,h0,a],fun z=>by simp[ig,h0,b],fun v=>by simp[eX,h0,c]⟩
theorem MM {k:V}: ∀{es:List V} {j:Nat} {k' y:V},es[j]? =some (.aQ [k',y])→ic k k'=true→(∀i x,i<j→es[i]? =some x→ic k (x.comp 0)=false)→
  fM k es=true∧(∀z,ig k es z=y)∧∀v,eX k v es=es.set j (.aQ [k',v])
 | [],j,k',y,h,_,_=>by simp at h
 | e::es,0,k',y,h,he,_=>by
  simp at h
  subst h
  exact ⟨by simp[fM,V.comp,V.nth,he],fun z=>by simp[ig,V.comp,V.nth,he],fun v=>by simp[eX,V.comp,V.nth,he]⟩
 | e::es,j+1,k',y,h,he,aK=>by
  have h0:=aK 0 e (by omega) rfl
  obtain ⟨a,b,c⟩:=MM (k:=k) (es:=es) (j:=j) (by simpa using h) he fun i x hi hx=>aK (i+1) x (by omega) (by simpa using hx)
  exact ⟨by simp[fM,h0,a],fun z=>by simp[ig,h0,b],fun v=>by simp[eX,h0,c]⟩
theorem MN {kt vt:TypeId} {E:Array MapEntry} {es:List V} {k:V} {kv:Value} (hs:E.size=es.length) (hx: ∀(j:Nat) (e:MapEntry) (x:V),E[j]? =some e→es[j]? =some x→BJ P kt vt e x)
  (hn:E.toList.Pairwise (fun a b=>a.key≠b.key)) (hk:lM P kt k=true) (Cq:oZ kv k) (w:World):
  ((Instr.findKey kt kv E.toList).run P w= .ok none w∧(∀e∈E.toList,e.key≠kv)∧fM k es=false∧(∀z,ig k es z=z)∧∀v,eX k v es=es++[.aQ [k,v]])∨
  ∃j e k' y,(Instr.findKey kt kv E.toList).run P w= .ok (some (j,e.val)) w∧E[j]? =some e∧e.key=kv∧es[j]? =some (.aQ [k',y])∧lM P kt k'=true∧oZ kv k'∧dM P vt y=true∧im e.val y∧
   fM k es=true∧(∀z,ig k es z=y)∧∀v,eX k v es=es.set j (.aQ [k',v]):=by
 have K:=G4 hk
 obtain ⟨l,hl⟩:=Cp hk Cq
 have MO: ∀(j:Nat) x,es[j]? =some x→∃e,E[j]? =some e∧BJ P kt vt e x:=by
  intro j x hj
  have aK:j<E.size:=by rw[hs];exact (List.getElem?_eq_some_iff.1 hj).1
  exact ⟨E[j],Array.getElem?_eq_getElem aK,hx j _ x (Array.getElem?_eq_getElem aK) hj⟩
 have keys: ∀e∈E.toList,∃l,Go.keyOf P kt e.key=some l:=by
  intro e he
  obtain ⟨j,hj⟩:=List.getElem?_of_mem he
  have fP:E[j]? =some e:=by simpa using hj
  have aK:j<es.length:=by rw[←hs];exact (Array.getElem?_eq_some_iff.1 fP).1
  obtain ⟨k',y,_,h1,h2,_⟩:=hx j e es[j] fP (List.getElem?_eq_getElem aK)
  exact Cp h1 h2
 rcases K.find w hl E.toList keys with ⟨h1,h2⟩|⟨j,e,h1,h2,h3⟩
 ·left
  refine ⟨h1,h2,ML fun x WR=> ?_⟩
  obtain ⟨j,hj⟩:=List.getElem?_of_mem WR
  obtain ⟨e,he,k',y,rfl,f1,f2,_⟩:=MO j x hj
  cases hq:ic k (V.comp (.aQ [k',y]) 0) with
  | false=>rfl
  | true=>
   have:=(G5 hk f1 Cq f2).1 hq
   exact absurd this.symm (h2 e (List.mem_of_getElem? (by simpa using he)))
 ·right
  have hE:E[j]? =some e:=by simpa using h2
  have aK:j<es.length:=by rw[←hs];exact (Array.getElem?_eq_some_iff.1 hE).1
  obtain ⟨k',y,hy,f1,f2,f3,f4⟩:=hx j e es[j] hE (List.getElem?_eq_getElem aK)
  have hj:=List.getElem?_eq_getElem aK
  rw[hy] at hj
  rw[h3] at f2
  refine ⟨j,e,k',y,h1,hE,h3,hj,f1,f2,f3,f4,MM hj ((G5 hk f1 Cq f2).2 rfl) fun i x hi fN=> ?_⟩
  obtain ⟨e',sF,k2,y2,rfl,g1,g2,_⟩:=MO i x fN
  cases hq:ic k (V.comp (.aQ [k2,y2]) 0) with
  | false=>rfl
  | true=>
   have:=(G5 hk g1 Cq g2).1 hq
   have i1:i<E.toList.length:=by have:=(List.getElem?_eq_some_iff.1 fN).1;simp;omega
   have i2:j<E.toList.length:=by simp;omega
   have:=List.pairwise_iff_getElem.1 hn i j i1 i2 hi
   have a1:E.toList[i]=e':=by
    have:E.toList[i]? =some e':=by simpa using sF
    rw[List.getElem?_eq_getElem i1] at this;exact Option.some.inj this
   have a2:E.toList[j]=e:=by
    have:=h2
    rw[List.getElem?_eq_getElem i2] at this;exact Option.some.inj this
   rw[a1,a2,h3] at this
   exact absurd (by rw[← ‹kv=e'.key›]) this
theorem ah.MP {v:Value} {x:V} (h:ah P w I β hp v x) {t:TypeId} (hx:nK P t x=true):im v x:=by
 rcases pq hx with ⟨q,n,_,rfl,_⟩|⟨b,_,rfl⟩|⟨s,_,rfl,_⟩
 ·exact h.dK
 ·exact h.iN
 ·exact h.kX
theorem ah.MQ {v:Value} {x:V} (h:ah P w I β hp v x) {t:TypeId} (hx:lM P t x=true):oZ v x:=by
 cases u9 hx with
 | one f c=>
  have:=h.MP f
  cases x<;>first|exact this|cases this
 | arr hx A hl _ hf=>
  subst hx
  obtain ⟨cs,rfl,h1,h2⟩:=h.jL
  exact ⟨cs,rfl,h1,fun j u y hu hy=>(h2 j u y hu hy).MP (G2 hf hy)⟩
theorem MR {vt:TypeId} {y:V} (h:mapVal P vt=true) (ht:dM P vt y=true):(∃q n,P.underlying vt=some (.int q)∧y= .int q n)∨∃b,P.underlying vt=some .bool∧y= .bool b:=by
 unfold mapVal at h
 unfold dM at ht
 split at h
 ·rename_i q hu
  rw[hu] at ht
  cases y<;>first|(simp at ht;done)|skip
  simp only[decide_eq_true_eq] at ht
  subst ht
  exact .inl ⟨_,_,hu,rfl⟩
 ·rename_i hu
  rw[hu] at ht
  cases y<;>first|(simp at ht;done)|skip
  exact .inr ⟨_,hu,rfl⟩
 ·cases h
theorem im.G6 {vt:TypeId} {v:Value} {y:V} (h:mapVal P vt=true) (ht:dM P vt y=true) (hv:im v y):ah P w I β hp v y:=by
 rcases MR h ht with ⟨q,n,_,rfl⟩|⟨b,_,rfl⟩
 ·obtain rfl:v= .int q n:=hv;exact .int
 ·obtain rfl:v= .bool b:=hv;exact .bool
theorem ah.WS {vt:TypeId} {v:Value} {y:V} (h:mapVal P vt=true) (ht:dM P vt y=true) (hv:ah P w I β hp v y):im v y:=by
 rcases MR h ht with ⟨q,n,_,rfl⟩|⟨b,_,rfl⟩
 ·exact hv.dK
 ·exact hv.iN
theorem WU {vt:TypeId} {z:V} (h:Bv P vt=some z) (w:World): ∃v,(zeroValue vt).run P w= .ok v w∧im v z:=by
 unfold Bv at h
 cases hi:P.info? vt with
 | none=>rw[hi] at h;cases h
 | some i=>
  rw[hi] at h
  simp only[Option.bind_some] at h
  cases hz:i.zero with
  | none=>rw[hz] at h;cases h
  | some v=>
   rw[hz] at h
   refine ⟨v,by simp[zeroValue,typeInfo,hi,hz],?_⟩
   cases v<;>simp only at h<;>first|(cases h;done)|skip
   ·cases h;rfl
   ·cases h;rfl
theorem G7 {t kt vt:TypeId} (h:j8 P t=some (kt,vt)):P.underlying t=some (.map kt vt):=by
 unfold j8 at h
 split at h
 ·rename_i k e hu;cases h;exact hu
 ·cases h
theorem G8 (S:aC P w I β hp B M w0) {ok:Bool} {v:Value} {x:V} {b:Bool} {r:R} {rd:List Nat} {res:Result Value} (hv:ah P w I β hp v x)
  (hr:res= .ok (if ok then .tuple #[v,.bool b] else v) w) (h:(Bw ok x b).run C hp=some (r,rd)):cC P res w I β hp B M w0 r:=by
 unfold Bw at h
 obtain rfl:=aH h
 cases ok with
 | false=>exact .same S hr hv
 | true=>
  refine .same S hr (.aQ rfl fun j u y hu hy=> ?_)
  match j,hu,hy with
  | 0,hu,hy=>simp at hu hy;subst hu;subst hy;exact hv
  | 1,hu,hy=>simp at hu hy;subst hu;subst hy;exact .bool
  | j+2,hu,hy=>simp at hy
theorem WV (S:aC P w I β hp B M w0) {t kt vt:TypeId} (ht:j8 P t=some (kt,vt)) {m k:Value} {mx kx:V} {ok:Bool} {r:R} {rd:List Nat} (hm:ah P w I β hp m mx) (hk:ah P w I β hp k kx)
  (h:(FV P t mx kx ok).run C hp=some (r,rd)):cC P ((Instr.lookup t m k ok).run P w) w I β hp B M w0 r:=by
 unfold FV at h
 rw[ht] at h
 simp only at h
 cases hz:Bv P vt with
 | none=>rw[hz] at h;cases h
 | some z=>
  rw[hz] at h
  obtain ⟨hc,h'⟩:=aD h
  clear h
  have h:=h'
  clear h'
  simp only[Bool.and_eq_true] at hc
  obtain ⟨oc,xX,Cr⟩:=hc
  have hu:=G7 ht
  have va:=hk.MQ oc
  have K:=G4 oc
  obtain ⟨l,hl⟩:=Cp oc va
  obtain ⟨zv,MS,MT⟩:=WU hz w
  cases mx<;>simp only at h<;>first|(cases h;done)|skip
  ·rename_i t' id
   obtain ⟨jt,h'⟩:=aD h
   clear h
   have h:=h'
   clear h'
   rw[Nat.beq_eq] at jt
   subst jt
   obtain ⟨l2,h'⟩:=run_get h
   clear h
   have h:=h'
   clear h'
   cases aa:hp id with
   | none=>rw[aa] at h;cases h
   | some blk=>
    rw[aa] at h
    cases blk<;>simp only at h<;>first|(cases h;done)|skip
    rename_i t2 es
    obtain ⟨jt,h'⟩:=aD h
    clear h
    have h:=h'
    clear h'
    rw[Nat.beq_eq] at jt
    subst jt
    cases hm with
    | gz hd=>rw[aa] at hd;cases hd
    | @bG _ _ b aG hd hb=>
     rw[aa] at hd
     cases hd
     have hr:=S.h.rel id _ aa
     cases hr with
     | @map _ MU MV _ b' clock E fp au hh hs hI hx hn=>
      rw[hb] at au;cases au
      rw[hu] at fp;cases fp
      rcases MN hs hx hn oc va w with ⟨h1,_,h3,h4,_⟩|⟨j,e,k',y,h1,_,_,_,_,_,h6,h7,h3,h4,_⟩
      ·rw[h3,h4,xH Cr] at h
       refine G8 S (im.G6 xX Cr MT) ?_ h
       unfold Instr.lookup
       simp only[Sem.run_bind,run_underlying hu,Result.andThen_ok,Go.MapKept.run_getObj_map hh,Sem.run_pure,K.check w E.isEmpty hl,h1,MS]
      ·rw[h3,h4,xH h6] at h
       refine G8 S (im.G6 xX h6 h7) ?_ h
       unfold Instr.lookup
       simp only[Sem.run_bind,run_underlying hu,Result.andThen_ok,Go.MapKept.run_getObj_map hh,Sem.run_pure,K.check w E.isEmpty hl,h1]
  ·rename_i t'
   obtain ⟨jt,h⟩:=aD h
   cases hm
   rw[xH Cr] at h
   refine G8 S (im.G6 xX Cr MT) ?_ h
   have hf:(Instr.findKey kt k []).run P w= .ok none w:=by
    rcases K.find w hl [] (by simp) with ⟨h1,_⟩|⟨j,e,_,h2,_⟩
    ·exact h1
    ·simp at h2
   unfold Instr.lookup
   simp[run_underlying hu,K.check w true hl,hf,MS]
theorem WW (S:aC P w I β hp B M w0) {t:TypeId} {nb:Nat} {r:R} {rd:List Nat} (h:(Rd.ay (j8 P t).isSome (ij nb (.map t []) (.bG t nb) [])).run C hp=some (r,rd)):
  cC P ((Instr.makeMap t none).run P w) w I β hp B M w0 r:=by
 obtain ⟨ht,h⟩:=aD h
 obtain ⟨hn,rfl⟩:=lZ h
 obtain ⟨⟨kt,vt⟩,ht⟩:=Option.isSome_iff_exists.1 ht
 have hu:=G7 ht
 have cu: ¬I w.heap.size:=fun h=>Nat.lt_irrefl _ (S.h.iK _ h)
 have er:(w.alloc (.map #[] 0)).heap[w.heap.size]? =some (.map #[] 0):=heap_alloc_new w _
 obtain ⟨a1,a2⟩:=xD S (w':=w.alloc (.map #[] 0)) (blk:= .map t []) (b:=w.heap.size) hn (fun az blk' h ho=>Nat.lt_irrefl _ (S.h.lt h ho)) cu
  (fun b' _ aK=>heap_alloc_old w _ b' aK) (by simp) ⟨rfl,rfl⟩ (.inr S.size) (fun b' h=>(Option.some.inj (h.flat (by simp))).symm)
  (fun _=> .map hu rfl er rfl cu (fun j e x he _=>by simp at he) (by simp))
 exact ⟨_,_,_,_,Go.RowKit.run_makeMap t w,a1,a2,.bG (cy _ _ _) (cy _ _ _)⟩
theorem MW (S:aC P w I β hp B M w0) {t kt vt:TypeId} (ht:j8 P t=some (kt,vt)) {m k v:Value} {mx kx vx:V} {r:R} {rd:List Nat} (hm:ah P w I β hp m mx) (hk:ah P w I β hp k kx) (hv:ah P w I β hp v vx)
  (h:(Bx P t mx kx vx).run C hp=some (r,rd)):nU P ((Instr.mapUpdate t m k v).run P w) w I β hp B M w0 r:=by
 unfold Bx at h
 rw[ht] at h
 obtain ⟨hc,h'⟩:=aD h
 clear h
 have h:=h'
 clear h'
 simp only[Bool.and_eq_true] at hc
 obtain ⟨oc,xX,sJ⟩:=hc
 have hu:=G7 ht
 have va:=hk.MQ oc
 have uS:=ah.WS xX sJ hv
 have K:=G4 oc
 obtain ⟨l,hl⟩:=Cp oc va
 cases mx<;>simp only at h<;>first|(cases h;done)|skip
 rename_i t' id
 obtain ⟨jt,h'⟩:=aD h
 clear h
 have h:=h'
 clear h'
 rw[Nat.beq_eq] at jt
 subst jt
 obtain ⟨l2,h'⟩:=run_get h
 clear h
 have h:=h'
 clear h'
 cases aa:hp id with
 | none=>rw[aa] at h;cases h
 | some blk=>
  rw[aa] at h
  cases blk<;>simp only at h<;>first|(cases h;done)|skip
  rename_i t2 es
  obtain ⟨jt,h'⟩:=aD h
  clear h
  have h:=h'
  clear h'
  rw[Nat.beq_eq] at jt
  subst jt
  obtain rfl:=aH h
  cases hm with
  | gz hd=>rw[aa] at hd;cases hd
  | @bG _ _ b aG hd hb=>
   rw[aa] at hd
   cases hd
   have hr:=S.h.rel id _ aa
   cases hr with
   | @map _ MU MV _ b' clock E fp au hh hs hI hx hn=>
    rw[hb] at au;cases au
    rw[hu] at fp;cases fp
    have aK:b<w.heap.size:=(Array.getElem?_eq_some_iff.1 hh).1
    have fin: ∀(E':Array MapEntry) (xY:Nat),(Instr.mapUpdate t (.map (some b)) k v).run P w= .ok () {w with heap:=w.heap.setIfInBounds b (.map E' xY)}→E'.size=(eX kx vx es).length→
      (∀(j:Nat) (e:MapEntry) (x:V),E'[j]? =some e→(eX kx vx es)[j]? =some x→BJ P kt vt e x)→E'.toList.Pairwise (fun a b=>a.key≠b.key)→
      nU P ((Instr.mapUpdate t (.map (some b)) k v).run P w) w I β hp B M w0 ⟨.undef,[(id,.map t (eX kx vx es))]⟩:=by
     intro E' xY cA qY cd G9
     have er:({w with heap:=w.heap.setIfInBounds b (.map E' xY)}:World).heap[b]? =some (.map E' xY):=by simp[aK]
     obtain ⟨a1,a2⟩:=BT S (w':={w with heap:=w.heap.setIfInBounds b (.map E' xY)}) (blk':= .map t (eX kx vx es)) aa (by simp) rfl hb hI (by simp)
      (fun b' au=>by simp[Array.getElem?_setIfInBounds,Ne.symm au]) (by simp only[bsize,er,hh]) (by simp) ⟨rfl,rfl⟩ (fun _=> .map hu rfl er qY hI cd G9)
     exact ⟨_,I,β,cA,a1,a2,rfl⟩
    rcases MN hs hx hn oc va w with ⟨h1,h2,_,_,h5⟩|⟨j,e,k',y,h1,hE,MX,hes,WX,WY,_,_,_,_,h5⟩
    ·have e5:=h5 vx
     refine fin (E.push {key:=k,val:=v,born:=clock}) (clock+1) ?_ (by rw[e5];simp[hs]) (fun j e x he pb=> ?_) ?_
     ·unfold Instr.mapUpdate
      simp only[Sem.run_bind,run_underlying hu,Result.andThen_ok,Go.MapKept.run_getObj_map hh,K.check w false hl,h1,Go.MapKept.run_setObj_map _ hh]
     ·rw[e5] at pb
      rw[Array.getElem?_push] at he
      split at he
      ·rename_i hj
       rw[List.getElem?_append_right (by omega),hj,hs,Nat.sub_self] at pb
       simp at he pb
       subst he;subst pb
       exact ⟨kx,vx,rfl,oc,va,sJ,uS⟩
      ·have hj:j<E.size:=(Array.getElem?_eq_some_iff.1 he).1
       rw[List.getElem?_append_left (by omega)] at pb
       exact hx j e x he pb
     ·rw[Array.toList_push,List.pairwise_append]
      refine ⟨hn,by simp,fun a ha b' au=> ?_⟩
      simp only[List.mem_singleton] at au
      subst au
      exact h2 a ha
    ·have e5:=h5 vx
     have hj:j<E.size:=(Array.getElem?_eq_some_iff.1 hE).1
     refine fin (E.modify j fun e=>{e with key:=k,val:=v}) clock ?_ (by rw[e5];simp[hs]) (fun i e' x he fN=> ?_) ?_
     ·have bZ:=K.stays w hl
      unfold Instr.mapUpdate
      simp only[Sem.run_bind,run_underlying hu,Result.andThen_ok,Go.MapKept.run_getObj_map hh,K.check w false hl,h1]
      simp only[hE,Option.map_some,Option.getD_some,MX,bZ,Result.andThen_ok,Go.MapKept.run_setObj_map _ hh]
     ·rw[e5] at fN
      rw[Array.getElem?_modify] at he
      rw[List.getElem?_set] at fN
      split at he
      ·rename_i sK
       subst sK
       rw[if_pos rfl,if_pos (by omega)] at fN
       rw[hE] at he
       simp at he fN
       subst he;subst fN
       exact ⟨k',vx,rfl,WX,WY,sJ,uS⟩
      ·rename_i sK
       rw[if_neg sK] at fN
       exact hx i e' x he fN
     ·have MY: ∀i (h1:i<(E.modify j fun e=>{e with key:=k,val:=v}).toList.length) (h2:i<E.toList.length),((E.modify j fun e=>{e with key:=k,val:=v}).toList[i]).key=(E.toList[i]).key:=by
       intro i h1 h2
       simp only[Array.getElem_toList,Array.getElem_modify]
       split
       ·rename_i sK
        subst sK
        have:=(Array.getElem?_eq_some_iff.1 hE).2
        rw[this,MX]
       ·rfl
      rw[List.pairwise_iff_getElem] at hn⊢
      intro i i' h1 h2 gV
      have g1:i<E.toList.length:=by simpa using h1
      have g2:i'<E.toList.length:=by simpa using h2
      rw[MY i h1 g1,MY i' h2 g2]
      exact hn i i' g1 g2 gV
theorem WZ (S:aC P w I β hp B M w0) {t ty kt vt:TypeId} {v:Value} {x:V} {r:R} {rd:List Nat} (hu:P.underlying t=some (.map kt vt)) (hv:ah P w I β hp v x)
  (h:(By x).run C hp=some (r,rd)):cC P ((Builtin.len_ #[t] ty #[v]).run P w) w I β hp B M w0 r:=by
 unfold By at h
 cases x<;>simp only at h<;>first|(cases h;done)|skip
 ·rename_i t' id
  obtain ⟨l2,h'⟩:=run_get h
  clear h
  have h:=h'
  clear h'
  cases aa:hp id with
  | none=>rw[aa] at h;cases h
  | some blk=>
   rw[aa] at h
   cases blk<;>simp only at h<;>first|(cases h;done)|skip
   rename_i t2 es
   obtain rfl:=aH h
   cases hv with
   | gz hd=>rw[aa] at hd;cases hd
   | @bG _ _ b aG hd hb=>
    rw[aa] at hd
    cases hd
    have hr:=S.h.rel id _ aa
    cases hr with
    | @map _ MU MV _ b' clock E fp au hh hs hI hx hn=>
     rw[hb] at au;cases au
     refine .same S (v:= .int .i64 E.size) (by simp[Builtin.len_,run_underlying hu,Go.MapKept.run_getObj_map hh,goInt]) ?_
     rw[hs]
     exact .int
 ·obtain rfl:=aH h
  cases hv
  exact .same S (v:= .int .i64 0) (by simp[Builtin.len_,run_underlying hu,goInt]) .int
theorem ah.Ha {v:Value} {t:TypeId} (h:ah P w I β hp v (.cQ t)):v= .map none:=by cases h;rfl
theorem ah.W0 {v:Value} {t t':TypeId} {id:Nat} {es:List V} (h:ah P w I β hp v (.bG t id)) (aa:hp id=some (.map t' es)): ∃b,v= .map (some b):=by
 cases h with
 | gz h=>rw[aa] at h;cases h
 | bG h hb=>exact ⟨_,rfl⟩
theorem MZ (S:aC P w I β hp B M w0) {op:BinOp} {t:TypeId} {a:Option Nat} {r:R} {rd:List Nat} (x y:Operand)
  (h:(Bs P op t a.isNone).run C hp=some (r,rd)):cC P ((do eqGuard op t x y (.map a) (.map none);binOp op t (.map a) (.map none)).run P w) w I β hp B M w0 r:=by
 unfold Bs at h
 split at h
 case h_2=>cases h
 rename_i kt vt hu
 have he:(Op.equal t (.map a) (.map none)).run P w= .ok a.isNone w:=by
  show (Op.equalIn (9999+1) t (.map a) (.map none)).run P w=_
  rw[Op.equalIn]
  cases a<;>simp[Sem.run_bind,run_underlying hu,Result.andThen_ok,Sem.run_pure]
 cases op<;>simp only at h<;>first|(cases h;done)|skip
 ·obtain rfl:=aH h
  exact .same S (by simp[eqGuard,binOp,he]) .bool
 ·obtain rfl:=aH h
  exact .same S (by simp[eqGuard,binOp,he]) .bool
end
end Go.AM
namespace Go.AM
section
variable {P:Program} {w w':World} {I I':Nat→Prop} {β aj:Nat→Option Nat} {hp hp':Nat→Option ag} {C:ae} {B:Nat} {M:Nat→Prop} {w0:Start}
theorem W3 {e:TypeId} (he:P.underlying e=some (.int .u8)) (hc:P.cellsOf e=1) (s:ByteArray): ∀(i j:Nat) (x:V) (t':TypeId),(s.data.toList.map xj)[i]? =some x→(aM P e)[j]? =some t'→j<P.cellsOf e→
  ∃u,(Lib.strCells s)[i*P.cellsOf e+j]? =some u∧Pure P w I t' u (bx P e x j):=by
 intro i j x t' hx ht hj
 have mc:bt P e=false:=by simp[bt,he]
 obtain rfl:j=0:=by omega
 simp only[aM,mc,cond_false,List.getElem?_cons_zero,Option.some.injEq] at ht
 subst ht
 rw[List.getElem?_map] at hx
 cases hb:s.data.toList[i]? with
 | none=>rw[hb] at hx;cases hx
 | some b=>
  rw[hb] at hx
  cases hx
  refine ⟨.int .u8 b.toNat,?_,?_⟩
  ·rw[hc,Nat.mul_one,Nat.add_zero]
   simp only[Lib.strCells,List.getElem?_map,hb,Option.map_some]
  ·simp only[bx,mc,cond_false]
   exact .int he
theorem W4 (w:World) (t u ty e:TypeId) (i:TypeInfo) (z:Value) (ht:P.underlying t=some (.slice e)) (hu:P.underlying u=some .string) (hi:P.info? e=some i) (hz:i.zero=some z)
  (s:ByteArray) (h0:0<s.size) (Ck:(s.size:Int)≤9223372036854775807) (Cl:s.size*i.bytes≤281474976710656) (a0:Option Addr):
  (Builtin.append_ #[t,u] ty #[.slice a0 0 0,.string s]).run P w=
   .ok (.slice (some ⟨w.heap.size,0,none⟩) s.size (grownCap w s.size 0 e))
    (w.drew.alloc (.cells (s.data.map (fun b=>Value.int .u8 b.toNat)++Builtin.zeroCells z.cells (grownCap w s.size 0 e-s.size)) e)):=by
 cases a0 with
 | none=>exact run_append_nil_string w t u ty e i z ht hu hi hz s h0 Ck Cl
 | some b=>
  rw[←run_append_nil_string w t u ty e i z ht hu hi hz s h0 Ck Cl]
  have hn:s.size≠0:=by omega
  have W5: ¬(9223372036854775807<(s.size:Int)):=by omega
  have W6: ¬(281474976710656<Builtin.nextslicecap s.size 0*i.bytes):=by rw[nextslicecap_zero h0];omega
  simp[Builtin.append_,run_underlying ht,run_underlying hu,sizeOf,typeInfo,zeroValue,hi,hz,Builtin.lenOf,Builtin.firstCells,hn,W5,W6,Question.forced,newRow,grownCap,loadCells,loadCellsFrom]
theorem M0 (S:aC P w I β hp B M w0) {t u ty e:TypeId} {nb:Nat} {x:ByteArray} {xs:List V} {i:TypeInfo} {z:Value} (hu:P.underlying t=some (.slice e)) (m9:P.underlying u=some .string) (aq:cw P e=true) (hn:hp nb=none)
 (hi:P.info? e=some i) (hz:i.zero=some z) (h3:i.size=P.cellsOf e) (h4:z.cells.size=P.cellsOf e) (vb:i.size=1) (lb:P.bytesOf e=i.bytes) (dO:xs.length*P.bytesOf e≤b7) (jw:xs.length=x.size) (kZ:(Lib.strCells x).length=x.size)
 (cx: ∀(i j:Nat) (y:V) (t':TypeId),xs[i]? =some y→(aM P e)[j]? =some t'→j<P.cellsOf e→∃u,(Lib.strCells x)[i*P.cellsOf e+j]? =some u∧Pure P w I t' u (bx P e y j)):
 ∀a0,∃v w' aj,(Builtin.append_ #[t,u] ty #[.slice a0 0 0,.string x]).run P w= .ok v w'∧Le P w I β hp w' I aj (aF hp nb (some (.arr e xs false)))∧aC P w' I aj (aF hp nb (some (.arr e xs false))) B M w0∧
  ah P w' I aj (aF hp nb (some (.arr e xs false))) v (.whole e nb):=by
 intro a0
 have sG:=uJ aq
 have hlen:xs.length≤2^45:=by
  have:xs.length*1≤xs.length*P.bytesOf e:=Nat.mul_le_mul_left _ sG
  simp only[b7] at dO
  omega
 by_cases h0:x.size=0
 ·have fQ:xs=[]:=List.eq_nil_of_length_eq_zero (by omega)
  subst fQ
  obtain ⟨a1,a2⟩:=BQ S e hn
  have hf:=Lib.run_firstCells_string (P:=P) w 1 x
  rw[h0] at hf
  have pf:Lib.strCells x=[]:=List.eq_nil_of_length_eq_zero (by omega)
  exact ⟨.slice a0 0 0,_,_,by cases a0<;>simp[storeCells,pf,Builtin.append_,run_underlying hu,run_underlying m9,sizeOf,typeInfo,hi,vb,Builtin.lenOf,h0,hf],a1,a2,.dg (cy _ _ _) (cy _ _ _)⟩
 ·have cA:=W4 (P:=P) w t u ty e i z hu m9 hi hz x (by omega) (by omega) (by rw[←lb,←jw];simp only[b7] at dO;omega) a0
  have e1:(x.data.map fun b=>Value.int .u8 b.toNat)=(Lib.strCells x).toArray:=by
   apply Array.ext'
   simp[Lib.strCells]
  rw[e1,←jw] at cA
  have n0:=grownCap_ge w xs.length 0 e
  have sH:grownCap w xs.length 0 e≤maxLen:=grownCap_le_maxLen w xs.length 0 e (by simp only[maxLen];omega)
  obtain ⟨n1,n2,n3⟩:=u6 S.drew (nb:=nb) (cap:=grownCap w xs.length 0 e) (es:=xs) (C0:=(Lib.strCells x).toArray++Builtin.zeroCells z.cells (grownCap w xs.length 0 e-xs.length)) aq hn
   (by
    have:(Lib.strCells x).length=xs.length*P.cellsOf e:=by rw[kZ,jw,←h3,vb,Nat.mul_one]
    simp only[Array.size_append,List.size_toArray,size_zeroCells,h4,this,←Nat.add_mul];congr 1;omega) n0 sH
   (fun i' j y t' hy ht hj=>by
    obtain ⟨u,fp,hp⟩:=cx i' j y t' hy ht hj
    have aK:=(List.getElem?_eq_some_iff.1 fp).1
    refine ⟨u,?_,Pure.drew hp⟩
    rw[Array.getElem?_append_left (by simpa using aK)]
    simpa using fp)
  exact ⟨_,_,_,cA,(Le.drew w I β hp).trans n1,n2,n3⟩
theorem W7 (S:aC P w I β hp B M w0) {t u ty e:TypeId} {nb:Nat} {s:Value} {sv:V} {x:ByteArray} {r:R} {rd:List Nat} (hu:P.underlying t=some (.slice e)) (m9:P.underlying u=some .string) (he:P.underlying e=some (.int .u8)) (hs:ah P w I β hp s sv)
  (h:(uy P nb e sv (.list e (x.data.toList.map xj))).run C hp=some (r,rd)):cC P ((Builtin.append_ #[t,u] ty #[s,.string x]).run P w) w I β hp B M w0 r:=by
 unfold uy at h
 obtain ⟨aq,h⟩:=aD h
 simp only[qG] at h
 obtain ⟨_,h⟩:=aD h
 have mc:bt P e=false:=by simp[bt,he]
 have di:P.cellsOf e=1:=by rw[←(js aq).1,xy mc];rfl
 obtain ⟨i,z,hi,hz,h3,h4,_⟩:=ju aq
 have vb:i.size=1:=by rw[h3,di]
 have sG:=uJ aq
 have lb:P.bytesOf e=i.bytes:=by simp[Program.bytesOf,hi]
 have Cs:=W3 (P:=P) (w:=w) (I:=I) he di x
 have jw:(x.data.toList.map xj).length=x.size:=by simp
 have kZ:(Lib.strCells x).length=x.size:=Lib.strCells_length x
 have h1:=Lib.strCells_oneCell x
 generalize fQ:x.data.toList.map xj=xs at*
 cases sv with
 | nilS e'=>
  obtain ⟨hc,h⟩:=aD h
  simp only[Bool.and_eq_true,Nat.beq_eq,Nat.ble_eq] at hc
  obtain ⟨hn,rfl⟩:=lZ h
  obtain ⟨a0,rfl⟩: ∃a0,s= .slice a0 0 0:=by cases hs;exact ⟨_,rfl⟩
  obtain ⟨v,w',aj,a1,a2,a3,a4⟩:=M0 S hu m9 aq hn hi hz h3 h4 vb lb hc.2 jw kZ Cs _
  exact ⟨v,w',I,aj,a1,a2,a3,a4⟩
 | whole e' id=>
  obtain ⟨l,h⟩:=run_get h
  cases aa:hp id with
  | none=>rw[aa] at h;cases h
  | some blk=>
   rw[aa] at h
   cases blk with
   | dead=>cases h
   | var _=>cases h
   | nest _ _ _=>cases h
   | map _ _=>cases h
   | arr dc es fz=>
    cases fz with
    | true=>cases h
    | false=>
     obtain ⟨hc,h⟩:=aD h
     obtain ⟨hn,rfl⟩:=lZ h
     simp only[Bool.and_eq_true,Nat.beq_eq,Nat.ble_eq] at hc
     obtain ⟨GU,GV,dO⟩:=hc
     subst GU
     subst GV
     have bA:nb≠id:=fun e=>by rw[e,aa] at hn;cases hn
     obtain ⟨k1,k2⟩:=BR S aa
     have jv:aF hp id (some ag.dead) nb=none:=by rw[dF _ _ bA];exact hn
     cases hs with
     | dD hd=>rw[aa] at hd;cases hd
     | dJ hd=>rw[aa] at hd;cases hd
     | dg hd hb=>
      rw[aa] at hd
      cases hd
      simp only[List.length_nil,Nat.zero_add] at dO
      obtain ⟨v,w',aj,a1,a2,a3,a4⟩:=M0 k2 hu m9 aq jv hi hz h3 h4 vb lb dO jw kZ Cs _
      exact ⟨v,w',I,aj,a1,k1.trans a2,a3,a4⟩
     | @whole _ _ aG lO b cap hd hb aO bQ hm=>
      rw[aa] at hd
      cases hd
      have hr:=S.h.rel id _ aa
      cases hr with
      | dh au=>rw[au] at hb;cases hb
      | @arr _ _ _ b' Ca _ au hh n8 hf dE ld=>
       rw[hb] at au
       cases au
       have hlen:es.length+xs.length≤2^45:=by
        have:(es.length+xs.length)*1≤(es.length+xs.length)*P.bytesOf e:=Nat.mul_le_mul_left _ sG
        simp only[b7] at dO
        omega
       rw[lR hh] at aO
       have o8: ∀az blk',aF hp id (some ag.dead) az=some blk'→¬bj P w (β az) blk' b:=by
        intro az blk' h1 h2
        by_cases gV:az=id
        ·subst gV;rw[cy] at h1;cases h1;exact h2.alive rfl
        ·rw[dF _ _ gV] at h1
         exact gV (S.h.inj az id blk' _ b h1 aa h2 (.root (by simp) hb))
       have GW:=S.h.qO id _ b aa (by simp) hb
       have kh:es.length*P.cellsOf e≤Ca.toList.length:=by simpa using n8
       have M1:(Lib.strCells x).length=xs.length*P.cellsOf e:=by rw[kZ,jw,di,Nat.mul_one]
       by_cases qX:es.length+xs.length≤cap
       ·have xT:es.length*P.cellsOf e+(Lib.strCells x).length≤Ca.size:=by rw[M1,←Nat.add_mul,←aO];exact Nat.mul_le_mul_right _ qX
        have cA:=Lib.run_append_room_string (P:=P) w t u ty e i hu m9 hi vb b es.length cap Ca hh x (by rw[←jw];exact qX) (by rw[←kZ];rw[di,Nat.mul_one] at xT;exact xT)
        have cx:=Ci (P:=P) (w:=w) (I:=I) (n:=es.length) (c:=Ca.toList) rfl (fun i j y t' a b c=>by
         obtain ⟨v,hv,hp⟩:=ld i j y t' a b c
         exact ⟨v,by simpa using hv,hp⟩) Cs kh (Ca.toList.drop (es.length*P.cellsOf e+(Lib.strCells x).length))
        generalize u0:(Ca.toList.take es.length++Lib.strCells x++Ca.toList.drop (es.length+x.size)).toArray=C' at cA
        have m7:C'.size=Ca.size:=by
         rw[di,Nat.mul_one] at xT
         rw[←u0];simp;omega
        have M3:(w.setRow b C').heap[b]? =some (.cells C' e (0,0)):=setRow_heap w b Ca C' e _ hh
        obtain ⟨a1,a2⟩:=xD k2 (blk:= .arr e (es++xs) false) (w':=w.setRow b C') jv o8 (dE rfl) (fun b' h _=>setRow_other w b b' _ h) (by simp) ⟨rfl,rfl⟩ GW
         (fun b' h=>(Option.some.inj (h.flat (by simp))).symm) (fun hle=> .arr aq rfl M3 (by rw[m7,←aO];exact Nat.mul_le_mul_right _ (by simpa using qX)) (fun h=>by cases h) (fun _=>dE rfl) fun i j y t' a b c=>by
          obtain ⟨v,hv,hp⟩:=cx i j y t' a b c
          refine ⟨v,?_,hp.mono hle.cM hle.bR⟩
          rw[←u0,List.getElem?_toArray]
          rw[di] at hv⊢
          simpa[kZ] using hv)
        refine ⟨_,_,_,_,cA,k1.trans a1,a2,?_⟩
        have a3:=ah.whole (P:=P) (w:=w.setRow b C') (I:=I) (β:=aF β nb (some b)) (hp:=aF (aF hp id (some .dead)) nb (some (.arr e (es++xs) false))) (cap:=cap) (b:=b) (es:=es++xs) (fz:=false) (id:=nb) (e:=e) (cy _ _ _) (cy _ _ _) (by rw[lR M3,m7,aO]) (by simpa using qX) hm
        rw[List.length_append,jw] at a3
        exact a3
       ·have hold: ∀(j:Nat) v,(Ca.toList.take (es.length*P.cellsOf e))[j]? =some v→w.cell? ((⟨b,0,none⟩:Addr).add j)=some v:=by
         intro j v hj
         have cz:=(List.getElem?_eq_some_iff.1 hj).1
         have bS:j<es.length*P.cellsOf e:=by rw[List.length_take] at cz;omega
         rw[List.getElem?_take_of_lt bS] at hj
         rw[lW,cell?_cells hh,Nat.zero_add]
         simpa using hj
        have cA:=Lib.run_append_grow_string (P:=P) w t u ty e i z hu m9 hi hz ⟨b,0,none⟩ es.length cap (Ca.toList.take (es.length*P.cellsOf e)) (by rw[h3];simp;omega) hold x (by omega) (by omega)
         (growslice_fits (by omega) (by rw[←lb,←jw];simp only[b7] at dO;omega))
        rw[←jw] at cA
        have n0:=grownCap_ge w (es.length+xs.length) cap e
        have sH:grownCap w (es.length+xs.length) cap e≤maxLen:=grownCap_le_maxLen w _ cap e (by simp only[maxLen];omega)
        have cx:=Ci (P:=P) (w:=w) (I:=I) (n:=es.length) (c:=Ca.toList) rfl (fun i j y t' a b c=>by
         obtain ⟨v,hv,hp⟩:=ld i j y t' a b c
         exact ⟨v,by simpa using hv,hp⟩) Cs kh (Builtin.zeroCells z.cells (grownCap w (es.length+xs.length) cap e-(es.length+xs.length))).toList
        obtain ⟨n1,n2,n3⟩:=u6 k2.drew (nb:=nb) (cap:=grownCap w (es.length+xs.length) cap e) (es:=es++xs)
         (C0:=(Ca.toList.take (es.length*P.cellsOf e)).toArray++(Lib.strCells x).toArray++Builtin.zeroCells z.cells (grownCap w (es.length+xs.length) cap e-(es.length+xs.length))) aq jv
         (by
          have e1:(Ca.toList.take (es.length*P.cellsOf e)).length=es.length*P.cellsOf e:=by simp;omega
          simp only[Array.size_append,List.size_toArray,size_zeroCells,h4,M1,e1,←Nat.add_mul];congr 1;omega) (by simpa using n0) sH
         (fun i j y t' a b c=>by
          obtain ⟨v,hv,hp⟩:=cx i j y t' a b c
          refine ⟨v,?_,Pure.drew hp⟩
          rw[←Array.getElem?_toList]
          simpa using hv)
        rw[List.length_append] at n3
        exact ⟨_,_,_,_,cA,(k1.trans (Le.drew w I β _)).trans n1,n2,n3⟩
 | _=>cases h
end
section
variable {P:Program} {w w':World} {I I':Nat→Prop} {β aj:Nat→Option Nat} {hp hp':Nat→Option ag} {C:ae} {B:Nat} {M:Nat→Prop} {w0:Start}
theorem M4: ∀(ns:List Int) (s:ByteArray),(ns.foldl (fun r n=>r.push (UInt8.ofNat n.toNat)) s).data.toList=s.data.toList++ns.map fun n=>UInt8.ofNat n.toNat
 | [],s=>by simp
 | n::ns,s=>by
  simp only[List.foldl_cons,M4 ns,List.map_cons]
  simp[ByteArray.push]
theorem M5 {e:TypeId} {u:Value} {x:V} (he:P.underlying e=some (.int .u8)) (hp:Pure P w I e u x):u= .int .u8 x.toInt:=by
 cases hp with
 | int hp'=>rw[he] at hp';cases hp';rfl
 | bool hp'=>rw[he] at hp';cases hp'
 | str hp'=>rw[he] at hp';cases hp'
 | nil hp'=>rw[he] at hp';cases hp'
 | emp hp'=>rw[he] at hp';cases hp'
 | list _ hp'=>rw[he] at hp';cases hp'
theorem W8 (S:aC P w I β hp B M w0) {src dst e:TypeId} {v:Value} {x:V} {r:R} {rd:List Nat} (hs:P.underlying src=some (.slice e)) (he:P.underlying e=some (.int .u8)) (hd:P.underlying dst=some .string)
  (hv:ah P w I β hp v x) (h:(Rd.ay (cw P e) (qG e x fun es=> .ret ⟨.str (lN es),[]⟩)).run C hp=some (r,rd)):cC P ((convert src dst v).run P w) w I β hp B M w0 r:=by
 obtain ⟨aq,h⟩:=aD h
 obtain ⟨xs,hx,l,h⟩:=Ch S.h.rel aq hv h
 obtain rfl:=aH h
 have mc:bt P e=false:=by simp[bt,he]
 have h1:P.cellsOf e=1:=by rw[←(js aq).1,xy mc];rfl
 rcases hx with ⟨⟨a,rfl⟩,rfl⟩|⟨a,c,news,hr⟩
 ·refine .same S (v:= .string .empty) ?_ (.str (by simp[lN]))
  rw[run_convert_bytes_string w src dst e a 0 0 hs he hd]
  cases a<;>simp[Conv.bytesToString,loadCells,loadCellsFrom]
 ·have Cj:news=(xs.map V.toInt).map (Value.int .u8):=by
   apply List.ext_getElem?
   intro j
   by_cases hj:j<xs.length
   ·obtain ⟨u,hu,hp⟩:=hr.el j 0 xs[j] e (List.getElem?_eq_getElem hj) (by simp[aM,mc]) (by omega)
    rw[h1] at hu
    simp only[bx,mc,cond_false] at hp
    have fp:news[j]? =some u:=by simpa using hu
    rw[fp]
    have:=M5 he hp
    simp[hj,←this]
   ·have hl:news.length=xs.length:=by rw[hr.len,h1];simp
    rw[List.getElem?_eq_none (by omega),List.getElem?_eq_none (by simp;omega)]
  have Hb:=run_loadCells_list (P:=P) w a news hr.cell
  have hl:news.length=xs.length:=by rw[hr.len,h1];simp
  rw[hl] at Hb
  rw[Cj] at Hb
  refine .same S (v:= .string ((xs.map V.toInt).foldl (fun r n=>r.push (UInt8.ofNat n.toNat)) ByteArray.empty)) ?_ (.str ?_)
  ·rw[hr.val,run_convert_bytes_string w src dst e _ _ _ hs he hd]
   exact run_bytesToString w a xs.length c (xs.map V.toInt) Hb
  ·rw[M4]
   simp[lN]
theorem ah.Ct {v:Value} (h:ah P w I β hp v .cP):v= .pointer none:=by cases h;rfl
section
variable (w:World)
theorem W9 (t e:TypeId) (a:Addr) (h:P.underlying t=some (.pointer e)):(binOp .eql t (.pointer (some a)) (.pointer none)).run P w= .ok (.bool false) w:=by
 have h0: ∀d:Nat,(Op.equalIn (d+1) t (.pointer (some a)) (.pointer none)).run P w= .ok false w:=fun d=>by simp[Op.equalIn,run_underlying h]
 simp only[binOp]
 simp[Op.equal,Op.maxDepth,h0 9999]
theorem Xa (t e:TypeId) (a:Addr) (h:P.underlying t=some (.pointer e)):(binOp .neq t (.pointer (some a)) (.pointer none)).run P w= .ok (.bool (!false)) w:=by
 have h0: ∀d:Nat,(Op.equalIn (d+1) t (.pointer (some a)) (.pointer none)).run P w= .ok false w:=fun d=>by simp[Op.equalIn,run_underlying h]
 simp only[binOp]
 simp[Op.equal,Op.maxDepth,h0 9999]
theorem Xb (t e:TypeId) (a:Addr) (h:P.underlying t=some (.pointer e)):(binOp .eql t (.pointer none) (.pointer (some a))).run P w= .ok (.bool false) w:=by
 have h0: ∀d:Nat,(Op.equalIn (d+1) t (.pointer none) (.pointer (some a))).run P w= .ok false w:=fun d=>by simp[Op.equalIn,run_underlying h]
 simp only[binOp]
 simp[Op.equal,Op.maxDepth,h0 9999]
theorem Xc (t e:TypeId) (a:Addr) (h:P.underlying t=some (.pointer e)):(binOp .neq t (.pointer none) (.pointer (some a))).run P w= .ok (.bool (!false)) w:=by
 have h0: ∀d:Nat,(Op.equalIn (d+1) t (.pointer none) (.pointer (some a))).run P w= .ok false w:=fun d=>by simp[Op.equalIn,run_underlying h]
 simp only[binOp]
 simp[Op.equal,Op.maxDepth,h0 9999]
theorem Xd (t e:TypeId) (h:P.underlying t=some (.pointer e)):(binOp .eql t (.pointer none) (.pointer none)).run P w= .ok (.bool true) w:=by
 have h0: ∀d:Nat,(Op.equalIn (d+1) t (.pointer none) (.pointer none)).run P w= .ok true w:=fun d=>by simp[Op.equalIn,run_underlying h]
 simp only[binOp]
 simp[Op.equal,Op.maxDepth,h0 9999]
theorem Xe (t e:TypeId) (h:P.underlying t=some (.pointer e)):(binOp .neq t (.pointer none) (.pointer none)).run P w= .ok (.bool (!true)) w:=by
 have h0: ∀d:Nat,(Op.equalIn (d+1) t (.pointer none) (.pointer none)).run P w= .ok true w:=fun d=>by simp[Op.equalIn,run_underlying h]
 simp only[binOp]
 simp[Op.equal,Op.maxDepth,h0 9999]
end
theorem Cu (S:aC P w I β hp B M w0) {op:BinOp} {t:TypeId} {b:Bool} {x y:Operand} {v1 v2:Value} {r:R} {rd:List Nat} (h:(ptrEq P op t b).run C hp=some (r,rd)) (hg:(eqGuard op t x y v1 v2).run P w= .ok () w)
  (he: ∀e j,P.underlying t=some (.pointer e)→P.info? e=some j→(binOp .eql t v1 v2).run P w= .ok (.bool b) w∧(binOp .neq t v1 v2).run P w= .ok (.bool (!b)) w):
  cC P ((do eqGuard op t x y v1 v2;binOp op t v1 v2:Sem Value).run P w) w I β hp B M w0 r:=by
 unfold ptrEq at h
 cases hu:P.underlying t with
 | none=>rw[hu] at h;cases h
 | some d=>
  rw[hu] at h
  cases d<;>simp only at h<;>first|(cases h;done)|skip
  rename_i e
  obtain ⟨h1,h2⟩:=aD h
  obtain ⟨j,hj⟩:=Option.isSome_iff_exists.1 h1
  obtain ⟨k1,k2⟩:=he e j hu hj
  cases op<;>simp only at h2<;>first|(cases h2;done)|skip
  ·obtain rfl:=aH h2
   exact .same S (by simp only[Sem.run_bind,hg,Result.andThen_ok,k1]) .bool
  ·obtain rfl:=aH h2
   exact .same S (by simp only[Sem.run_bind,hg,Result.andThen_ok,k2]) .bool
theorem Xf {b n:Nat}:(∀b',b'≠b→(w.freeze ⟨b,0,none⟩ n).heap[b']? =w.heap[b']?)∧bsize (w.freeze ⟨b,0,none⟩ n) b=bsize w b∧w.heap.size≤(w.freeze ⟨b,0,none⟩ n).heap.size∧(w.freeze ⟨b,0,none⟩ n).os=w.os∧(w.freeze ⟨b,0,none⟩ n).output=w.output:=by
 unfold World.freeze
 split
 ·exact ⟨fun _ _=>rfl,rfl,Nat.le_refl _,rfl,rfl⟩
 ·refine ⟨fun b' hb=> ?_,?_,by simp,rfl,rfl⟩
  ·simp only[Array.getElem?_modify]
   rw[if_neg (fun e=>hb e.symm)]
  ·simp only[bsize,Array.getElem?_modify,if_true]
   cases w.heap[b]? with
   | none=>rfl
   | some o=>cases o<;>rfl
theorem Xg {e:TypeId} (hb:isByte P e=true):P.underlying e=some (.int .u8):=by
 unfold isByte at hb
 split at hb
 ·assumption
 ·cases hb
theorem Xh (S:aC P w I β hp B M w0) {ts:Array TypeId} {ty e:TypeId} {v:Value} {id:Nat} {es:List V} {fz:Bool} (hv:ah P w I β hp v (.whole e id)) (aa:hp id=some (.arr e es fz)) (h0:0<es.length):
  cC P ((Builtin.unsafeSliceData_ ts ty #[v]).run P w) w I β hp B M w0 ⟨.ptr id 0 0,[]⟩:=by
 cases hv with
 | dD h=>rw[aa] at h;cases h
 | dg h _=>rw[aa] at h;cases h;simp at h0
 | dJ h _ _ _ _=>rw[aa] at h;cases h
 | @whole _ _ aG lO b cap h hb bQ hle hm=>
  rw[aa] at h;cases h
  refine .same S (Lib.run_unsafeSliceData_row w ts ty ⟨b,0,none⟩ es.length cap (by omega)) ?_
  have:=ah.ptr (P:=P) (w:=w) (I:=I) (β:=β) (i:=0) (c:=0) aa (by simp) hb
  simpa using this
theorem Xi (S:aC P w I β hp B M w0) {t u ty e:TypeId} {vx:Value} {id:Nat} {n:Int} {es:List V} (hu:P.underlying t=some (.pointer e)) (hb:isByte P e=true) (hv:ah P w I β hp vx (.ptr id 0 0))
  (aa:hp id=some (.arr e es false)) (h0:0<n) (hn:n≤es.length) (hm:n.toNat≤w6) (eF:(es.take n.toNat).all F6=true):cC P ((Builtin.unsafeString_ #[t,u] ty #[vx,.int .i64 n]).run P w) w I β hp B M w0 ⟨.str (lN (es.take n.toNat)),[(id,.dead)]⟩:=by
 obtain ⟨b,Hc,rfl⟩:=hv.gg aa (by simp)
 have he:P.underlying e=some (.int .u8):=by
  unfold isByte at hb
  split at hb
  ·assumption
  ·cases hb
 have mc:bt P e=false:=by simp[bt,he]
 have hr:=S.h.rel id _ aa
 rw[Hc] at hr
 cases hr with
 | dh au=>cases au
 | @arr _ _ _ b1 Ca aq kh hh hs hI cu cx=>
  cases kh
  have h1:P.cellsOf e=1:=by rw[←(js aq).1,xy mc];rfl
  have aK:=S.Vp aa (by simp) Hc
  have hl:(lN (es.take n.toNat)).length=n.toNat:=by simp[lN];omega
  have G9:n=((lN (es.take n.toNat)).length:Nat):=by rw[hl];omega
  have cA:=Lib.run_unsafeString_row (P:=P) w t u ty e hu h1 b Ca.size (by simp[World.shape?,hh]) (lN (es.take n.toNat)) (fun h=>by rw[h] at hl;simp at hl;omega) (by rw[hl];rw[h1] at hs;omega) (by rw[hl];unfold w6 at hm;omega) (fun j x hx=>by
   have hj:j<n.toNat:=by
    have:=(List.getElem?_eq_some_iff.1 hx).1
    rw[hl] at this;exact this
   have gA:j<es.length:=by omega
   simp only[lN,List.getElem?_map,List.getElem?_take_of_lt hj,List.getElem?_eq_getElem gA,Option.map_some,Option.some.injEq] at hx
   obtain ⟨v,u7,a9⟩:=cx j 0 es[j] e (List.getElem?_eq_getElem gA) (by simp[aM,mc]) (by omega)
   rw[h1] at u7
   simp only[bx,mc,cond_false] at a9
   have:=M5 he a9
   have hr:=List.all_eq_true.1 eF es[j] (List.mem_of_getElem? (by rw[List.getElem?_take_of_lt hj];exact List.getElem?_eq_getElem gA))
   simp only[F6,Bool.and_eq_true,decide_eq_true_eq] at hr
   have lY:(x.toNat:Int)=es[j].toInt:=by
    rw[←hx]
    have:es[j].toInt.toNat<256:=by omega
    simp only[UInt8.toNat_ofNat']
    omega
   rw[lW,cell?_cells hh,lY]
   rw[show 0+j=j*1+0 by omega,u7,this])
  obtain ⟨f1,f2,f3,f4,f5⟩:=Xf (w:=w) (b:=b) (n:=n.toNat)
  obtain ⟨k1,k2⟩:=BT (w':=w.freeze ⟨b,0,none⟩ n.toNat) S aa (by simp) (blk':= .dead) (by trivial) Hc (cu rfl) (by simp) f1 f2 f3 ⟨f4,f5⟩ (fun _=> .dead)
  rw[←G9,hl] at cA
  refine ⟨.string ⟨(lN (es.take n.toNat)).toArray⟩,_,I,β,?_,k1,k2,.str ?_⟩
  ·simpa using cA
  ·rfl
def Hd:Op→Bool
 | .call {callee:= .value (.func _),..}=>true
 | .call {callee:= .value (.tmp _),..}=>true
 | .defer _=>true
 | _=>false
theorem nR.val {o:Oper} {a:Act} {s:Sem Value} {r:R} (he:execOp a.eval o=(do Pure.pure (Next.value (←s)))) (h:cC P (s.run P w) w I β hp B M w0 r):nR P ((execOp a.eval o).run P w) w I β hp B M w0 r:=by
 rw[he];exact h.op
theorem Xj {A:ch} (S:aC P w I β hp B M w0) (hg:gb P A.aA w I) {a:Act} {sl:Nat→V} (hs:jJ P w I β hp a sl) {ix nb:Nat} {o:Oper} (He:Hd o.op=false) {r:R} {rd:List Nat}
  (h:(eZ P A sl ix nb o).run C hp=some (r,rd)):nR P ((execOp a.eval o).run P w) w I β hp B M w0 r:=by
 obtain ⟨dst,op,ty,pos,after,guard⟩:=o
 cases op<;>simp only[eZ] at h<;>first|(cases h;done)|skip
 case move x=>
  obtain rfl:=aH h
  exact ⟨_,w,I,β,.inl (by simp[execOp]),Le.refl w I β hp,S,hs.ev hg ty x⟩
 case assign x=>
  obtain rfl:=aH h
  exact ⟨_,w,I,β,.inl (by simp[execOp]),Le.refl w I β hp,S,hs.ev hg ty x⟩
 case pick c x y=>
  have hc:=hs.ev hg ty c
  cases sD:aI P A.aA ty sl c<;>rw[sD] at h hc<;>simp only at h<;>first|(cases h;done)|skip
  rename_i t
  have Xk:=hc.iN
  have hx:=hs.ev hg ty x
  have hy:=hs.ev hg ty y
  have fin: ∀z:V,ah P w I β hp (if t then a.eval x else a.eval y) z→nR P ((execOp a.eval ⟨dst,.pick c x y,ty,pos,after,guard⟩).run P w) w I β hp B M w0 ⟨z,[]⟩:=by
   intro z hz
   exact ⟨_,w,I,β,.inl (by simp[execOp,Xk,asBool]),Le.refl w I β hp,S,hz⟩
  cases Cv:gone (aI P A.aA ty sl x) with
  | true=>
   rw[Cv] at h
   obtain ⟨h1,h⟩:=aD h
   obtain rfl:=aH h
   have:t=false:=by simpa using h1
   subst this
   refine fin _ ?_
   simpa using hy
  | false=>
   rw[Cv] at h
   simp only[cond_false] at h
   cases M6:gone (aI P A.aA ty sl y) with
   | true=>
    rw[M6] at h
    obtain ⟨h1,h⟩:=aD h
    obtain rfl:=aH h
    subst h1
    refine fin _ ?_
    simpa using hx
   | false=>
    rw[M6] at h
    obtain rfl:=aH h
    exact fin _ (LR hx hy)
 case makeFunc fn x y=>
  cases fn<;>simp only[eZ] at h<;>first|(cases h;done)|skip
  rename_i f
  obtain rfl:=aH h
  refine ⟨.func (.func f) (x.map a.eval) (y.map a.eval),w,I,β,.inl (by simp[execOp,Instr.makeFunc]),Le.refl w I β hp,S,.fn (by simp) (fun j v z hj hz=> ?_) (by simp) (fun j v z hj hz=> ?_)⟩
  ·rw[Array.getElem?_map] at hj
   rw[List.getElem?_map,Array.getElem?_toList] at hz
   cases hx:x[j]? with
   | none=>rw[hx] at hj;cases hj
   | some o1=>
    rw[hx] at hj hz
    cases hj
    cases hz
    exact hs.ev hg ty o1
  ·rw[Array.getElem?_map] at hj
   rw[List.getElem?_map,Array.getElem?_toList] at hz
   cases hx:y[j]? with
   | none=>rw[hx] at hj;cases hj
   | some o1=>
    rw[hx] at hj hz
    cases hj
    cases hz
    exact hs.ev hg ty o1
 case defer c=>cases He
 case makeMap t res=>
  cases res with
  | some x=>cases h
  | none=>exact .val rfl (WW S h)
 case lookup t m k ok=>
  cases ht:j8 P t with
  | none=>rw[ht] at h;cases h
  | some q=>
   obtain ⟨kt,vt⟩:=q
   rw[ht] at h
   exact .val (s:=Instr.lookup t (a.eval m) (a.eval k) ok) rfl (WV S ht (hs.ev hg t m) (hs.ev hg kt k) h)
 case mapUpdate t m k x=>
  cases ht:j8 P t with
  | none=>rw[ht] at h;cases h
  | some q=>
   obtain ⟨kt,vt⟩:=q
   rw[ht] at h
   have:=MW S ht (hs.ev hg t m) (hs.ev hg kt k) (hs.ev hg vt x) h
   exact this.op
 case insert t m k x=>
  cases ht:j8 P t with
  | none=>rw[ht] at h;cases h
  | some q=>
   obtain ⟨kt,vt⟩:=q
   rw[ht] at h
   have:=MW S ht (hs.ev hg t m) (hs.ev hg kt k) (hs.ev hg vt x) h
   exact this.op
 case alloc e=>
  exact .val rfl (V5 S h)
 case box e x=>
  exact .val rfl (V6 S (hs.ev hg e x) h)
 case build t ps=>exact .val rfl (V8 S hs hg h)
 case buildSlice t len ps=>
  cases hu:P.underlying t with
  | none=>rw[hu] at h;cases h
  | some d=>
   rw[hu] at h
   cases d<;>simp only at h<;>first|(cases h;done)|skip
   exact .val rfl (Wf S hs hg hu h)
 case load t x=>exact .val rfl (VF S (hs.ev hg ty x) h)
 case store t x y=>
  have:=V1 S (hs.ev hg ty x) (hs.ev hg t y) h
  exact this.op
 case nilCheck x=>
  have hx:=hs.ev hg ty x
  cases eM:aI P A.aA ty sl x<;>rw[eM] at h hx<;>simp only at h<;>first|(cases h;done)|skip
  ·obtain ⟨⟨blk,aa,hd⟩,l,h⟩:=uO h
   obtain rfl:=aH h
   have cd:=hx
   obtain ⟨b,hb,he⟩:=hx.gg aa hd
   rw[he] at cd
   exact ⟨_,w,I,β,.inl (by simp only[execOp,he];rfl),Le.refl w I β hp,S,cd⟩
  ·obtain rfl:=aH h
   have cd:=hx
   obtain ⟨b,o,he,_⟩:=hx.BW
   rw[he] at cd
   exact ⟨_,w,I,β,.inl (by simp only[execOp,he];rfl),Le.refl w I β hp,S,cd⟩
  ·obtain ⟨e0,es,ai,l,aa,h1,h2,h3,h⟩:=mU h
   obtain rfl:=aH h
   have cd:=hx
   obtain ⟨b,o,he,_⟩:=hx.LP aa h1 h2 h3
   rw[he] at cd
   exact ⟨_,w,I,β,.inl (by simp only[execOp,he];rfl),Le.refl w I β hp,S,cd⟩
 case binOp op t x y yt=>
  have hx:=hs.ev hg t x
  have hy:=hs.ev hg t y
  refine .val (s:=do eqGuard op t x y (a.eval x) (a.eval y);binOp op t (a.eval x) (a.eval y)) rfl ?_
  cases eM:aI P A.aA t sl x<;>cases qZ:aI P A.aA t sl y<;>rw[eM,qZ] at h<;>rw[eM] at hx<;>rw[qZ] at hy<;>first|(simp only[jk] at h;cases h;done)|skip
  ·rw[hx.dK,hy.dK]
   have:=Vv S h
   simpa[Vs] using this
  ·rw[hx.iN,hy.iN]
   have:=Vx S h
   simpa[Vt] using this
  ·obtain ⟨s1,e1,l1⟩:=hx.kX
   obtain ⟨s2,e2,l2⟩:=hy.kX
   rw[e1,e2]
   rw[←l1,←l2] at h
   have:=Vy (t:=t) S h
   simpa[Vu] using this
  ·obtain ⟨cs,e1,h1,h2⟩:=hx.jL
   obtain ⟨ds,e2,h3,h4⟩:=hy.jL
   rw[e1,e2]
   exact Vz S h1 h3 h2 h4 h
  ·
   simp only[jk] at h
   obtain ⟨h1,h2⟩:=aD h
   clear h
   simp only[Bool.and_eq_true,Nat.beq_eq] at h1
   obtain ⟨rfl,rfl,rfl⟩:=h1
   obtain ⟨⟨blk,aa,hd⟩,l,h⟩:=uO h2
   obtain ⟨b,hb,e1⟩:=hx.gg aa hd
   obtain ⟨b',au,e2⟩:=hy.gg aa hd
   rw[hb] at au;cases au
   rw[e1,e2]
   exact Cu S h (by cases op<;>simp[eqGuard]) fun e j he hj=>⟨run_eql_ptr_same w _ he hj,Lib.run_neq_ptr_same w _ he hj⟩
  ·simp only[jk] at h
   obtain ⟨⟨blk,aa,hd⟩,l,h⟩:=uO h
   obtain ⟨b,_,e1⟩:=hx.gg aa hd
   rw[e1,hy.Ct]
   exact Cu S h (by cases op<;>simp[eqGuard]) fun e j he hj=>⟨W9 w t e _ he,Xa w t e _ he⟩
  ·simp only[jk] at h
   obtain ⟨⟨blk,aa,hd⟩,l,h⟩:=uO h
   obtain ⟨b,_,e1⟩:=hy.gg aa hd
   rw[e1,hx.Ct]
   exact Cu S h (by cases op<;>simp[eqGuard]) fun e j he hj=>⟨Xb w t e _ he,Xc w t e _ he⟩
  ·simp only[jk] at h
   rw[hx.Ct,hy.Ct]
   exact Cu S h (by cases op<;>simp[eqGuard]) fun e j he hj=>⟨Xd w t e he,Xe w t e he⟩
  ·
   simp only[jk] at h
   obtain ⟨l,h⟩:=run_get h
   split at h
   ·rename_i t2 es aa
    obtain ⟨b,hb⟩:=hx.W0 aa
    rw[hy.Ha,hb]
    exact MZ (a:=some b) S x y h
   ·cases h
  ·simp only[jk] at h
   rw[hx.Ha,hy.Ha]
   exact MZ (a:=none) S x y h
 case unOp op t x=>exact .val rfl (VA S (hs.ev hg ty x) h)
 case convert src dst x=>
  have hx:=hs.ev hg ty x
  refine .val (s:=convert src dst (a.eval x)) rfl ?_
  cases iM:P.underlying src with
  | none=>rw[iM] at h;cases h
  | some d1=>
   cases lh:P.underlying dst with
   | none=>rw[iM,lh] at h;cases d1<;>cases h
   | some d2=>
    rw[iM,lh] at h
    have fL: ∀{b:Nat} {T:TypeId} {cs:List V} {id:Nat},hp id=some (.var T cs)→β id=some b→w.shape? b=some (T,cs.length):=by
     intro b T cs id aa hb
     have hr:=S.h.rel id _ aa
     rw[hb] at hr
     cases hr with
     | var au hh aO _ _ _=>cases au;simp[World.shape?,hh,aO]
    cases d1<;>(try (cases d2<;>cases h;done))
    ·cases d2<;>(try (cases h;done))
     rename_i k1 k2
     cases eM:aI P A.aA ty sl x<;>rw[eM] at h hx<;>simp only at h<;>first|(cases h;done)|skip
     obtain rfl:=aH h
     rw[hx.dK]
     exact .same S (by simp[convert,run_underlying iM,run_underlying lh,Conv.intToInt]) .int
    ·cases d2<;>(try (cases h;done))
     rename_i u
     cases eM:aI P A.aA ty sl x<;>rw[eM] at h hx<;>simp only at h<;>first|(cases h;done)|skip
     rename_i id i c
     obtain ⟨l,h1⟩:=run_get h
     cases aa:hp id with
     | none=>rw[aa] at h1;cases h1
     | some blk=>
      rw[aa] at h1
      cases blk<;>simp only at h1<;>first|(cases h1;done)|skip
      rename_i T cs
      obtain ⟨h2,h3⟩:=aD h1
      simp only[Bool.and_eq_true,Nat.beq_eq] at h2
      obtain ⟨rfl,h4,h5⟩:=h2
      obtain ⟨b,hb,e1⟩:=hx.gg aa (by simp)
      obtain rfl:=aH h3
      obtain ⟨j,hj⟩:=Option.isSome_iff_exists.1 h4
      have cd:=hx
      rw[e1] at cd⊢
      exact .same S (Lib.run_from_unsafe w _ iM lh hj (fL aa hb) (by simpa using h5)) cd
    ·cases d2<;>(try (cases h;done))
     rename_i t
     cases eM:aI P A.aA ty sl x<;>rw[eM] at h hx<;>simp only at h<;>first|(cases h;done)|skip
     rename_i id i c
     obtain ⟨l,h1⟩:=run_get h
     cases aa:hp id with
     | none=>rw[aa] at h1;cases h1
     | some blk=>
      rw[aa] at h1
      cases blk<;>simp only at h1<;>first|(cases h1;done)|skip
      rename_i T cs
      obtain ⟨h2,h3⟩:=aD h1
      simp only[Bool.and_eq_true,Nat.beq_eq,Nat.blt_eq] at h2
      obtain ⟨rfl,h4,h5⟩:=h2
      obtain ⟨b,hb,e1⟩:=hx.gg aa (by simp)
      obtain rfl:=aH h3
      cases hj:P.info? t with
      | none=>rw[hj] at h5;cases h5
      | some j=>
       rw[hj] at h5
       simp only[Bool.not_eq_true'] at h5
       have h6:j.size≠0:=fun e=>by rw[e] at h5;cases h5
       have cd:=hx
       rw[e1] at cd⊢
       exact .same S (Lib.run_to_unsafe w _ iM lh hj h6 (fL aa hb) (by simpa using h4)) cd
    ·rename_i e
     cases d2<;>(try (cases h;done))
     simp only at h
     cases he:P.underlying e with
     | none=>rw[he] at h;cases h
     | some d3=>
      rw[he] at h
      cases d3<;>(try (cases h;done))
      rename_i k
      cases k<;>(try (cases h;done))
      exact W8 S iM he lh hx h
 case fieldAddr s x f=>exact .val rfl (VB S (hs.ev hg ty x) h)
 case field s x f=>exact .val rfl (Ww S (hs.ev hg ty x) h)
 case indexAddr t x y=>exact .val rfl (WG S (hs.ev hg ty x) (hs.ev hg 0 y) h)
 case index t x y=>
  have hx:=hs.ev hg ty x
  have hy:=hs.ev hg 0 y
  refine .val (s:=Instr.index t (a.eval x) (a.eval y)) rfl ?_
  cases hu:P.underlying t with
  | none=>rw[hu] at h;cases h
  | some d=>
   rw[hu] at h
   cases d<;>(try (cases h;done))
   cases eM:aI P A.aA ty sl x<;>rw[eM] at h hx<;>(try (cases h;done))
   cases qZ:aI P A.aA 0 sl y<;>rw[qZ] at h hy<;>(try (cases h;done))
   obtain ⟨s,e1,l1⟩:=hx.kX
   rw[e1,hy.dK]
   exact Wy S hu l1 h
 case slice t x lo hi mx=>
  cases mx with
  | some m=>
   simp only at h
   refine .val (s:=Instr.sliceAt t (a.eval x) (lo.map a.eval) (hi.map a.eval) (some (a.eval m))) (by simp[execOp]) (WD S (hs.ev hg ty x) (fun hy=> ?_) (fun y hy=> ?_) (fun y hy=> ?_) h)
   ·cases lo with
    | none=>rfl
    | some l=>cases hy
   ·cases hi with
    | none=>cases hy
    | some l=>cases hy;exact ⟨_,rfl,hs.ev hg 0 l⟩
   ·cases hy;exact ⟨_,rfl,hs.ev hg 0 m⟩
  | none=>
   simp only at h
   have plain:(Bz P t (aI P A.aA ty sl x) (lo.map (aI P A.aA 0 sl)) (hi.map (aI P A.aA 0 sl))).run C hp=some (r,rd)→nR P ((execOp a.eval ⟨dst,.slice t x lo hi none,ty,pos,after,guard⟩).run P w) w I β hp B M w0 r:=by
    intro h
    refine .val (s:=Instr.sliceAt t (a.eval x) (lo.map a.eval) (hi.map a.eval) none) (by simp[execOp]) (WC S (hs.ev hg ty x) (fun y hy=> ?_) (fun y hy=> ?_) (fun hy=> ?_) (fun hy=> ?_) h)
    ·cases lo with
     | none=>cases hy
     | some l=>cases hy;exact ⟨_,rfl,hs.ev hg 0 l⟩
    ·cases hi with
     | none=>cases hy
     | some l=>cases hy;exact ⟨_,rfl,hs.ev hg 0 l⟩
    ·cases lo with
     | none=>rfl
     | some l=>cases hy
    ·cases hi with
     | none=>rfl
     | some l=>cases hy
   have tr:(BA P nb t (aI P A.aA ty sl x) (lo.map (aI P A.aA 0 sl)) (hi.map (aI P A.aA 0 sl))).run C hp=some (r,rd)→nR P ((execOp a.eval ⟨dst,.slice t x lo hi none,ty,pos,after,guard⟩).run P w) w I β hp B M w0 r:=by
    intro h
    refine .val (s:=Instr.sliceAt t (a.eval x) (lo.map a.eval) (hi.map a.eval) none) (by simp[execOp]) (WJ S (hs.ev hg ty x) (fun y hy=> ?_) (fun hy=> ?_) h)
    ·cases hi with
     | none=>cases hy
     | some l=>cases hy;exact ⟨_,rfl,hs.ev hg 0 l⟩
    ·cases lo with
     | none=>rfl
     | some l=>cases hy
   cases dst with
   | none=>exact plain h
   | some d=>
    simp only at h
    cases Cw:jh A.uv d with
    | true=>rw[Cw] at h;exact tr h
    | false=>rw[Cw] at h;exact plain h
 case extract x i=>
  have hx:=hs.ev hg ty x
  cases eM:aI P A.aA ty sl x<;>rw[eM] at h hx<;>simp only at h<;>first|(cases h;done)|skip
  exact .val (s:=Instr.extract (a.eval x) i) rfl (Wx S hx h)
 case makeSlice t l c=>
  have hl:=hs.ev hg 0 l
  have hc:=hs.ev hg 0 c
  refine .val (s:=Instr.makeSlice t (a.eval l) (a.eval c)) rfl ?_
  cases hu:P.underlying t with
  | none=>rw[hu] at h;cases h
  | some d=>
   rw[hu] at h
   cases d<;>(try (cases h;done))
   cases Hf:aI P A.aA 0 sl l<;>rw[Hf] at h hl<;>(try (cases h;done))
   cases sD:aI P A.aA 0 sl c<;>rw[sD] at h hc<;>(try (cases h;done))
   rw[hl.dK,hc.dK]
   cases dst with
   | none=>exact Mw S hu h
   | some d=>
    simp only at h
    cases hg:jh A.uv d with
    | true=>rw[hg] at h;exact Wh S hu h
    | false=>rw[hg] at h;exact Mw S hu h
 case call c=>
  obtain ⟨callee,args,argTypes⟩:=c
  cases callee with
  | invoke r m=>cases h
  | value f=>
   cases f with
   | func f=>cases He
   | tmp f=>cases He
   | _=>cases h
  | builtin b=>
   have one: ∀{x:Operand},args.toList=[x]→args= #[x]:=fun h=>by rw[←Array.toArray_toList (xs:=args),h]
   have pr: ∀(s:Array TypeId→TypeId→Array Value→Sem Value),builtin b argTypes ty (args.map fun| .const _=>true|_=>false) (args.map a.eval)=(do Pure.pure (Next.value (←s argTypes ty (args.map a.eval))))→
     execOp a.eval ⟨dst,.call ⟨.builtin b,args,argTypes⟩,ty,pos,after,guard⟩=(do Pure.pure (Next.value (←s argTypes ty (args.map a.eval)))):=by
    intro s hb
    simp only[execOp,resolve,pure_bind,invoke]
    exact hb
   cases b<;>(try (cases h;done))
   case append=>
    simp only at h
    cases ha:args.toList with
    | nil=>rw[ha] at h;cases h
    | cons x l=>
     cases l with
     | nil=>rw[ha] at h;cases h
     | cons y l2=>
      cases l2 with
      | cons _ _=>rw[ha] at h;cases h
      | nil=>
       cases cN:argTypes.toList with
       | nil=>rw[ha,cN] at h;cases h
       | cons t l3=>
        cases l3 with
        | nil=>rw[ha,cN] at h;cases h
        | cons u l4=>
         cases l4 with
         | cons _ _=>rw[ha,cN] at h;cases h
         | nil=>
          rw[ha,cN] at h
          simp only at h
          have e1:args= #[x,y]:=by rw[←Array.toArray_toList (xs:=args),ha]
          have e2:argTypes= #[t,u]:=by rw[←Array.toArray_toList (xs:=argTypes),cN]
          cases hu:P.underlying t with
          | none=>rw[hu] at h;cases h
          | some d=>
           rw[hu] at h
           cases d<;>(try (cases h;done))
           cases hc:Nat.beq t u with
           | true=>
            rw[hc] at h
            rw[Nat.beq_eq] at hc
            subst hc
            have:=Wk (ty:=ty) S hu (hs.ev hg t x) (hs.ev hg t y) h
            refine .val (pr Builtin.append_ rfl) ?_
            rw[e1,e2]
            simpa using this
           | false=>
            rw[hc] at h
            simp only[cond_false] at h
            have hy:=hs.ev hg u y
            cases m9:P.underlying u with
            | none=>rw[m9] at h;cases h
            | some du=>
             rw[m9] at h
             cases du<;>(try (cases h;done))
             cases qZ:aI P A.aA u sl y<;>rw[qZ] at h hy<;>(try (cases h;done))
             simp only at h
             obtain ⟨hb,h⟩:=aD h
             obtain ⟨s1,q1,q2⟩:=hy.kX
             subst q2
             have:=W7 (ty:=ty) S hu m9 (Xg hb) (hs.ev hg t x) h
             refine .val (pr Builtin.append_ rfl) ?_
             rw[e1,e2]
             simpa[q1] using this
   case len=>
    simp only at h
    cases ha:args.toList with
    | nil=>rw[ha] at h;cases h
    | cons x l=>
     cases l with
     | cons _ _=>rw[ha] at h;cases h
     | nil=>
      cases cN:argTypes.toList with
      | nil=>rw[ha,cN] at h;cases h
      | cons t l3=>
       cases l3 with
       | cons _ _=>rw[ha,cN] at h;cases h
       | nil=>
        rw[ha,cN] at h
        simp only at h
        have e1:args= #[x]:=by rw[←Array.toArray_toList (xs:=args),ha]
        have e2:argTypes= #[t]:=by rw[←Array.toArray_toList (xs:=argTypes),cN]
        have hx:=hs.ev hg ty x
        refine .val (pr Builtin.len_ rfl) ?_
        rw[e1,e2]
        cases hu:P.underlying t with
        | none=>rw[hu] at h;cases h
        | some d=>
         rw[hu] at h
         cases d<;>(try (cases h;done))
         ·cases eM:aI P A.aA ty sl x<;>rw[eM] at h hx<;>(try (cases h;done))
          have:=LU (t:=t) (ty:=ty) S hx (fun l hl=>hu) (fun hn=>absurd rfl (hn _)) h
          simpa using this
         ·have h2:(∀l,aI P A.aA ty sl x≠ .str l)∧(Bu P (aI P A.aA ty sl x)).run C hp=some (r,rd):=by
           cases eM:aI P A.aA ty sl x<;>rw[eM] at h<;>first|(cases h;done)|exact ⟨fun l=>by simp,h⟩
          have:=LU (t:=t) (ty:=ty) S hx (fun l hl=>absurd hl (h2.1 l)) (fun _=>⟨_,hu⟩) h2.2
          simpa using this
         ·have h2:(By (aI P A.aA ty sl x)).run C hp=some (r,rd):=by
           cases eM:aI P A.aA ty sl x<;>rw[eM] at h<;>exact h
          have:=WZ (t:=t) (ty:=ty) S hu hx h2
          simpa using this
   case unsafeSliceData=>
    simp only at h
    cases ha:args.toList with
    | nil=>rw[ha] at h;cases h
    | cons x l=>
     cases l with
     | cons _ _=>rw[ha] at h;cases h
     | nil=>
      rw[ha] at h
      simp only at h
      have e1:args= #[x]:=by rw[←Array.toArray_toList (xs:=args),ha]
      have hx:=hs.ev hg ty x
      refine .val (pr Builtin.unsafeSliceData_ rfl) ?_
      rw[e1]
      cases eM:aI P A.aA ty sl x<;>rw[eM] at h hx<;>simp only at h<;>first|(cases h;done)|skip
      rename_i e id
      obtain ⟨l2,h1⟩:=run_get h
      cases aa:hp id with
      | none=>rw[aa] at h1;cases h1
      | some blk=>
       rw[aa] at h1
       cases blk<;>simp only at h1<;>first|(cases h1;done)|skip
       rename_i e' es fz
       obtain ⟨h2,h3⟩:=aD h1
       simp only[Bool.and_eq_true,Nat.beq_eq,Nat.blt_eq] at h2
       obtain ⟨rfl,h4⟩:=h2
       obtain rfl:=aH h3
       have:=Xh (ts:=argTypes) (ty:=ty) S hx aa h4
       simpa using this
   case unsafeString=>
    simp only at h
    cases ha:args.toList with
    | nil=>rw[ha] at h;cases h
    | cons x l=>
     cases l with
     | nil=>rw[ha] at h;cases h
     | cons y l2=>
      cases l2 with
      | cons _ _=>rw[ha] at h;cases h
      | nil=>
       cases cN:argTypes.toList with
       | nil=>rw[ha,cN] at h;cases h
       | cons t l3=>
        cases l3 with
        | nil=>rw[ha,cN] at h;cases h
        | cons u l4=>
         cases l4 with
         | cons _ _=>rw[ha,cN] at h;cases h
         | nil=>
          rw[ha,cN] at h
          simp only at h
          have e1:args= #[x,y]:=by rw[←Array.toArray_toList (xs:=args),ha]
          have e2:argTypes= #[t,u]:=by rw[←Array.toArray_toList (xs:=argTypes),cN]
          have hx:=hs.ev hg ty x
          have hy:=hs.ev hg ty y
          cases hu:P.underlying t with
          | none=>rw[hu] at h;cases h
          | some d=>
           rw[hu] at h
           cases d<;>(try (cases h;done))
           rename_i e
           cases eM:aI P A.aA ty sl x<;>rw[eM] at h hx<;>(try (cases h;done))
           cases qZ:aI P A.aA ty sl y<;>rw[qZ] at h hy<;>(try (cases h;done))
           rename_i id i c k n
           cases k<;>(try (cases h;done))
           simp only at h
           obtain ⟨l2,h1⟩:=run_get h
           cases aa:hp id with
           | none=>rw[aa] at h1;cases h1
           | some blk=>
            rw[aa] at h1
            cases blk<;>simp only at h1<;>first|(cases h1;done)|skip
            rename_i e' es fz
            cases fz<;>simp only at h1<;>first|(cases h1;done)|skip
            obtain ⟨h2,h3⟩:=aD h1
            simp only[Bool.and_eq_true,Nat.beq_eq,Nat.ble_eq,decide_eq_true_eq] at h2
            obtain ⟨rfl,h4,rfl,rfl,h5,h6,h7,h8⟩:=h2
            obtain rfl:=aH h3
            have:=Xi (u:=u) (ty:=ty) S hu h4 hx aa h5 h6 h7 h8
            refine .val (pr Builtin.unsafeString_ rfl) ?_
            rw[e1,e2]
            simpa[hy.dK] using this
   case copy=>
    simp only at h
    cases ha:args.toList with
    | nil=>rw[ha] at h;cases h
    | cons x l=>
     cases l with
     | nil=>rw[ha] at h;cases h
     | cons y l2=>
      cases l2 with
      | cons _ _=>rw[ha] at h;cases h
      | nil=>
       cases cN:argTypes.toList with
       | nil=>rw[ha,cN] at h;cases h
       | cons t l3=>
        cases l3 with
        | nil=>rw[ha,cN] at h;cases h
        | cons u l4=>
         cases l4 with
         | cons _ _=>rw[ha,cN] at h;cases h
         | nil=>
          rw[ha,cN] at h
          simp only at h
          have e1:args= #[x,y]:=by rw[←Array.toArray_toList (xs:=args),ha]
          have e2:argTypes= #[t,u]:=by rw[←Array.toArray_toList (xs:=argTypes),cN]
          cases hu:P.underlying t with
          | none=>rw[hu] at h;cases h
          | some d=>
           rw[hu] at h
           cases d<;>(try (cases h;done))
           have:=Wq (u:=u) (ty:=ty) S hu (hs.ev hg t x) (hs.ev hg u y) h
           refine .val (pr Builtin.copy_ rfl) ?_
           rw[e1,e2]
           simpa using this
   case clear=>
    simp only at h
    cases ha:args.toList with
    | nil=>rw[ha] at h;cases h
    | cons x l=>
     cases l with
     | cons _ _=>rw[ha] at h;cases h
     | nil=>
      cases cN:argTypes.toList with
      | nil=>rw[ha,cN] at h;cases h
      | cons t l3=>
       cases l3 with
       | cons _ _=>rw[ha,cN] at h;cases h
       | nil=>
        rw[ha,cN] at h
        simp only at h
        have e1:args= #[x]:=by rw[←Array.toArray_toList (xs:=args),ha]
        have e2:argTypes= #[t]:=by rw[←Array.toArray_toList (xs:=argTypes),cN]
        cases hu:P.underlying t with
        | none=>rw[hu] at h;cases h
        | some d=>
         rw[hu] at h
         cases d<;>(try (cases h;done))
         have:=Wr (ty:=ty) S hu (hs.ev hg t x) h
         refine .val (pr Builtin.clear_ rfl) ?_
         rw[e1,e2]
         simpa using this
   case max=>
    simp only at h
    cases ha:args.toList with
    | nil=>rw[ha] at h;cases h
    | cons x l=>
     rw[ha] at h
     simp only at h
     have:=GY S true (vs:=l.map a.eval) (xs:=l.map (aI P A.aA ty sl)) (hs.ev hg ty x) (by simp) (fun j u y hu hy=>by
      simp only[List.getElem?_map] at hu hy
      cases hl:l[j]? with
      | none=>rw[hl] at hu;cases hu
      | some z=>rw[hl] at hu hy;cases hu;cases hy;exact hs.ev hg ty z) h
     refine .val (pr Builtin.max_ rfl) ?_
     simpa[Builtin.max_,ha] using this
   case min=>
    simp only at h
    cases ha:args.toList with
    | nil=>rw[ha] at h;cases h
    | cons x l=>
     rw[ha] at h
     simp only at h
     have:=GY S false (vs:=l.map a.eval) (xs:=l.map (aI P A.aA ty sl)) (hs.ev hg ty x) (by simp) (fun j u y hu hy=>by
      simp only[List.getElem?_map] at hu hy
      cases hl:l[j]? with
      | none=>rw[hl] at hu;cases hu
      | some z=>rw[hl] at hu hy;cases hu;cases hy;exact hs.ev hg ty z) h
     refine .val (pr Builtin.min_ rfl) ?_
     simpa[Builtin.min_,ha] using this
end
section
variable {P:Program} {A:ch} {w w':World} {I I' I2:Nat→Prop} {μ β aj:Nat→Option Nat} {hp hp':Nat→Option ag} {C:ae} {B:Nat} {M:Nat→Prop} {w0:Start}
theorem vc: ∀{l m:List Nat},dN.mO l m=true→l=m
 | [],[],_=>rfl
 | [],_::_,h=>by cases h
 | _::_,[],h=>by cases h
 | a::l,b::m,h=>by
  simp only[dN.mO,Bool.and_eq_true,Nat.beq_eq] at h
  rw[h.1,vc h.2]
@[simp] theorem M7 (n:Nat):jF (dB n)=n:=by simp[jF,dB,V.toInt]
theorem Cx: ∀(path:List (Nat × Nat)) (rest:List V),xd (path.map (·.2)) ((path.map fun p=>dB p.1)++rest)=path
 | [],_=>rfl
 | p::l,rest=>by
  simp only[List.map_cons,List.cons_append,xd,V.nth,M7,List.drop_succ_cons,List.drop_zero,Cx l rest]
theorem Cy {l:LS} {x:V} {ds:List V} (h:dN l x=some ds):ds.length=l.size∧(l= .qy∨∀rest,gO l (ds++rest)=x):=by
 cases l with
 | qy=>simp only[dN,Option.some.injEq] at h;subst h;exact ⟨rfl,.inl rfl⟩
 | int k=>
  cases x<;>simp only[dN] at h<;>first|(cases h;done)|skip
  rename_i k' n
  by_cases hk:k=k'
  ·subst hk
   simp only[decide_true,cond_true,Option.some.injEq] at h
   subst h
   exact ⟨rfl,.inr fun _=>rfl⟩
  ·simp[hk] at h
 | bool=>
  cases x<;>simp only[dN] at h<;>first|(cases h;done)|skip
  cases h
  exact ⟨rfl,.inr fun _=>rfl⟩
 | str=>
  cases x<;>simp only[dN] at h<;>first|(cases h;done)|skip
  cases h
  exact ⟨rfl,.inr fun _=>rfl⟩
 | list e=>
  cases x<;>simp only[dN] at h<;>first|(cases h;done)|skip
  rename_i e' es
  cases hb:Nat.beq e e' with
  | false=>rw[hb] at h;cases h
  | true=>
   rw[hb] at h
   rw[Nat.beq_eq] at hb
   subst hb
   cases h
   exact ⟨rfl,.inr fun _=>rfl⟩
 | whole e j=>
  cases x<;>simp only[dN] at h<;>first|(cases h;done)|skip
  rename_i e' id
  cases hb:(Nat.beq e e'&&Nat.beq j id) with
  | false=>rw[hb] at h;cases h
  | true=>
   rw[hb] at h
   simp only[Bool.and_eq_true,Nat.beq_eq] at hb
   obtain ⟨rfl,rfl⟩:=hb
   cases h
   exact ⟨rfl,.inr fun _=>rfl⟩
 | sub e j=>
  cases x<;>simp only[dN] at h<;>first|(cases h;done)|skip
  rename_i e' id o n
  cases hb:(Nat.beq e e'&&Nat.beq j id) with
  | false=>rw[hb] at h;cases h
  | true=>
   rw[hb] at h
   simp only[Bool.and_eq_true,Nat.beq_eq] at hb
   obtain ⟨rfl,rfl⟩:=hb
   cases h
   exact ⟨rfl,.inr fun _=>by simp[gO,V.nth]⟩
 | ptr j=>
  cases x<;>simp only[dN] at h<;>first|(cases h;done)|skip
  rename_i id i c
  cases hb:(Nat.beq j id) with
  | false=>rw[hb] at h;cases h
  | true=>
   rw[hb] at h
   rw[Nat.beq_eq] at hb
   subst hb
   cases h
   exact ⟨rfl,.inr fun _=>by simp[gO,V.nth]⟩
 | dr j i c=>
  cases x<;>simp only[dN] at h<;>first|(cases h;done)|skip
  rename_i id i' c'
  cases hb:(Nat.beq j id&&(Nat.beq i i'&&Nat.beq c c')) with
  | false=>rw[hb] at h;cases h
  | true=>
   rw[hb] at h
   simp only[Bool.and_eq_true,Nat.beq_eq] at hb
   obtain ⟨rfl,rfl,rfl⟩:=hb
   cases h
   exact ⟨rfl,.inr fun _=>rfl⟩
 | nilS e=>
  cases x<;>simp only[dN] at h<;>first|(cases h;done)|skip
  rename_i e'
  cases hb:Nat.beq e e' with
  | false=>rw[hb] at h;cases h
  | true=>
   rw[hb] at h
   rw[Nat.beq_eq] at hb
   subst hb
   cases h
   exact ⟨rfl,.inr fun _=>rfl⟩
 | cP=>
  cases x<;>simp only[dN] at h<;>first|(cases h;done)|skip
  cases h
  exact ⟨rfl,.inr fun _=>rfl⟩
 | bG e j=>
  cases x<;>simp only[dN] at h<;>first|(cases h;done)|skip
  rename_i e' id
  cases hb:(Nat.beq e e'&&Nat.beq j id) with
  | false=>rw[hb] at h;cases h
  | true=>
   rw[hb] at h
   simp only[Bool.and_eq_true,Nat.beq_eq] at hb
   obtain ⟨rfl,rfl⟩:=hb
   cases h
   exact ⟨rfl,.inr fun _=>rfl⟩
 | cQ e=>
  cases x<;>simp only[dN] at h<;>first|(cases h;done)|skip
  rename_i e'
  cases hb:Nat.beq e e' with
  | false=>rw[hb] at h;cases h
  | true=>
   rw[hb] at h
   rw[Nat.beq_eq] at hb
   subst hb
   cases h
   exact ⟨rfl,.inr fun _=>rfl⟩
 | uu k n=>
  cases x<;>simp only[dN] at h<;>first|(cases h;done)|skip
  rename_i k' m
  cases hb:(decide (k=k')&&decide (m=n)) with
  | false=>rw[hb] at h;cases h
  | true=>
   rw[hb] at h
   simp only[Bool.and_eq_true,decide_eq_true_eq] at hb
   obtain ⟨rfl,rfl⟩:=hb
   cases h
   exact ⟨rfl,.inr fun _=>rfl⟩
 | row e j cs=>
  cases x<;>simp only[dN] at h<;>first|(cases h;done)|skip
  rename_i e' id ver path
  cases hb:(Nat.beq e e'&&(Nat.beq j id&&(Nat.beq ver 0&&dN.mO cs (path.map (·.2))))) with
  | false=>rw[hb] at h;cases h
  | true=>
   rw[hb] at h
   simp only[Bool.and_eq_true,Nat.beq_eq] at hb
   obtain ⟨rfl,rfl,rfl,mX⟩:=hb
   have:=vc mX
   subst this
   cases h
   exact ⟨by simp[LS.size],.inr fun rest=>by simp only[gO,Cx]⟩
 | cg j cs c=>
  cases x<;>simp only[dN] at h<;>first|(cases h;done)|skip
  rename_i id ver path i c'
  cases hb:(Nat.beq j id&&(Nat.beq ver 0&&(Nat.beq c c'&&dN.mO cs (path.map (·.2))))) with
  | false=>rw[hb] at h;cases h
  | true=>
   rw[hb] at h
   simp only[Bool.and_eq_true,Nat.beq_eq] at hb
   obtain ⟨rfl,rfl,rfl,mX⟩:=hb
   have:=vc mX
   subst this
   cases h
   exact ⟨by simp[LS.size],.inr fun rest=>by simp only[gO,List.cons_append,V.nth,M7,List.drop_succ_cons,List.drop_zero,Cx]⟩
def LS.below (n:Nat) (x:V):Prop:= ∀id∈dI x,id<n
def M8:V→Prop
 | .agg _=>False
 | .aQ _=>False
 | .fn .. =>False
 | .pref .. =>False
 | _=>True
theorem sL {c:Bool} {a d:List V} (h:(bif c then some a else none)=some d):c=true:=by
 cases c with
 | true=>rfl
 | false=>cases h
theorem Xl {l:LS} {x:V} {ds:List V} {n:Nat} (h:dN l x=some ds) (hl:l≠ .qy) (aq:l.ok n=true):M8 x∧LS.below n x:=by
 cases l<;>cases x<;>simp only[dN] at h<;>first|(cases h;done)|(exact absurd rfl hl)|skip
 all_goals refine ⟨trivial,fun id aa=> ?_⟩
 all_goals simp only[dI,List.mem_singleton,List.not_mem_nil] at aa
 all_goals subst aa
 all_goals simp only[LS.ok,Nat.blt_eq] at aq
 all_goals
  have hb:=sL h
  simp only[Bool.and_eq_true,Nat.beq_eq] at hb
  omega
theorem ah.Xm {v:Value} {x:V} (h:ah P w I β hp v x) (hx:M8 x) (hs: ∀id∈dI x,hp' id=hp id∧aj id=β id):ah P w I aj hp' v x:=by
 have one: ∀{id},id∈dI x→hp' id=hp id∧aj id=β id:=fun h=>hs _ h
 cases h with
 | undef=>exact .undef
 | int=>exact .int
 | bool=>exact .bool
 | str h=>exact .str h
 | list h=>exact .list h
 | nilS=>exact .nilS
 | agg=>exact hx.elim
 | aQ=>exact hx.elim
 | cP=>exact .cP
 | fn=>exact hx.elim
 | pref=>exact hx.elim
 | dD h=>exact .dD ((one (by simp[dI])).1.trans h)
 | fD h=>exact .fD ((one (by simp[dI])).1.trans h)
 | jq h=>exact .jq ((one (by simp[dI])).1.trans h)
 | dg h hb=>exact .dg ((one (by simp[dI])).1.trans h) ((one (by simp[dI])).2.trans hb)
 | whole h hb a b c=>exact .whole ((one (by simp[dI])).1.trans h) ((one (by simp[dI])).2.trans hb) a b c
 | dJ h hb a b c=>exact .dJ ((one (by simp[dI])).1.trans h) ((one (by simp[dI])).2.trans hb) a b c
 | fl h hb=>exact .fl ((one (by simp[dI])).1.trans h) ((one (by simp[dI])).2.trans hb)
 | sub h hb a b c=>exact .sub ((one (by simp[dI])).1.trans h) ((one (by simp[dI])).2.trans hb) a b c
 | ptr h hd hb=>exact .ptr ((one (by simp[dI])).1.trans h) hd ((one (by simp[dI])).2.trans hb)
 | iI h pk=>exact .iI ((one (by simp[dI])).1.trans h) pk
 | iJ h pk=>exact .iJ ((one (by simp[dI])).1.trans h) pk
 | row h hb a b c d=>exact .row ((one (by simp[dI])).1.trans h) ((one (by simp[dI])).2.trans hb) a b c d
 | cg h hb a b c d e=>exact .cg ((one (by simp[dI])).1.trans h) ((one (by simp[dI])).2.trans hb) a b c d e
 | cQ=>exact .cQ
 | gz h=>exact .gz ((one (by simp[dI])).1.trans h)
 | bG h hb=>exact .bG ((one (by simp[dI])).1.trans h) ((one (by simp[dI])).2.trans hb)
theorem me {a b:List V} {n:Nat} (h:a.length=n):(a++b).drop n=b:=by subst h;simp
def xZ (n:Nat) (β:Nat→Option Nat) (hp:Nat→Option ag) (aj:Nat→Option Nat) (hp':Nat→Option ag):Prop:= ∀id,id<n→hp' id=hp id∧aj id=β id
theorem M9 {l:LS} {x:V} {ds:List V} {n:Nat} {v:Value} (h:dN l x=some ds) (aq:l.ok n=true) (gX:xZ n β hp aj hp') (hv:ah P w I β hp v x) (rest:List V):
  ah P w I aj hp' v (gO l (ds++rest)):=by
 rcases (Cy h).2 with e|e
 ·subst e;exact .undef
 ·rw[e rest]
  by_cases hu:l= .qy
  ·subst hu
   have:x= .undef:=(e rest).symm
   subst this
   exact .undef
  ·obtain ⟨h1,h2⟩:=Xl h hu aq
   exact hv.Xm h1 fun id aa=>gX id (h2 id aa)
theorem ya {n:Nat} (gX:xZ n β hp aj hp'): ∀{ls:List LS} {xs:List V} {ds:List V},nL ls xs=some ds→ls.all (LS.ok n)=true→
  ds.length=jl ls∧(∀rest,(gp ls (ds++rest)).length=xs.length)∧
  ∀(rest:List V) (j:Nat) (v:Value) (y:V),(∀x,xs[j]? =some x→ah P w I β hp v x)→(gp ls (ds++rest))[j]? =some y→ah P w I aj hp' v y
 | [],[],ds,h,_=>by cases h;exact ⟨rfl,fun _=>rfl,fun rest j v y _ hy=>by simp[gp] at hy⟩
 | [],_::_,ds,h,_=>by cases h
 | _::_,[],ds,h,_=>by cases h
 | l::ls,x::xs,ds,h,aq=>by
  simp only[nL] at h
  obtain ⟨a,h1,h⟩:=bind_some h
  obtain ⟨b,h2,h⟩:=bind_some h
  cases h
  simp only[List.all_cons,Bool.and_eq_true] at aq
  obtain ⟨i1,i2,i3⟩:=ya gX h2 aq.2
  have bU:=(Cy h1).1
  have hd: ∀rest,(a++b++rest).drop l.size=b++rest:=fun rest=>by rw[List.append_assoc];exact me bU
  refine ⟨by simp only[List.length_append,jl];omega,fun rest=>by simp only[gp,List.length_cons,hd,i2],fun rest j v y hv hy=> ?_⟩
  simp only[gp,hd] at hy
  cases j with
  | zero=>
   simp at hy
   subst hy
   exact M9 h1 aq.1 gX (hv x rfl) _
  | succ j=>exact i3 rest j v y (fun x hx=>hv x (by simpa using hx)) (by simpa using hy)
theorem Hg: ∀{ls:List LS} {xs:List V} {ds:List V},nL ls xs=some ds→ls.all LS.plain=true→ds.length=jl ls∧∀rest,gp ls (ds++rest)=xs
 | [],[],ds,h,_=>by cases h;exact ⟨rfl,fun _=>rfl⟩
 | [],_::_,ds,h,_=>by cases h
 | _::_,[],ds,h,_=>by cases h
 | l::ls,x::xs,ds,h,aq=>by
  simp only[nL] at h
  obtain ⟨a,h1,h⟩:=bind_some h
  obtain ⟨b,h2,h⟩:=bind_some h
  cases h
  simp only[List.all_cons,Bool.and_eq_true] at aq
  obtain ⟨i1,i2⟩:=Hg h2 aq.2
  obtain ⟨bU,hm⟩:=Cy h1
  refine ⟨by simp only[List.length_append,jl];omega,fun rest=> ?_⟩
  simp only[gp]
  rw[show (a++b++rest).drop l.size=b++rest by rw[List.append_assoc];exact me bU,i2,List.append_assoc]
  rcases hm with e|e
  ·subst e;cases aq.1
  ·rw[e]
theorem Hh {n:Nat} (gX:xZ n β hp aj hp') {s:VS} {x:V} {ds:List V} (h:nM s x=some ds) (aq:s.ok n=true):
  ds.length=s.size∧∀(rest:List V) (v:Value),ah P w I β hp v x→ah P w I aj hp' v (jH s (ds++rest)):=by
 cases s with
 | one l=>exact ⟨(Cy h).1,fun rest v hv=>M9 h aq gX hv rest⟩
 | agg ls=>
  cases x<;>simp only[nM] at h<;>first|(cases h;done)|skip
  rename_i xs
  obtain ⟨i1,i2,i3⟩:=ya (P:=P) (w:=w) (I:=I) gX h aq
  refine ⟨i1,fun rest v hv=> ?_⟩
  obtain ⟨cs,rfl,e1,e2⟩:=hv.jL
  exact .agg (by rw[i2];exact e1) fun j v y hj hy=>i3 rest j v y (fun x hx=>e2 j v x hj hx) hy
 | aQ ls=>
  cases x<;>simp only[nM] at h<;>first|(cases h;done)|skip
  rename_i xs
  obtain ⟨i1,i2,i3⟩:=ya (P:=P) (w:=w) (I:=I) gX h aq
  refine ⟨i1,fun rest v hv=> ?_⟩
  obtain ⟨cs,rfl,e1,e2⟩:=hv.sr
  exact .aQ (by rw[i2];exact e1) fun j v y hj hy=>i3 rest j v y (fun x hx=>e2 j v x hj hx) hy
 | fn f a b=>
  cases x<;>simp only[nM] at h<;>first|(cases h;done)|skip
  rename_i f' xs ys
  cases hb:Nat.beq f f' with
  | false=>rw[hb] at h;cases h
  | true=>
   rw[hb] at h
   rw[Nat.beq_eq] at hb
   subst hb
   simp only[cond_true] at h
   obtain ⟨p,h1,h⟩:=bind_some h
   obtain ⟨q,h2,h⟩:=bind_some h
   cases h
   simp only[VS.ok,Bool.and_eq_true] at aq
   obtain ⟨i1,i2,i3⟩:=ya (P:=P) (w:=w) (I:=I) gX h1 aq.1
   obtain ⟨j1,j2,j3⟩:=ya (P:=P) (w:=w) (I:=I) gX h2 aq.2
   refine ⟨by simp only[List.length_append,VS.size];omega,fun rest v hv=> ?_⟩
   cases hv with
   | fn a1 a2 b1 b2=>
    simp only[jH]
    rw[show (p++q++rest).drop (jl a)=q++rest by rw[List.append_assoc];exact me i1,List.append_assoc]
    exact .fn (by rw[i2];exact a1) (fun j v y hj hy=>i3 _ j v y (fun x hx=>a2 j v x hj hx) hy) (by rw[j2];exact b1) (fun j v y hj hy=>j3 _ j v y (fun x hx=>b2 j v x hj hx) hy)
 | pref ts ls=>
  cases x<;>simp only[nM] at h<;>first|(cases h;done)|skip
  rename_i uB xs
  cases hb:dN.mO ts uB with
  | false=>rw[hb] at h;cases h
  | true=>
   rw[hb] at h
   have:=vc hb
   subst this
   simp only[cond_true] at h
   refine ⟨?_,fun rest v hv=> ?_⟩
   ·exact (Hg h aq).1
   ·simp only[jH]
    rw[(Hg h aq).2]
    cases hv with
    | pref hl hI hc=>exact .pref hl hI hc
theorem yb {n:Nat} (gX:xZ n β hp aj hp'): ∀{ls:List VS} {xs:List V} {ds:List V},qw ls xs=some ds→ls.all (VS.ok n)=true→
  ds.length=qI ls∧(∀rest,(eY ls (ds++rest)).length=xs.length)∧
  ∀(rest:List V) (j:Nat) (v:Value) (y:V),(∀x,xs[j]? =some x→ah P w I β hp v x)→(eY ls (ds++rest))[j]? =some y→ah P w I aj hp' v y
 | [],[],ds,h,_=>by cases h;exact ⟨rfl,fun _=>rfl,fun rest j v y _ hy=>by simp[eY] at hy⟩
 | [],_::_,ds,h,_=>by cases h
 | _::_,[],ds,h,_=>by cases h
 | l::ls,x::xs,ds,h,aq=>by
  simp only[qw] at h
  obtain ⟨a,h1,h⟩:=bind_some h
  obtain ⟨b,h2,h⟩:=bind_some h
  cases h
  simp only[List.all_cons,Bool.and_eq_true] at aq
  obtain ⟨i1,i2,i3⟩:=yb gX h2 aq.2
  obtain ⟨bU,u7⟩:=Hh (P:=P) (w:=w) (I:=I) gX h1 aq.1
  have hd: ∀rest,(a++b++rest).drop l.size=b++rest:=fun rest=>by rw[List.append_assoc];exact me bU
  refine ⟨by simp only[List.length_append,qI];omega,fun rest=>by simp only[eY,List.length_cons,hd,i2],fun rest j v y hv hy=> ?_⟩
  simp only[eY,hd] at hy
  cases j with
  | zero=>
   simp at hy
   subst hy
   exact u7 _ v (hv x rfl)
  | succ j=>exact i3 rest j v y (fun x hx=>hv x (by simpa using hx)) (by simpa using hy)
end
section
variable {P:Program} {A:ch} {w w':World} {I I' I2:Nat→Prop} {μ β aj:Nat→Option Nat} {hp hp' hp0:Nat→Option ag} {C:ae} {B:Nat} {M:Nat→Prop} {w0:Start}
theorem gi: ∀{l:List ag} {j:Nat},iH l j=l[j]?
 | [],j=>by simp[iH]
 | b::l,0=>rfl
 | b::l,j+1=>by simp only[iH,gi,List.getElem?_cons_succ]
theorem Hi {sl:Nat→V} {k:Nat} {y:V}: ∀{l:List (Nat × VS)} {ds:List V},xb sl l=some ds→(∀p∈l,∀d,nM p.2 (sl p.1)=some d→d.length=p.2.size)→
  ds.length=mP l∧∀rest,dd (eK l (ds++rest)) k=some y→∃s d fH,(k,s)∈l∧nM s (sl k)=some d∧y=jH s (d++fH)
 | [],ds,h,_=>by cases h;exact ⟨rfl,fun rest h=>by cases h⟩
 | (q,s)::l,ds,h,hz=>by
  simp only[xb] at h
  obtain ⟨a,h1,h⟩:=bind_some h
  obtain ⟨b,h2,h⟩:=bind_some h
  cases h
  obtain ⟨i1,i2⟩:=Hi (k:=k) (y:=y) h2 fun p hp=>hz p (List.mem_cons_of_mem _ hp)
  have bU:=hz (q,s) (List.mem_cons_self ..) a h1
  refine ⟨by simp only[List.length_append,mP];simp only at bU;omega,fun rest hl=> ?_⟩
  simp only[eK,dd] at hl
  rw[show (a++b++rest).drop s.size=b++rest by rw[List.append_assoc];exact me bU] at hl
  cases hb:Nat.beq k q with
  | true=>
   rw[hb] at hl
   rw[Nat.beq_eq] at hb
   subst hb
   cases hl
   exact ⟨s,a,b++rest,List.mem_cons_self ..,h1,by rw[List.append_assoc]⟩
  | false=>
   rw[hb] at hl
   obtain ⟨s',d,fH,m1,m2,m3⟩:=i2 rest hl
   exact ⟨s',d,fH,List.mem_cons_of_mem _ m1,m2,m3⟩
theorem Hj {α:Type} {c:Bool} {x:Option α} {a:α} (h:(bif c then x else none)=some a):c=true∧x=some a:=by
 cases c with
 | true=>exact ⟨rfl,h⟩
 | false=>cases h
theorem Xn {n:Nat} {b:BS} {o:Option ag} {ds:List V} (h:jG b o=some ds) (aq:b.ok n=true):ds.length=b.size:=by
 cases b with
 | dead=>cases o<;>(cases h;rfl)
 | var T0 ls=>
  cases o with
  | none=>cases h
  | some blk=>
   cases blk<;>simp only[jG] at h<;>first|(cases h;done)|skip
   exact (yb (P:=default) (w:=default) (I:=fun _=>False) (β:=fun _=>none) (hp:=fun _=>none) (fun _ _=>⟨rfl,rfl⟩) (Hj h).2 aq).1
 | arr e fz=>
  cases o with
  | none=>cases h
  | some blk=>
   cases blk<;>simp only[jG] at h<;>first|(cases h;done)|skip
   rw[sL h] at h
   cases h
   rfl
 | nest e=>
  cases o with
  | none=>cases h
  | some blk=>
   cases blk<;>simp only[jG] at h<;>first|(cases h;done)|skip
   rw[sL h] at h
   cases h
   rfl
 | map t=>
  cases o with
  | none=>cases h
  | some blk=>
   cases blk<;>simp only[jG] at h<;>first|(cases h;done)|skip
   rw[sL h] at h
   cases h
   rfl
theorem Na {n:Nat}: ∀{l:List BS} {j:Nat} {ds:List V},xc hp j l=some ds→l.all (BS.ok n)=true→
  (∀rest,(eb l (ds++rest)).length=l.length)∧∀(rest:List V) (i:Nat) (blk:ag),(eb l (ds++rest))[i]? =some blk→∃b d fH,l[i]? =some b∧b.ok n=true∧jG b (hp (j+i))=some d∧blk=fh b (d++fH)
 | [],j,ds,h,_=>by cases h;exact ⟨fun _=>rfl,fun rest i blk hb=>by simp[eb] at hb⟩
 | b::l,j,ds,h,aq=>by
  simp only[xc] at h
  obtain ⟨a,h1,h⟩:=bind_some h
  obtain ⟨c,h2,h⟩:=bind_some h
  cases h
  simp only[List.all_cons,Bool.and_eq_true] at aq
  obtain ⟨i1,i2⟩:=Na h2 aq.2
  have bU:=Xn h1 aq.1
  have hd: ∀rest,(a++c++rest).drop b.size=c++rest:=fun rest=>by rw[List.append_assoc];exact me bU
  refine ⟨fun rest=>by simp only[eb,List.length_cons,hd,i1],fun rest i blk hb=> ?_⟩
  simp only[eb,hd] at hb
  cases i with
  | zero=>
   simp at hb
   exact ⟨b,a,c++rest,rfl,aq.1,h1,by rw[←hb]⟩
  | succ i=>
   obtain ⟨b',d,fH,m1,m2,m3,m4⟩:=i2 rest i blk (by simpa using hb)
   exact ⟨b',d,fH,by simpa using m1,m2,by rw[show j+(i+1)=j+1+i by omega];exact m3,m4⟩
theorem Xo {n:Nat} {b:BS} {blk:ag} {ds rest:List V} (h:jG b (some blk)=some ds) (aq:b.ok n=true):
  blk.le (fh b (ds++rest))∧(fh b (ds++rest)= .dead∨fh b (ds++rest)=blk∨∃T ls cs,b= .var T ls∧blk= .var T cs∧qw ls cs=some ds∧fh b (ds++rest)= .var T (eY ls (ds++rest))):=by
 cases b with
 | dead=>exact ⟨by cases blk<;>trivial,.inl rfl⟩
 | var T0 ls=>
  cases blk<;>simp only[jG] at h<;>first|(cases h;done)|skip
  obtain ⟨hT,h0⟩:=Hj h
  clear h
  rw[Nat.beq_eq] at hT
  subst hT
  exact ⟨rfl,.inr (.inr ⟨_,_,_,rfl,rfl,h0,rfl⟩)⟩
 | arr e fz=>
  cases blk<;>simp only[jG] at h<;>first|(cases h;done)|skip
  rename_i e' es lO
  have hb:=sL h
  simp only[Bool.and_eq_true,Nat.beq_eq,beq_iff_eq] at hb
  obtain ⟨rfl,rfl⟩:=hb
  simp only[Nat.beq_refl,beq_self_eq_true,Bool.and_self,cond_true,Option.some.injEq] at h
  subst h
  exact ⟨⟨rfl,rfl⟩,.inr (.inl rfl)⟩
 | nest e=>
  cases blk<;>simp only[jG] at h<;>first|(cases h;done)|skip
  rename_i e' es ai
  have hb:=sL h
  simp only[Bool.and_eq_true,Nat.beq_eq] at hb
  obtain ⟨rfl,hv⟩:=hb
  have:=vc hv
  subst this
  simp only[Nat.beq_refl,Bool.true_and] at h
  cases h
  exact ⟨⟨rfl,rfl,rfl,fun _=>Nat.le_refl _⟩,.inr (.inl rfl)⟩
 | map t=>
  cases blk<;>simp only[jG] at h<;>first|(cases h;done)|skip
  rename_i t' es
  have hb:=sL h
  rw[Nat.beq_eq] at hb
  subst hb
  simp only[Nat.beq_refl,cond_true,Option.some.injEq] at h
  subst h
  exact ⟨rfl,.inr (.inl rfl)⟩
theorem Nb {m:Nat} {S:Shape} {st:St} {ds:List V} (h:gP m S st=some ds):
  S.ok=true∧m≤S.aP.length∧∃a b,xb st.sl S.bu=some a∧xc st.hp 0 S.aP=some b∧ds=a++b:=by
 unfold gP at h
 cases hc:(S.ok&&Nat.ble m S.aP.length) with
 | false=>rw[hc] at h;cases h
 | true=>
  rw[hc] at h
  simp only[cond_true] at h
  simp only[Bool.and_eq_true,Nat.ble_eq] at hc
  obtain ⟨a,h1,h⟩:=bind_some h
  obtain ⟨b,h2,h⟩:=bind_some h
  cases h
  exact ⟨hc.1,hc.2,a,b,h1,h2,rfl⟩
theorem reshape {m:Nat} {S:Shape} {st:St} {ds:List V} (h:gP m S st=some ds) (hS:aC P w I β st.hp B M w0):
  aC P w I β (aX S ds).hp B M w0∧(∀(k:Nat) (v:Value),ah P w I β st.hp v (st.sl k)→ah P w I β (aX S ds).hp v ((aX S ds).sl k))∧
  (∀(μ:Nat→Option Nat) (hp0:Nat→Option ag),(∀id blk,hp0 id=some blk→id<m)→Le P w0.w w0.I μ hp0 w I β st.hp→Le P w0.w w0.I μ hp0 w I β (aX S ds).hp)∧
  ∀j blk',(aX S ds).hp j=some blk'→blk'≠ .dead→∃blk,st.hp j=some blk∧blk.le blk'∧∀o b,bj P w o blk' b→bj P w o blk b:=by
 obtain ⟨aq,hm,a,b,h1,h2,rfl⟩:=Nb h
 unfold Shape.ok at aq
 rw[Bool.and_eq_true] at aq
 obtain ⟨Nc,G0⟩:=aq
 have aO: ∀p∈S.bu,∀d,nM p.2 (st.sl p.1)=some d→d.length=p.2.size:=fun p hp d hd=>
  (Hh (P:=P) (w:=w) (I:=I) (β:=β) (hp:=st.hp) (fun _ _=>⟨rfl,rfl⟩) hd (List.all_eq_true.1 Nc p hp)).1
 have bU:a.length=mP S.bu:=(Hi (k:=0) (y:= .undef) h1 aO).1
 have Cn:(aX S (a++b)).hp=iH (eb S.aP (b++[])):=by
  simp only[aX,mk,List.append_nil]
  rw[me bU]
 obtain ⟨bl,bg⟩:=Na h2 G0
 have get: ∀j blk',(aX S (a++b)).hp j=some blk'→j<S.aP.length∧∃bs d fH,bs.ok S.aP.length=true∧jG bs (st.hp j)=some d∧blk'=fh bs (d++fH):=by
  intro j blk' hj
  rw[Cn,gi] at hj
  obtain ⟨bs,d,fH,m1,m2,m3,m4⟩:=bg [] j blk' hj
  rw[Nat.zero_add] at m3
  exact ⟨(List.getElem?_eq_some_iff.1 m1).1,bs,d,fH,m2,m3,m4⟩
 have have': ∀j,j<S.aP.length→∃blk',(aX S (a++b)).hp j=some blk':=by
  intro j hj
  rw[Cn,gi]
  exact ⟨_,List.getElem?_eq_getElem (by rw[bl];exact hj)⟩
 generalize gd:(aX S (a++b)).hp=sM at*
 let a9:Nat→Option ag:=fun id=>if id<S.aP.length then sM id else st.hp id
 have back: ∀j blk',sM j=some blk'→blk'≠ .dead→∃blk,st.hp j=some blk∧blk.le blk'∧(blk'=blk∨∃T ls cs d fH,ls.all (VS.ok S.aP.length)=true∧blk= .var T cs∧qw ls cs=some d∧blk'= .var T (eY ls (d++fH))):=by
  intro j blk' hj hd
  obtain ⟨cz,bs,d,fH,m1,m2,m3⟩:=get j blk' hj
  cases bZ:st.hp j with
  | none=>
   rw[bZ] at m2
   cases bs<;>simp only[jG] at m2<;>first|(cases m2;done)|skip
   exact absurd m3 hd
  | some blk=>
   rw[bZ] at m2
   obtain ⟨n1,n2⟩:=Xo (rest:=fH) m2 m1
   rw[←m3] at n1 n2
   refine ⟨blk,rfl,n1,?_⟩
   rcases n2 with e|e|⟨T,ls,cs,e1,e2,e3,e4⟩
   ·exact absurd e hd
   ·exact .inl e
   ·subst e1
    exact .inr ⟨T,ls,cs,d,fH,m1,e2,e3,e4⟩
 have Xp: ∀j blk,st.hp j=some blk→j<S.aP.length→∃blk',sM j=some blk'∧blk.le blk':=by
  intro j blk hj cz
  obtain ⟨blk',au⟩:=have' j cz
  refine ⟨blk',au,?_⟩
  by_cases hd:blk'= .dead
  ·subst hd;cases blk<;>trivial
  ·obtain ⟨bK,e1,e2,_⟩:=back j blk' au hd
   rw[hj] at e1;cases e1
   exact e2
 have Xq: ∀j e es ai e' aG vers',st.hp j=some (.nest e es ai)→sM j=some (.nest e' aG vers')→e'=e∧aG=es∧vers'=ai:=by
  intro j e es ai e' aG vers' hj fP
  obtain ⟨blk,e1,_,e3⟩:=back j _ fP (by simp)
  rw[hj] at e1;cases e1
  rcases e3 with e3|⟨_,_,_,_,_,_,e3,_⟩
  ·cases e3;exact ⟨rfl,rfl,rfl⟩
  ·cases e3
 have hle:Le P w I β st.hp w I β a9:=by
  refine ⟨fun _ h=>h,fun _ _=>rfl,fun id blk aa=> ?_,fun _ _ _ _ _ _ _ _=>rfl,Le.qP (fun _ _ _ _ _ _=>rfl) fun id e es ai e' aG vers' aa br=> ?_⟩
  ·by_cases hl:id<S.aP.length
   ·obtain ⟨blk',e1,e2⟩:=Xp id blk aa hl
    exact ⟨blk',by simp only[a9,if_pos hl];exact e1,e2,fun _=>rfl⟩
   ·exact ⟨blk,by simp only[a9,if_neg hl];exact aa,ag.le_refl _,fun _=>rfl⟩
  ·by_cases hl:id<S.aP.length
   ·simp only[a9,if_pos hl] at br
    exact Xq _ _ _ _ _ _ _ aa br
   ·simp only[a9,if_neg hl] at br
    rw[aa] at br;cases br
    exact ⟨rfl,rfl,rfl⟩
 have gX:xZ S.aP.length β a9 β sM:=fun id aa=>⟨by simp only[a9,if_pos aa],rfl⟩
 have uY: ∀j blk' blk o b,sM j=some blk'→st.hp j=some blk→bj P w o blk' b→bj P w o blk b:=by
  intro j blk' blk o b fP hj ho
  obtain ⟨bK,e1,_,e3⟩:=back j blk' fP ho.alive
  rw[hj] at e1;cases e1
  rcases e3 with e3|⟨T,ls,cs,d,fH,_,e3,_,e5⟩
  ·subst e3;exact ho
  ·subst e3;subst e5
   exact .root (by simp) (ho.flat (by simp))
 refine ⟨⟨⟨fun j blk' hj=> ?_,fun j1 j2 b1 b2 b' e1 e2 o1 o2=> ?_,fun j blk b' hj ho=> ?_,hS.h.iK⟩,hS.bR,hS.size,hS.new,hS.io⟩,fun k v hv=> ?_,fun μ hp0 aK hE=> ?_,fun j blk' hj hd=> ?_⟩
 ·by_cases hd:blk'= .dead
  ·subst hd;exact .dead
  ·obtain ⟨blk,e1,_,e3⟩:=back j blk' hj hd
   have hr:=hS.h.rel j blk e1
   generalize β j=o at hr
   rcases e3 with e3|⟨T0,ls,cs,d,fH,q1,e3,e4,e5⟩
   ·subst e3
    cases hr with
    | @var xs b' Ca T hb hh hs cu hx fF=>
     obtain ⟨cz,bs,d,fH,m1,m2,m3⟩:=get j _ hj
     rw[e1] at m2
     cases bs<;>simp only[jG] at m2<;>first|(cases m2;done)|skip
     ·rename_i T0 ls
      simp only[fh] at m3
      obtain ⟨hT,m2⟩:=Hj m2
      obtain ⟨i1,i2,i3⟩:=yb (P:=P) (w:=w) (I:=I) gX m2 m1
      injection m3 with m4 m3
      rw[m3]
      exact .var hb hh (by rw[i2];exact hs) cu (fun i v y hi hy=>i3 fH i v y (fun x cd=>(hx i v x hi cd).mono hle) hy) fF
     ·simp only[fh] at m3
      cases m3
    | dh hb=>exact .dh hb
    | arr a1 a2 a3 a4 a5 a6 a7=>exact .arr a1 a2 a3 a4 a5 a6 a7
    | dead=>exact absurd rfl hd
    | nest a1 a2 a3=>exact .nest a1 a2 a3
    | map a1 a2 a3 a4 a5 a6 a7=>exact .map a1 a2 a3 a4 a5 a6 a7
   ·subst e3
    subst e5
    cases hr with
    | @var xs b' Ca T hb hh hs cu hx fF=>
     obtain ⟨i1,i2,i3⟩:=yb (P:=P) (w:=w) (I:=I) gX e4 q1
     exact .var hb hh (by rw[i2];exact hs) cu (fun i v y hi hy=>i3 fH i v y (fun x cd=>(hx i v x hi cd).mono hle) hy) fF
 ·obtain ⟨c1,x1,_,_⟩:=back j1 b1 e1 o1.alive
  obtain ⟨c2,x2,_,_⟩:=back j2 b2 e2 o2.alive
  exact hS.h.inj j1 j2 c1 c2 b' x1 x2 (uY _ _ _ _ _ e1 x1 o1) (uY _ _ _ _ _ e2 x2 o2)
 ·obtain ⟨c1,x1,_,_⟩:=back j blk hj ho.alive
  exact hS.h.own j c1 b' x1 (uY _ _ _ _ _ hj x1 ho)
 ·change ah P w I β sM v (ik (eK S.bu (a++b)) k)
  unfold ik
  cases Hk:dd (eK S.bu (a++b)) k with
  | none=>exact .undef
  | some y=>
   obtain ⟨s,d,fH,n1,n2,n3⟩:=(Hi h1 aO).2 b Hk
   simp only[Option.getD_some,n3]
   exact (Hh (P:=P) (w:=w) (I:=I) gX n2 (List.all_eq_true.1 Nc _ n1)).2 fH v (hv.mono hle)
 ·have h3:=hE.trans hle
  refine ⟨h3.cM,h3.bR,fun id blk aa=> ?_,fun id blk blk' b' aa br hd hb=> ?_,fun id e es ai e' aG vers' b2 q i c t v e1 l aa br=> ?_⟩
  ·have hl:=aK id blk aa
   obtain ⟨blk',k1,k2,k3⟩:=h3.blk id blk aa
   simp only[a9,if_pos (show id<S.aP.length by omega)] at k1
   exact ⟨blk',k1,k2,k3⟩
  ·have hl:=aK id blk aa
   exact h3.size id blk blk' b' aa (by simp only[a9,if_pos (show id<S.aP.length by omega)];exact br) hd hb
  ·have hl:=aK id _ aa
   exact h3.row id e es ai e' aG vers' b2 q i c t v e1 l aa (by simp only[a9,if_pos (show id<S.aP.length by omega)];exact br)
 ·obtain ⟨blk,e1,e2,_⟩:=back j blk' hj hd
  exact ⟨blk,e1,e2,fun o b' ho=>uY _ _ _ _ _ hj e1 ho⟩
end
section
variable {P:Program} {A:ch} {w w':World} {I I' I2:Nat→Prop} {μ β aj:Nat→Option Nat} {hp hp' hp0:Nat→Option ag} {C:ae} {B:Nat} {M:Nat→Prop} {w0:Start}
inductive dw (P:Program) (w:World) (β:Nat→Option Nat) (hp:Nat→Option ag):Place→Option Nat→ag→Prop
 | var {id:Nat} {T:TypeId} {cs Hl:List V}:hp id=some (.var T cs)→dw P w β hp (.blk id) (β id) (.var T Hl)
 | arr {id:Nat} {e:TypeId} {es:List V}:hp id=some (.arr e es false)→dw P w β hp (.blk id) (β id) (.arr e es false)
 | nest {id:Nat} {e:TypeId} {es:List V} {ai:List Nat}:hp id=some (.nest e es ai)→dw P w β hp (.blk id) (β id) (.nest e es [0,0,0])
 | row {id ver b b':Nat} {path:Path} {e0 e':TypeId} {es l:List V} {ai:List Nat}:hp id=some (.nest e0 es ai)→β id=some b→At P w b e0 es path b' e' l→w9 P e'=true→
   0<path.length→path.length≤ai.length→bq ai (path.length-1)=ver→0<l.length→dw P w β hp (.row id ver path) (some b') (.arr e' l false)
 | map {id:Nat} {t:TypeId} {es:List V}:hp id=some (.map t es)→dw P w β hp (.blk id) (β id) (.map t es)
def yc (P:Program) (w:World) (β:Nat→Option Nat) (hp:Nat→Option ag) (ρ:List Place) (μ:Nat→Option Nat) (hp0:Nat→Option ag):Prop:=
 ∀j p,dC ρ j=some p→∃blk,hp0 j=some blk∧dw P w β hp p (μ j) blk
theorem na: ∀{l m:List Place} {j:Nat} {p:Place},dC l j=some p→dC (l++m) j=some p
 | [],m,j,p,h=>by cases h
 | a::l,m,0,p,h=>h
 | a::l,m,j+1,p,h=>na (l:=l) h
theorem ko: ∀{l:List Place} {j:Nat},dC l j=l[j]?
 | [],j=>by simp[dC]
 | a::l,0=>rfl
 | a::l,j+1=>by simp only[dC,ko,List.getElem?_cons_succ]
structure Ext (P:Program) (w:World) (I:Nat→Prop) (β:Nat→Option Nat) (hp:Nat→Option ag) (h h':Hand) (d:List V) (u:List (Nat × ag)):Prop where
 ds:h'.ds=h.ds++d
 upd:h'.upd=h.upd++u
 Cz: ∀q∈u,xw hp q
 pl: ∃m,h'.pl=h.pl++m
 nodup:(h.pl.map Place.id).Nodup→(h'.pl.map Place.id).Nodup
theorem Ext.refl (h:Hand):Ext P w I β hp h h [] []:=⟨by simp,by simp,by simp,⟨[],by simp⟩,id⟩
theorem Ext.trans {h1 h2 h3:Hand} {d1 d2:List V} {u1 u2:List (Nat × ag)} (a:Ext P w I β hp h1 h2 d1 u1) (b:Ext P w I β hp h2 h3 d2 u2):Ext P w I β hp h1 h3 (d1++d2) (u1++u2):=by
 obtain ⟨m1,e1⟩:=a.pl
 obtain ⟨m2,e2⟩:=b.pl
 exact ⟨by rw[b.ds,a.ds,List.append_assoc],by rw[b.upd,a.upd,List.append_assoc],fun q hq=>(List.mem_append.1 hq).elim (a.Cz q) (b.Cz q),⟨m1++m2,by rw[e2,e1,List.append_assoc]⟩,fun h=>b.nodup (a.nodup h)⟩
theorem Ext.look {h h':Hand} {d:List V} {u:List (Nat × ag)} (a:Ext P w I β hp h h' d u) {j:Nat} {p:Place} (hj:dC h.pl j=some p):dC h'.pl j=some p:=by
 obtain ⟨m,e⟩:=a.pl
 rw[e]
 exact na hj
theorem Ext.leaf (h:Hand) (x:V):Ext P w I β hp h {h with ds:=h.ds++[x]} [x] []:=⟨rfl,by simp,by simp,⟨[],by simp⟩,id⟩
theorem Xr {α:Type} {ρ:List Place} {j:Nat} {p:Place} {k:List Place→Rd α} {r:α} {rd:List Nat} (h:(unify ρ j p k).run C hp=some (r,rd)) (hb: ∃id,p= .blk id∨∃ver path,p= .row id ver path):
  ∃iQ,(k iQ).run C hp=some (r,rd)∧(∃m,iQ=ρ++m)∧dC iQ j=some p∧((ρ.map Place.id).Nodup→(iQ.map Place.id).Nodup):=by
 unfold unify at h
 cases hc:Nat.blt j ρ.length with
 | true=>
  rw[hc] at h
  obtain ⟨h1,h2⟩:=aD h
  refine ⟨ρ,h2,⟨[],by simp⟩,?_,id⟩
  unfold LF at h1
  split at h1
  ·rename_i a b he
   rw[Nat.beq_eq] at h1
   subst h1
   exact he
  ·cases h1
 | false=>
  rw[hc] at h
  obtain ⟨h1,h2⟩:=aD h
  simp only[Bool.and_eq_true,Nat.beq_eq,Bool.not_eq_true'] at h1
  obtain ⟨rfl,h3⟩:=h1
  refine ⟨ρ++[p],h2,⟨[p],rfl⟩,?_,fun hn=> ?_⟩
  ·rw[ko];simp
  ·rw[List.map_append,List.nodup_append]
   refine ⟨hn,by simp,fun a ha b hb=> ?_⟩
   simp only[List.map_cons,List.map_nil,List.mem_singleton] at hb
   subst hb
   intro e
   subst e
   rw[uT ha] at h3
   cases h3
theorem sN {α:Type} {h:Hand} {j:Nat} {p:Place} {k:List Place→Rd α} {r:α} {rd:List Nat} (hr:(unify h.pl j p k).run C hp=some (r,rd)) (ds:List V):
  ∃iQ,(k iQ).run C hp=some (r,rd)∧dC iQ j=some p∧Ext P w I β hp h {h with pl:=iQ,ds:=h.ds++ds} ds []:=by
 obtain ⟨iQ,a,b,c,d⟩:=Xr hr (by cases p with|blk id=>exact ⟨id,.inl rfl⟩|row id ver path=>exact ⟨id,.inr ⟨ver,path,rfl⟩⟩)
 exact ⟨iQ,a,c,⟨rfl,by simp,by simp,b,d⟩⟩
theorem Xs {o:Option Nat} {blk:ag} {e:TypeId} {id j:Nat} {v:Value} (hv:ah P w I β hp v (.whole e id)) (hl:dw P w β hp (.blk id) o blk) (hj:hp0 j=some blk) (iR:μ j=o):ah P w I' μ hp0 v (.whole e j):=by
 cases hl with
 | var h=>
  cases hv with
  | dD h2=>rw[h] at h2;cases h2
  | dg h2=>rw[h] at h2;cases h2
  | whole h2=>rw[h] at h2;cases h2
  | dJ h2=>rw[h] at h2;cases h2
 | arr h=>
  cases hv with
  | dD h2=>rw[h] at h2;cases h2
  | dg h2 hb=>rw[h] at h2;cases h2;exact .dg hj (iR.trans hb)
  | whole h2 hb a b c=>rw[h] at h2;cases h2;exact .whole hj (iR.trans hb) a b c
  | dJ h2=>rw[h] at h2;cases h2
 | nest h=>
  cases hv with
  | dD h2=>rw[h] at h2;cases h2
  | dg h2=>rw[h] at h2;cases h2
  | whole h2=>rw[h] at h2;cases h2
  | dJ h2 hb a b c=>rw[h] at h2;cases h2;exact .dJ hj (iR.trans hb) a b c
 | map h=>
  cases hv with
  | dD h2=>rw[h] at h2;cases h2
  | dg h2=>rw[h] at h2;cases h2
  | whole h2=>rw[h] at h2;cases h2
  | dJ h2=>rw[h] at h2;cases h2
theorem Xt {o:Option Nat} {blk:ag} {t:TypeId} {id j:Nat} {v:Value} (hv:ah P w I β hp v (.bG t id)) (hl:dw P w β hp (.blk id) o blk) (hj:hp0 j=some blk) (iR:μ j=o):ah P w I' μ hp0 v (.bG t j):=by
 cases hv with
 | gz h2=>cases hl<;>(rename_i h;rw[h] at h2;cases h2)
 | bG h2 hb=>
  cases hl<;>(rename_i h;rw[h] at h2;cases h2)
  exact .bG hj (iR.trans hb)
theorem Xu {o:Option Nat} {blk:ag} {e:TypeId} {id off n j:Nat} {v:Value} (hv:ah P w I β hp v (.sub e id off n)) (hl:dw P w β hp (.blk id) o blk) (hj:hp0 j=some blk) (iR:μ j=o):ah P w I' μ hp0 v (.sub e j off n):=by
 cases hl with
 | var h=>
  cases hv with
  | fD h2=>rw[h] at h2;cases h2
  | fl h2=>rw[h] at h2;cases h2
  | sub h2=>rw[h] at h2;cases h2
 | arr h=>
  cases hv with
  | fD h2=>rw[h] at h2;cases h2
  | fl h2 hb=>rw[h] at h2;cases h2;exact .fl hj (iR.trans hb)
  | sub h2 hb a b c=>rw[h] at h2;cases h2;exact .sub hj (iR.trans hb) a b c
 | nest h=>
  cases hv with
  | fD h2=>rw[h] at h2;cases h2
  | fl h2=>rw[h] at h2;cases h2
  | sub h2=>rw[h] at h2;cases h2
 | map h=>
  cases hv with
  | fD h2=>rw[h] at h2;cases h2
  | fl h2=>rw[h] at h2;cases h2
  | sub h2=>rw[h] at h2;cases h2
theorem Nd {o:Option Nat} {blk:ag} {id i c j:Nat} {v:Value} (hv:ah P w I β hp v (.ptr id i c)) (hl:dw P w β hp (.blk id) o blk) (hj:hp0 j=some blk) (iR:μ j=o):ah P w I' μ hp0 v (.ptr j i c):=by
 cases hl with
 | @var _ T0 cs Hl h=>
  obtain ⟨b,hb,rfl⟩:=hv.gg h (by simp)
  exact ah.ptr (blk:= .var T0 Hl) hj (by simp) (iR.trans hb)
 | @arr _ e es h=>
  obtain ⟨b,hb,rfl⟩:=hv.gg h (by simp)
  exact ah.ptr (blk:= .arr e es false) hj (by simp) (iR.trans hb)
 | @nest _ e es ai h=>
  obtain ⟨b,hb,rfl⟩:=hv.gg h (by simp)
  exact ah.ptr (blk:= .nest e es [0,0,0]) hj (by simp) (iR.trans hb)
 | @map _ t es h=>
  obtain ⟨b,hb,rfl⟩:=hv.gg h (by simp)
  exact ah.ptr (blk:= .map t es) hj (by simp) (iR.trans hb)
theorem Xv (cj: ∀id blk,hp id=some blk→dt P w I β hp (β id) blk) {id b i c:Nat} {e0 t:TypeId} {es l:List V} {ai:List Nat} {q:Path} {e:TypeId} {v:Value} (aa:hp id=some (.nest e0 es ai)) (hb:β id=some b)
  (ht:P.underlying t=some (.slice e)) (hc:kS P w b e0 es q i c t v (.list e l)) (hl:0<l.length): ∃b1 cap,v= .slice (some ⟨b1,0,none⟩) l.length cap∧cap*P.cellsOf e=bsize w b1∧l.length≤cap∧cap≤maxLen∧At P w b e0 es (q++[(i,c)]) b1 e l:=by
 obtain ⟨b2,e1,m,Ca,T,f,x,n1,n2,n3,n4,n5,n6⟩:=hc
 have hr:=cj _ _ aa
 cases hr with
 | nest au hr hn=>
  rw[hb] at au;cases au
  have hR:=hr _ _ _ _ n1
  obtain ⟨xA,c1,c2,c3⟩:=hR.cells
  rw[n2] at c1
  cases c1
  have sm:c<P.cellsOf e1:=by rw[←e7 hR.ok];exact (List.getElem?_eq_some_iff.1 n4).1
  obtain ⟨v',d1,d2⟩:=c3 i c x t n3 n4 sm
  rw[n6] at d1
  cases d1
  rw[n5] at d2
  generalize hy:V.list e l=y at d2
  cases d2 with
  | fk a p=>unfold fg at a;rw[ht] at a;cases a
  | emp hu ha=>cases hy;simp at hl
  | row hu kU aO bQ mV=>
   cases hy
   exact ⟨_,_,rfl,aO,bQ,mV,n1.snoc n2 n3 n4 ht n5 kU n6⟩
theorem Xw (S:aC P w I β hp B M w0) {o:Option Nat} {blk:ag} {e:TypeId} {id ver j:Nat} {path:Path} {v:Value} (hv:ah P w I β hp v (.row e id ver path)) (hl:dw P w β hp (.row id ver path) o blk) (hj:hp0 j=some blk) (iR:μ j=o):ah P w I' μ hp0 v (.whole e j):=by
 cases hl with
 | row h hb ha hf h1 h2 h3 h4=>
  obtain ⟨b2,q,i,c,t,l2,rfl,gT,ht,hc⟩:=hv.LN h h1 h2 h3
  rw[hb] at gT;cases gT
  obtain ⟨p1,p2⟩:=Gm ha
  have iL:=hc
  obtain ⟨b3,e3,m3,Ca,T,f,x,n1,n2,n3,n4,n5,n6⟩:=iL
  obtain ⟨q1,q2⟩:=BO n1 n3 n4 ht n5
  rw[p1] at q1
  rw[p2] at q2
  cases q1
  cases q2
  obtain ⟨b1,cap,rfl,m1,m2,m4,m5⟩:=Xv S.h.rel h hb ht hc h4
  have:=Xx ha m5
  subst this
  exact .whole hj iR m1 m2 m4
where
 Xx {b b1 b2:Nat} {e e1 e2:TypeId} {es l l2:List V} {q:Path} (h:At P w b e es q b1 e1 l) (h2:At P w b e es q b2 e2 l2):b2=b1:=(h.fun h2).1
theorem Ng (S:aC P w I β hp B M w0) {α:Type} {l:LS} {x:V} {h:Hand} {k:Hand→Rd α} {r:α} {rd:List Nat} {v:Value} (hr:(BC P l x h k).run C hp=some (r,rd)) (hv:ah P w I β hp v x):
  ∃h' eu d u,(k h').run C hp=some (r,eu)∧Ext P w I β hp h h' d u∧d.length=l.size∧
   ∀(I':Nat→Prop) (μ:Nat→Option Nat) (hp0:Nat→Option ag),(∀b,I b→I' b)→(∀q∈u,∀b,qQ P w β hp q.1 b→I' b)→∀ρ m,ρ=h'.pl++m→yc P w β hp ρ μ hp0→∀rest,ah P w I' μ hp0 v (gO l (d++rest)):=by
 have plain: ∀{x':V} {iv:List Nat},(k {h with ds:=h.ds++[x']}).run C hp=some (r,iv)→l.size=1→(∀I' μ hp0 rest,ah P w I' μ hp0 v (gO l ([x']++rest)))→∃h' eu d u,(k h').run C hp=some (r,eu)∧Ext P w I β hp h h' d u∧d.length=l.size∧
   ∀(I':Nat→Prop) (μ:Nat→Option Nat) (hp0:Nat→Option ag),(∀b,I b→I' b)→(∀q∈u,∀b,qQ P w β hp q.1 b→I' b)→∀ρ m,ρ=h'.pl++m→yc P w β hp ρ μ hp0→∀rest,ah P w I' μ hp0 v (gO l (d++rest)):=
  fun hk hs hx=>⟨_,_,_,_,hk,Ext.leaf h _,hs.symm,fun I' μ hp0 _ _ _ _ _ _ rest=>hx I' μ hp0 rest⟩
 have n9: ∀{iv:List Nat},(k h).run C hp=some (r,iv)→l.size=0→(∀I' μ hp0 rest,ah P w I' μ hp0 v (gO l rest))→∃h' eu d u,(k h').run C hp=some (r,eu)∧Ext P w I β hp h h' d u∧d.length=l.size∧
   ∀(I':Nat→Prop) (μ:Nat→Option Nat) (hp0:Nat→Option ag),(∀b,I b→I' b)→(∀q∈u,∀b,qQ P w β hp q.1 b→I' b)→∀ρ m,ρ=h'.pl++m→yc P w β hp ρ μ hp0→∀rest,ah P w I' μ hp0 v (gO l (d++rest)):=
  fun hk hs hx=>⟨_,_,_,_,hk,Ext.refl h,by simp[hs],fun I' μ hp0 _ _ _ _ _ _ rest=>hx I' μ hp0 rest⟩
 unfold BC at hr
 cases l with
 | qy=>exact n9 hr rfl fun _ _ _ _=> .undef
 | int kd=>
  cases x<;>simp only at hr<;>first|(cases hr;done)|skip
  obtain ⟨h1,h2⟩:=aD hr
  simp only[decide_eq_true_eq] at h1
  subst h1
  obtain rfl:=hv.dK
  exact plain h2 rfl fun _ _ _ _=> .int
 | bool=>
  cases x<;>simp only at hr<;>first|(cases hr;done)|skip
  obtain rfl:=hv.iN
  exact plain hr rfl fun _ _ _ _=> .bool
 | str=>
  cases x<;>simp only at hr<;>first|(cases hr;done)|skip
  obtain ⟨s,rfl,hl⟩:=hv.kX
  exact plain hr rfl fun _ _ _ _=> .str hl
 | nilS e=>
  cases x<;>simp only at hr<;>first|(cases hr;done)|skip
  obtain ⟨h1,h2⟩:=aD hr
  cases hv with
  | nilS=>exact n9 h2 rfl fun _ _ _ _=> .nilS
 | cP=>
  cases x<;>simp only at hr<;>first|(cases hr;done)|skip
  cases hv with
  | cP=>exact n9 hr rfl fun _ _ _ _=> .cP
 | row e j cs=>
  cases x<;>simp only at hr<;>first|(cases hr;done)|skip
  rename_i e' id ver path
  obtain ⟨e0,es,ai,l0,aa,p1,p2,p3,hr⟩:=mU hr
  obtain ⟨h1,h2⟩:=aD hr
  simp only[Bool.and_eq_true,Nat.beq_eq,Nat.ble_eq] at h1
  obtain ⟨rfl,mX,Xy⟩:=h1
  have:=vc mX
  subst this
  obtain ⟨iQ,a,b,c⟩:=sN (P:=P) (w:=w) (I:=I) (β:=β) h2 (path.map fun p=>dB p.1)
  refine ⟨_,_,path.map fun p=>dB p.1,[],a,c,by simp[LS.size],fun I' μ hp0 i1 i2 ρ m cW cF rest=> ?_⟩
  obtain ⟨blk,k1,k2⟩:=cF j _ (by rw[cW];exact na b)
  obtain ⟨bb,q,i,cc,t,l,rfl,hb,ht,hc⟩:=hv.LN aa p1 p2 p3
  have o9:blk= .nest e0 es [0,0,0]∧μ j=β id:=by
   generalize μ j=o at k2
   cases k2 with
   | var h=>rw[aa] at h;cases h
   | arr h=>rw[aa] at h;cases h
   | map h=>rw[aa] at h;cases h
   | nest h=>rw[aa] at h;cases h;exact ⟨rfl,rfl⟩
  obtain ⟨rfl,iR⟩:=o9
  simp only[gO,Cx]
  have hq:q.length<3:=by rw[List.length_append,List.length_singleton] at Xy;omega
  refine .row k1 (iR.trans hb) (by simpa using hq) ?_ ht hc
  match q.length,hq with
  | 0,_=>rfl
  | 1,_=>rfl
  | 2,_=>rfl
 | cg j cs c=>cases hr
 | uu k n=>cases hr
 | cQ t=>
  cases x<;>simp only at hr<;>first|(cases hr;done)|skip
  obtain ⟨h1,h2⟩:=aD hr
  cases hv with
  | cQ=>exact n9 h2 rfl fun _ _ _ _=> .cQ
 | bG t j=>
  cases x<;>simp only at hr<;>first|(cases hr;done)|skip
  rename_i t' id
  obtain ⟨h1,h2⟩:=aD hr
  rw[Nat.beq_eq] at h1
  subst h1
  obtain ⟨iQ,a,b,c⟩:=sN (P:=P) (w:=w) (I:=I) (β:=β) h2 []
  refine ⟨_,_,[],[],a,by simpa using c,rfl,fun I' μ hp0 i1 i2 ρ m cW cF rest=> ?_⟩
  obtain ⟨blk,k1,k2⟩:=cF j _ (by rw[cW];exact na b)
  exact Xt hv k2 k1 rfl
 | list e=>
  obtain ⟨⟨y,u⟩,l1,l2,h1,h2⟩:=jK hr
  cases y<;>simp only at h2<;>first|(cases h2;done)|skip
  rename_i e' es
  obtain ⟨h3,h4⟩:=aD h2
  rw[Nat.beq_eq] at h3
  subst h3
  obtain ⟨p1,p2⟩:=BP S.h.rel h1 hv
  exact ⟨_,_,[.list e es],u,h4,⟨rfl,rfl,p1,⟨[],by simp⟩,id⟩,rfl,fun I' μ hp0 i1 i2 _ _ _ _ rest=> .list (p2 I' i1 i2)⟩
 | whole e j=>
  cases x<;>simp only at hr<;>first|(cases hr;done)|skip
  ·rename_i e' id
   obtain ⟨h1,h2⟩:=aD hr
   rw[Nat.beq_eq] at h1
   subst h1
   obtain ⟨iQ,a,b,c⟩:=sN (P:=P) (w:=w) (I:=I) (β:=β) h2 []
   refine ⟨_,_,[],[],a,by simpa using c,rfl,fun I' μ hp0 i1 i2 ρ m cW cF rest=> ?_⟩
   obtain ⟨blk,k1,k2⟩:=cF j _ (by rw[cW];exact na b)
   exact Xs hv k2 k1 rfl
  ·rename_i e' id ver path
   obtain ⟨h1,h2⟩:=aD hr
   rw[Nat.beq_eq] at h1
   subst h1
   obtain ⟨iQ,a,b,c⟩:=sN (P:=P) (w:=w) (I:=I) (β:=β) h2 []
   refine ⟨_,_,[],[],a,by simpa using c,rfl,fun I' μ hp0 i1 i2 ρ m cW cF rest=> ?_⟩
   obtain ⟨blk,k1,k2⟩:=cF j _ (by rw[cW];exact na b)
   exact Xw S hv k2 k1 rfl
 | sub e j=>
  cases x<;>simp only at hr<;>first|(cases hr;done)|skip
  rename_i e' id o n
  obtain ⟨h1,h2⟩:=aD hr
  rw[Nat.beq_eq] at h1
  subst h1
  obtain ⟨iQ,a,b,c⟩:=sN (P:=P) (w:=w) (I:=I) (β:=β) h2 [dB o,dB n]
  refine ⟨_,_,[dB o,dB n],[],a,c,rfl,fun I' μ hp0 i1 i2 ρ m cW cF rest=> ?_⟩
  obtain ⟨blk,k1,k2⟩:=cF j _ (by rw[cW];exact na b)
  simpa[gO,V.nth] using Xu (I':=I') hv k2 k1 rfl
 | ptr j=>
  cases x<;>simp only at hr<;>first|(cases hr;done)|skip
  rename_i id i c
  obtain ⟨iQ,a,b,c'⟩:=sN (P:=P) (w:=w) (I:=I) (β:=β) hr [dB i,dB c]
  refine ⟨_,_,[dB i,dB c],[],a,c',rfl,fun I' μ hp0 i1 i2 ρ m cW cF rest=> ?_⟩
  obtain ⟨blk,k1,k2⟩:=cF j _ (by rw[cW];exact na b)
  simpa[gO,V.nth] using Nd (I':=I') hv k2 k1 rfl
 | dr j i c=>
  cases x<;>simp only at hr<;>first|(cases hr;done)|skip
  rename_i id i' c'
  obtain ⟨h1,h2⟩:=aD hr
  simp only[Bool.and_eq_true,Nat.beq_eq] at h1
  obtain ⟨rfl,rfl⟩:=h1
  obtain ⟨iQ,a,b,c'⟩:=sN (P:=P) (w:=w) (I:=I) (β:=β) h2 []
  refine ⟨_,_,[],[],a,by simpa using c',rfl,fun I' μ hp0 i1 i2 ρ m cW cF rest=> ?_⟩
  obtain ⟨blk,k1,k2⟩:=cF j _ (by rw[cW];exact na b)
  exact Nd hv k2 k1 rfl
end
section
variable {P:Program} {A:ch} {w w':World} {I I' I2:Nat→Prop} {μ β aj:Nat→Option Nat} {hp hp' hp0:Nat→Option ag} {C:ae} {B:Nat} {M:Nat→Prop} {w0:Start}
def lj (P:Program) (w:World) (I:Nat→Prop) (β:Nat→Option Nat) (hp:Nat→Option ag) (h':Hand) (u:List (Nat × ag)) (K:(Nat→Prop)→(Nat→Option Nat)→(Nat→Option ag)→Prop):Prop:=
 ∀(I':Nat→Prop) (μ:Nat→Option Nat) (hp0:Nat→Option ag),(∀b,I b→I' b)→(∀q∈u,∀b,qQ P w β hp q.1 b→I' b)→∀ρ m,ρ=h'.pl++m→yc P w β hp ρ μ hp0→K I' μ hp0
theorem lj.later {h h':Hand} {d:List V} {u u':List (Nat × ag)} {K:(Nat→Prop)→(Nat→Option Nat)→(Nat→Option ag)→Prop} (t:lj P w I β hp h u K) (e:Ext P w I β hp h h' d u'):lj P w I β hp h' (u++u') K:=by
 obtain ⟨m1,e1⟩:=e.pl
 exact fun I' μ hp0 i1 i2 ρ m cW cF=>t I' μ hp0 i1 (fun q hq=>i2 q (List.mem_append.2 (.inl hq))) ρ (m1++m) (by rw[cW,e1,List.append_assoc]) cF
theorem lj.more {h:Hand} {u u':List (Nat × ag)} {K:(Nat→Prop)→(Nat→Option Nat)→(Nat→Option ag)→Prop} (t:lj P w I β hp h u K):lj P w I β hp h (u'++u) K:=
 fun I' μ hp0 i1 i2 ρ m cW cF=>t I' μ hp0 i1 (fun q hq=>i2 q (List.mem_append.2 (.inr hq))) ρ m cW cF
theorem CA (S:aC P w I β hp B M w0) {α:Type}: ∀{ls:List LS} {xs:List V} {h:Hand} {k:Hand→Rd α} {r:α} {rd:List Nat} {vs:List Value},(uC P ls xs h k).run C hp=some (r,rd)→vs.length=xs.length→
  (∀(j:Nat) v x,vs[j]? =some v→xs[j]? =some x→ah P w I β hp v x)→
  ∃h' eu d u,(k h').run C hp=some (r,eu)∧Ext P w I β hp h h' d u∧d.length=jl ls∧ls.length=xs.length∧
   lj P w I β hp h' u fun I' μ hp0=> ∀rest,(gp ls (d++rest)).length=xs.length∧∀(j:Nat) v y,vs[j]? =some v→(gp ls (d++rest))[j]? =some y→ah P w I' μ hp0 v y
 | [],[],h,k,r,rd,vs,hr,hl,hv=>⟨h,rd,[],[],hr,Ext.refl h,rfl,rfl,fun I' μ hp0 _ _ _ _ _ _ rest=>⟨rfl,fun j v y _ hy=>by simp[gp] at hy⟩⟩
 | [],_::_,h,k,r,rd,vs,hr,hl,hv=>by cases hr
 | _::_,[],h,k,r,rd,vs,hr,hl,hv=>by cases hr
 | l::ls,x::xs,h,k,r,rd,vs,hr,hl,hv=>by
  cases vs with
  | nil=>simp at hl
  | cons v vs=>
   simp only[uC] at hr
   obtain ⟨h1,iv,d1,u1,a1,a2,a3,a4⟩:=Ng S hr (hv 0 v x rfl rfl)
   obtain ⟨h2,q0,d2,u2,b1,b2,b3,b5,b4⟩:=CA S a1 (by simpa using hl) (vs:=vs) (fun j v x hj hx=>hv (j+1) v x (by simpa using hj) (by simpa using hx))
   have Xz:lj P w I β hp h1 u1 fun I' μ hp0=> ∀rest,ah P w I' μ hp0 v (gO l (d1++rest)):=a4
   refine ⟨h2,q0,d1++d2,u1++u2,b1,a2.trans b2,by simp only[List.length_append,jl];omega,by simp[b5],fun I' μ hp0 i1 i2 ρ m cW cF rest=> ?_⟩
   have k1:=(Xz.later b2) I' μ hp0 i1 i2 ρ m cW cF (d2++rest)
   obtain ⟨k2,k3⟩:=b4.more I' μ hp0 i1 i2 ρ m cW cF rest
   simp only[gp]
   rw[show (d1++d2++rest).drop l.size=d2++rest by rw[List.append_assoc];exact me a3,List.append_assoc]
   refine ⟨by simp[k2],fun j v' y hj hy=> ?_⟩
   cases j with
   | zero=>simp at hj hy;subst hj;subst hy;exact k1
   | succ j=>exact k3 j v' y (by simpa using hj) (by simpa using hy)
theorem XA (S:aC P w I β hp B M w0) {α:Type} {s:VS} {x:V} {h:Hand} {k:Hand→Rd α} {r:α} {rd:List Nat} {v:Value} (hr:(xe P s x h k).run C hp=some (r,rd)) (hv:ah P w I β hp v x):
  ∃h' eu d u,(k h').run C hp=some (r,eu)∧Ext P w I β hp h h' d u∧d.length=s.size∧
   lj P w I β hp h' u fun I' μ hp0=> ∀rest,ah P w I' μ hp0 v (jH s (d++rest)):=by
 cases s with
 | one l=>
  simp only[xe] at hr
  obtain ⟨h1,iv,d1,u1,a1,a2,a3,a4⟩:=Ng S hr hv
  exact ⟨h1,iv,d1,u1,a1,a2,a3,a4⟩
 | agg ls=>
  cases x<;>simp only[xe] at hr<;>first|(cases hr;done)|skip
  rename_i xs
  obtain ⟨cs,rfl,e1,e2⟩:=hv.jL
  obtain ⟨h1,iv,d1,u1,a1,a2,a3,a5,a4⟩:=CA S hr (vs:=cs.toList) (by simpa using e1) (fun j v x hj hx=>e2 j v x (by simpa using hj) hx)
  refine ⟨h1,iv,d1,u1,a1,a2,a3,fun I' μ hp0 i1 i2 ρ m cW cF rest=> ?_⟩
  obtain ⟨k1,k2⟩:=a4 I' μ hp0 i1 i2 ρ m cW cF rest
  exact .agg (by rw[k1];exact e1) fun j v y hj hy=>k2 j v y (by simpa using hj) hy
 | aQ ls=>cases x<;>cases hr
 | pref ts ls=>cases x<;>cases hr
 | fn f a b=>
  cases x<;>simp only[xe] at hr<;>first|(cases hr;done)|skip
  rename_i f' xs ys
  obtain ⟨hc,nc⟩:=aD hr
  clear hr
  rw[Nat.beq_eq] at hc
  subst hc
  cases hv with
  | @fn _ fs cs _ _ q1 q2 q3 q4=>
   obtain ⟨h1,iv,d1,u1,a1,a2,a3,a5,a4⟩:=CA S nc (vs:=fs.toList) (by simpa using q1) (fun j v x hj hx=>q2 j v x (by simpa using hj) hx)
   obtain ⟨h2,q0,d2,u2,b1,b2,b3,b5,b4⟩:=CA S a1 (vs:=cs.toList) (by simpa using q3) (fun j v x hj hx=>q4 j v x (by simpa using hj) hx)
   refine ⟨h2,q0,d1++d2,u1++u2,b1,a2.trans b2,by simp only[List.length_append,VS.size];omega,fun I' μ hp0 i1 i2 ρ m cW cF rest=> ?_⟩
   obtain ⟨k1,k2⟩:=(a4.later b2) I' μ hp0 i1 i2 ρ m cW cF (d2++rest)
   obtain ⟨k3,k4⟩:=b4.more I' μ hp0 i1 i2 ρ m cW cF rest
   simp only[jH]
   rw[show (d1++d2++rest).drop (jl a)=d2++rest by rw[List.append_assoc];exact me a3,List.append_assoc]
   exact .fn (by rw[k1];exact q1) (fun j v y hj hy=>k2 j v y (by simpa using hj) hy) (by rw[k3];exact q3) (fun j v y hj hy=>k4 j v y (by simpa using hj) hy)
theorem Hm (S:aC P w I β hp B M w0) {α:Type}: ∀{ls:List VS} {xs:List V} {h:Hand} {k:Hand→Rd α} {r:α} {rd:List Nat} {vs:List Value},(xf P ls xs h k).run C hp=some (r,rd)→vs.length=xs.length→
  (∀(j:Nat) v x,vs[j]? =some v→xs[j]? =some x→ah P w I β hp v x)→
  ∃h' eu d u,(k h').run C hp=some (r,eu)∧Ext P w I β hp h h' d u∧d.length=qI ls∧ls.length=xs.length∧
   lj P w I β hp h' u fun I' μ hp0=> ∀rest,(eY ls (d++rest)).length=xs.length∧∀(j:Nat) v y,vs[j]? =some v→(eY ls (d++rest))[j]? =some y→ah P w I' μ hp0 v y
 | [],[],h,k,r,rd,vs,hr,hl,hv=>⟨h,rd,[],[],hr,Ext.refl h,rfl,rfl,fun I' μ hp0 _ _ _ _ _ _ rest=>⟨rfl,fun j v y _ hy=>by simp[eY] at hy⟩⟩
 | [],_::_,h,k,r,rd,vs,hr,hl,hv=>by cases hr
 | _::_,[],h,k,r,rd,vs,hr,hl,hv=>by cases hr
 | l::ls,x::xs,h,k,r,rd,vs,hr,hl,hv=>by
  cases vs with
  | nil=>simp at hl
  | cons v vs=>
   simp only[xf] at hr
   obtain ⟨h1,iv,d1,u1,a1,a2,a3,a4⟩:=XA S hr (hv 0 v x rfl rfl)
   obtain ⟨h2,q0,d2,u2,b1,b2,b3,b5,b4⟩:=Hm S a1 (by simpa using hl) (vs:=vs) (fun j v x hj hx=>hv (j+1) v x (by simpa using hj) (by simpa using hx))
   refine ⟨h2,q0,d1++d2,u1++u2,b1,a2.trans b2,by simp only[List.length_append,qI];omega,by simp[b5],fun I' μ hp0 i1 i2 ρ m cW cF rest=> ?_⟩
   have k1:=(a4.later b2) I' μ hp0 i1 i2 ρ m cW cF (d2++rest)
   obtain ⟨k2,k3⟩:=b4.more I' μ hp0 i1 i2 ρ m cW cF rest
   simp only[eY]
   rw[show (d1++d2++rest).drop l.size=d2++rest by rw[List.append_assoc];exact me a3,List.append_assoc]
   refine ⟨by simp[k2],fun j v' y hj hy=> ?_⟩
   cases j with
   | zero=>simp at hj hy;subst hj;subst hy;exact k1
   | succ j=>exact k3 j v' y (by simpa using hj) (by simpa using hy)
def CB:List BS→Nat
 | []=>0
 | b::l=>b.size+CB l
theorem Nh: ∀{b:Nat} {e e':TypeId} {es:List V} {v:V},(∀q b' e' m,At P w b e es q b' e' m→il P w I b' e' m)→∀(path:Path),ji P e path=some e'→gN P e es path=some v→0<v.toList.length→
  ∃b1,At P w b e es path b1 e' v.toList
 | b,e,e',es,v,b8,[],ht,hv,hl=>by
  simp only[ji,Option.some.injEq] at ht
  simp only[gN,Option.some.injEq] at hv
  subst ht;subst hv
  exact ⟨b,.here⟩
 | b,e,e',es,v,b8,(i,c)::q,ht,hv,hl=>by
  simp only[ji] at ht
  simp only[gN] at hv
  obtain ⟨x,hx,hv⟩:=bind_some hv
  cases Hn:(ji.wZ P e)[c]? with
  | none=>rw[Hn] at ht;cases ht
  | some t=>
   rw[Hn] at ht
   simp only at ht
   have CD:(aM P e)[c]? =some t:=Hn
   cases hu:P.underlying t with
   | none=>rw[hu] at ht;cases ht
   | some d=>
    rw[hu] at ht
    cases d<;>simp only at ht<;>first|(cases ht;done)|skip
    rename_i e1
    rw[lS CD] at hv
    have hR:=b8 _ _ _ _ .here
    obtain ⟨Ca,c1,c2,c3⟩:=hR.cells
    have sm:c<P.cellsOf e:=by rw[←e7 hR.ok];exact (List.getElem?_eq_some_iff.1 CD).1
    obtain ⟨u,d1,d2⟩:=c3 i c x t hx CD sm
    rw[d2.qS] at hv
    generalize hy:bx P e x c=y at d2 hv
    cases d2 with
    | fk a p=>unfold fg at a;rw[hu] at a;cases a
    | @emp e2 a cap oa ha=>
     rw[hu] at oa;cases oa
     simp only at hv
     cases q with
     | nil=>simp only[gN,Option.some.injEq] at hv;subst hv;simp[V.toList] at hl
     | cons a q=>simp[gN] at hv
    | @row e2 bP b2 cap oa kU aO bQ mV=>
     rw[hu] at oa;cases oa
     simp only at hv
     have kW: ∀{q b' e' aG},At P w b2 e1 bP q b' e' aG→At P w b e es ((i,c)::q) b' e' aG:=fun h=> .step c1 hx CD hu hy kU d1 h
     obtain ⟨b1,kh⟩:=Nh (fun q b' e' m h=>b8 _ _ _ _ (kW h)) q ht hv hl
     exact ⟨b1,kW kh⟩
theorem Ni (S:aC P w I β hp B M w0) {α:Type}: ∀{bs:List BS} {j:Nat} {h:Hand} {k:Hand→Rd α} {r:α} {rd:List Nat},(oV P bs j h k).run C hp=some (r,rd)→
  ∃h' eu d u,(k h').run C hp=some (r,eu)∧Ext P w I β hp h h' d u∧d.length=CB bs∧
   ∀rest,(eb bs (d++rest)).length=bs.length∧∃o:Nat→Option Nat,
    (∀(i:Nat) blk,(eb bs (d++rest))[i]? =some blk→∃p,dC h'.pl (j+i)=some p∧dw P w β hp p (o i) blk)∧
    lj P w I β hp h' u fun I' μ hp0=> ∀(i:Nat) blk,(eb bs (d++rest))[i]? =some blk→(∀b,bj P w (o i) blk b→¬I' b)→dt P w I' μ hp0 (o i) blk
 | [],j,h,k,r,rd,hr=>⟨h,rd,[],[],hr,Ext.refl h,rfl,fun rest=>⟨rfl,fun _=>none,fun i blk hb=>by simp[eb] at hb,fun I' μ hp0 _ _ _ _ _ _ i blk hb=>by simp[eb] at hb⟩⟩
 | b::bs,j,h,k,r,rd,hr=>by
  simp only[oV] at hr
  have fin: ∀{h1:Hand} {iv:List Nat} {d1:List V} {u1:List (Nat × ag)} {o1:Option Nat} {p:Place},(oV P bs (j+1) h1 k).run C hp=some (r,iv)→Ext P w I β hp h h1 d1 u1→d1.length=b.size→dC h.pl j=some p→
    (∀rest,dw P w β hp p o1 (fh b (d1++rest)))→(∀rest,lj P w I β hp h1 u1 fun I' μ hp0=>(∀bb,bj P w o1 (fh b (d1++rest)) bb→¬I' bb)→dt P w I' μ hp0 o1 (fh b (d1++rest)))→
    ∃h' eu d u,(k h').run C hp=some (r,eu)∧Ext P w I β hp h h' d u∧d.length=CB (b::bs)∧
     ∀rest,(eb (b::bs) (d++rest)).length=(b::bs).length∧∃o:Nat→Option Nat,
      (∀(i:Nat) blk,(eb (b::bs) (d++rest))[i]? =some blk→∃p,dC h'.pl (j+i)=some p∧dw P w β hp p (o i) blk)∧
      lj P w I β hp h' u fun I' μ hp0=> ∀(i:Nat) blk,(eb (b::bs) (d++rest))[i]? =some blk→(∀b,bj P w (o i) blk b→¬I' b)→dt P w I' μ hp0 (o i) blk:=by
   intro h1 iv d1 u1 o1 p hk he hd a9 hl ht
   obtain ⟨h2,q0,d2,u2,b1,b2,b3,b4⟩:=Ni S hk
   refine ⟨h2,q0,d1++d2,u1++u2,b1,he.trans b2,by simp only[List.length_append,CB];omega,fun rest=> ?_⟩
   obtain ⟨c1,o,c2,c3⟩:=b4 rest
   simp only[eb]
   rw[show (d1++d2++rest).drop b.size=d2++rest by rw[List.append_assoc];exact me hd,List.append_assoc]
   refine ⟨by simp[c1],fun i=>match i with|0=>o1|i+1=>o i,fun i blk hb=> ?_,fun I' μ hp0 i1 i2 ρ m cW cF i blk hb cu=> ?_⟩
   ·cases i with
    | zero=>
     simp at hb
     subst hb
     exact ⟨p,b2.look (he.look a9),hl _⟩
    | succ i=>
     obtain ⟨q,e1,e2⟩:=c2 i blk (by simpa using hb)
     exact ⟨q,by rw[show j+(i+1)=j+1+i by omega];exact e1,e2⟩
   ·cases i with
    | zero=>
     simp at hb
     subst hb
     exact ((ht _).later b2) I' μ hp0 i1 i2 ρ m cW cF cu
    | succ i=>exact c3.more I' μ hp0 i1 i2 ρ m cW cF i blk (by simpa using hb) cu
  cases a9:dC h.pl j with
  | none=>rw[a9] at hr;cases hr
  | some p=>
   rw[a9] at hr
   cases p with
   | blk id=>
    obtain ⟨l1,hr⟩:=run_get hr
    cases aa:hp id with
    | none=>rw[aa] at hr;cases hr
    | some blk=>
     rw[aa] at hr
     cases blk with
     | dead=>cases hr
     | var T0 cs=>
      cases b<;>simp only at hr<;>first|(cases hr;done)|skip
      rename_i T1 ss
      obtain ⟨hT,XB⟩:=aD hr
      clear hr
      rw[Nat.beq_eq] at hT
      subst hT
      have cj:=S.h.rel id _ aa
      generalize ho:β id=o at cj
      cases cj with
      | @var _ bb Ca T hb hh hs hI hx fF=>
       obtain ⟨h1,iv,d1,u1,a1,a2,a3,a5,a4⟩:=Hm S XB (vs:=Ca.toList) (by simpa using hs) (fun j v x hj cd=>hx j v x (by simpa using hj) cd)
       refine fin (o1:=β id) a1 a2 a3 a9 (fun rest=> .var aa) fun rest I' μ hp0 i1 i2 ρ m cW cF cu=> ?_
       obtain ⟨k1,k2⟩:=a4 I' μ hp0 i1 i2 ρ m cW cF rest
       exact .var (ho.trans hb) hh (by rw[k1];exact hs) (cu _ (.root (by simp[fh]) (ho.trans hb))) (fun i v y hi hy=>k2 i v y (by simpa using hi) hy) fF
     | arr e' es fz=>
      cases fz with
      | true=>cases hr
      | false=>
       cases b with
       | arr e fz=>
        cases fz with
        | true=>cases hr
        | false=>
         obtain ⟨hc,nc⟩:=aD hr
         clear hr
         rw[Nat.beq_eq] at hc
         subst hc
         refine fin (d1:=[.list e es]) (o1:=β id) nc (Ext.leaf h _) rfl a9 (fun rest=>dw.arr aa) fun rest I' μ hp0 i1 i2 ρ m cW cF cu=> ?_
         change dt P w I' μ hp0 (β id) (.arr e es false)
         have cj:=S.h.rel id _ aa
         generalize ho:β id=o at cj cu⊢
         cases cj with
         | dh hb=>exact .dh hb
         | arr a1 a2 a3 a4 a5 a6 a7=>
          refine .arr a1 a2 a3 a4 (fun h=>by cases h) (fun _=>cu _ (.root (by simp[fh]) a2)) fun i j x t' y1 y2 y3=> ?_
          obtain ⟨v,z1,z2⟩:=a7 i j x t' y1 y2 y3
          exact ⟨v,z1,z2.mono i1 fun _ _=>rfl⟩
       | _=>cases hr
     | nest e' es ai=>
      cases b with
      | nest e=>
       obtain ⟨hc,nc⟩:=aD hr
       clear hr
       rw[Nat.beq_eq] at hc
       subst hc
       refine fin (d1:=[.list e es]) (o1:=β id) nc (Ext.leaf h _) rfl a9 (fun rest=>dw.nest aa) fun rest I' μ hp0 i1 i2 ρ m cW cF cu=> ?_
       have Nj: ∀bb,bj P w (β id) (.nest e es [0,0,0]) bb→¬I' bb:=cu
       change dt P w I' μ hp0 (β id) (.nest e es [0,0,0])
       have cj:=S.h.rel id _ aa
       generalize ho:β id=o at cj Nj⊢
       cases cj with
       | nest hb b8 mY=>
        refine .nest hb (fun q b' e1 m1 hq=> ?_) mY
        obtain ⟨ok,⟨Ca,c1,c2,c3⟩,nI⟩:=b8 q b' e1 m1 hq
        refine ⟨ok,⟨Ca,c1,c2,fun i j x t' y1 y2 y3=> ?_⟩,Nj _ (.row hb hq)⟩
        obtain ⟨v,z1,z2⟩:=c3 i j x t' y1 y2 y3
        exact ⟨v,z1,z2.mono i1 (fun _ _=>rfl) fun _ _ _ _ _=>rfl⟩
      | _=>cases hr
     | map t' es=>
      cases b with
      | map t=>
       obtain ⟨hc,nc⟩:=aD hr
       clear hr
       rw[Nat.beq_eq] at hc
       subst hc
       refine fin (d1:=[.list t es]) (o1:=β id) nc (Ext.leaf h _) rfl a9 (fun rest=>dw.map aa) fun rest I' μ hp0 i1 i2 ρ m cW cF cu=> ?_
       change dt P w I' μ hp0 (β id) (.map t es)
       have cj:=S.h.rel id _ aa
       generalize ho:β id=o at cj cu⊢
       cases cj with
       | map a1 a2 a3 a4 a5 a6 a7=>exact .map a1 a2 a3 a4 (cu _ (.root (by simp[fh]) a2)) a6 a7
      | _=>cases hr
   | row id ver path=>
    obtain ⟨e0,es,ai,l1,k1,k2,k3,k4,k5⟩:=mU hr
    obtain ⟨e',vv,m1,m2,m3⟩:=uK k5
    cases b with
    | arr e fz=>
     cases fz with
     | true=>cases m3
     | false=>
      obtain ⟨hc,m4⟩:=aD m3
      clear m3
      simp only[Bool.and_eq_true,Nat.beq_eq,Nat.blt_eq] at hc
      obtain ⟨rfl,yd,kU⟩:=hc
      have cj:=S.h.rel id _ k1
      cases hb:β id with
      | none=>
       rw[hb] at cj
       cases cj with
       | nest au _ _=>cases au
      | some b0=>
       rw[hb] at cj
       cases cj with
       | nest au b8 mY=>
        cases au
        obtain ⟨b1,cN⟩:=Nh b8 path m1 m2 kU
        refine fin (d1:=[.list e vv.toList]) (o1:=some b1) m4 (Ext.leaf h _) rfl a9 (fun rest=>dw.row k1 hb cN yd k2 k3 k4 kU) fun rest I' μ hp0 i1 i2 ρ m cW cF cu=> ?_
        change dt P w I' μ hp0 (some b1) (.arr e vv.toList false)
        obtain ⟨ok,⟨Ca,c1,c2,c3⟩,nI⟩:=b8 _ _ _ _ cN
        refine .arr ok rfl c1 c2 (fun h=>by cases h) (fun _=>cu _ (.root (by simp[fh]) rfl)) fun i j x t' y1 y2 y3=> ?_
        obtain ⟨v,z1,z2⟩:=c3 i j x t' y1 y2 y3
        refine ⟨v,z1,?_⟩
        generalize bx P e x j=y at z2⊢
        cases z2 with
        | fk _ p=>exact p.mono i1 fun _ _=>rfl
        | emp hu _=>exact absurd hu (Nk yd y2 _)
        | row hu _ _ _ _=>exact absurd hu (Nk yd y2 _)
    | _=>cases m3
where
 Nk {e t:TypeId} {j:Nat} (h:w9 P e=true) (ht:(aM P e)[j]? =some t) (e':TypeId):P.underlying t≠some (.slice e'):=by
  intro hu
  have h2:=List.all_eq_true.1 h t (List.mem_of_getElem? ht)
  rw[hu] at h2
  cases h2
end
end Go.AM
