/-
  Functions of uC program, lifted to plain data.
-/
import Derived.Great.BuildSlice
import Derived.Maps.Keyed
import Derived.WideKeyArr
import Derived.MapKept
import Derived.ChangeMaps4
import Derived.Carry
import Derived.Lib.AppendStr
import Derived.Laws.BytesString
import Derived.Lib.Builder
import Derived.Lib.UnsafeStr
import Derived.Test.YtmcdbnalaobmpaaDoorP1
set_option linter.unusedVariables false
set_option linter.unusedSimpArgs false
namespace Go.AM
section
variable {P:Program} {w w':World} {I I':Nat→Prop} {β au:Nat→Option Nat} {hp hp':Nat→Option aj} {C:af} {B:Nat} {M:Nat→Prop} {w0:Start}
theorem Wx (S:aE P w I β hp B M w0) {t:TypeId} {a v:Value} {xa x:V} {r:R} {rd:List Nat} (ha:an P w I β hp a xa) (hv:an P w I β hp v x)
  (h:(Gp P t xa x).run C hp=some (r,rd)):oH P ((Instr.storeAt t a v).run P w) w I β hp B M w0 r:=by
 unfold Gp at h
 obtain ⟨h0,h⟩:=aF h
 simp only[Bool.and_eq_true,Nat.beq_eq] at h0
 obtain ⟨ht,hn⟩:=h0
 cases xa with
 | ptr id i c=>
  obtain ⟨l,h⟩:=run_get h
  cases ae:hp id with
  | none=>rw[ae] at h;cases h
  | some blk=>
   rw[ae] at h
   cases blk with
   | dead=>cases h
   | var T0 cs=>
    obtain ⟨Nj,h⟩:=aF h
    have lD:ox P T0=true→0<c:=fun bN=>by
     rw[bN] at Nj
     simpa using Nj
    obtain ⟨b,hb,rfl⟩:=ha.gB ae (by simp)
    simp only[aj.sz,Nat.mul_zero,Nat.zero_add]
    cases oG:(xe P t cs&&eC P t x) with
    | true=>
     dsimp only at h
     rw[oG] at h
     simp only[cond_true] at h
     obtain ⟨hc,h⟩:=aF h
     obtain rfl:=aJ h
     simp only[Bool.and_eq_true,Nat.blt_eq] at hc oG
     obtain ⟨o1,o2⟩:=Na hv oG.2
     have kJ:=Wd oG.2
     refine M8 S ae hb ht hn (by rw[o2,kJ];rfl) lD (fun j u y hu hy=> ?_) (by rw[o2];simp[o1]) (by rw[kJ];simp;omega) (M7 _ _ _ _) (fun j y hy hj u hu=> ?_) (fun j y hy hj u hu=> ?_)
     ·rw[o2] at hu
      rw[kJ] at hy
      cases j with
      | zero=>simp at hu hy;subst hu;subst hy;exact hv
      | succ j=>simp at hy
     ·rw[G2] at hy
      cases vg:cs[j]? with
      | none=>rw[vg] at hy;cases hy
      | some y0=>
       rw[vg] at hy
       simp only[Option.map_some,Option.some.injEq] at hy
       rw[kJ] at hj
       simp only[List.length_singleton] at hj
       have bM:Nat.beq c (0+j)=false:=by
        cases hq:Nat.beq c (0+j) with
        | false=>rfl
        | true=>rw[Nat.beq_eq] at hq;omega
       rw[bM] at hy
       have:=MV (c:=false) hv (hu y0 vg)
       rw[←hy]
       simpa using this
     ·rw[kJ] at hj hu
      have Wy:j=0:=by simpa using hj
      subst Wy
      rw[G2] at hy
      cases vg:cs[c+0]? with
      | none=>rw[vg] at hy;cases hy
      | some y0=>
       rw[vg] at hy
       simp only[Option.map_some,Option.some.injEq] at hy
       have heq:Nat.beq c (0+(c+0))=true:=by rw[Nat.beq_eq];omega
       rw[heq] at hy
       have h2:an P w I β hp u x:=hu x rfl
       have:qV true x y0=x:=We x y0
       rw[←hy,this]
       exact h2
    | false=>
     dsimp only at h
     rw[oG] at h
     simp only[cond_false] at h
     obtain ⟨hc,h⟩:=aF h
     simp only[Bool.and_eq_true,Nat.ble_eq] at hc
     obtain ⟨e1,e2⟩:=G0 hv h
     obtain ⟨h1,l2,h⟩:=CD h (vs:=v.cells.toList) (by simpa using e1) (fun j u y a b=>e2 j u y (by simpa using a) b)
     obtain rfl:=aJ h
     refine M8 S ae hb ht hn e1 lD e2 h1 hc.2 (xR _ _ _ hc.2) (fun j y hy hj u hu=> ?_) (fun j y hy hj u hu=> ?_)
     ·unfold fC at hy
      rw[mz _ _ _ _ hc.2] at hy
      rcases hj with hj|hj
      ·rw[if_pos hj] at hy;exact hu y hy
      ·rw[if_neg (by omega),if_neg (by omega)] at hy;exact hu y hy
     ·unfold fC at hy
      rw[mz _ _ _ _ hc.2,if_neg (by omega),if_pos (by omega)] at hy
      rw[show c+j-c=j by omega] at hy
      exact hu y hy
   | arr e es fz=>
    cases fz with
    | true=>cases h
    | false=>
    obtain ⟨b,hb,rfl⟩:=ha.gB ae (by simp)
    obtain ⟨ax,h⟩:=aF h
    obtain ⟨⟨ys,fr⟩,l1,l2,bx,h⟩:=j6 h
    obtain ⟨hc,h⟩:=aF h
    obtain ⟨x0,pR,h⟩:=kH h
    obtain rfl:=aJ h
    simp only[Bool.and_eq_true,Bool.not_eq_true',Nat.ble_eq] at hc
    obtain ⟨dN,Wz,jc⟩:=hc
    have oI:v.cells.size=x.cells.length∧∀(j:Nat) u y,v.cells.toList[j]? =some u→x.cells[j]? =some y→an P w I β hp u y:=by
     cases x with
     | agg xs=>
      obtain ⟨cs,rfl,h1,h2⟩:=hv.j7
      exact ⟨h1,fun j u y a b=>h2 j u y (by simpa[Value.cells] using a) b⟩
     | _=>
      simp only[V.cells] at bx jc⊢
      simp only[qU] at bx
      obtain ⟨⟨y1,u1⟩,l3,l4,hq,bx⟩:=j6 bx
      obtain ⟨q1,q2⟩:=Cr S.h.rel hq hv
      obtain ⟨⟨y2,u2⟩,l5,l6,oJ,bx⟩:=j6 bx
      cases oJ
      have:=aJ bx
      cases this
      obtain ⟨tl,tg⟩:=sP jc
      have fv:=tg 0 _ y1 (List.getElem?_eq_getElem (by rw[tl];exact Nat.one_pos)) rfl
      have eU:=q2 (im P w I β hp u1) (fun _ h=> .inl h) (fun p hp b h=> .inr ⟨p,hp,h⟩)
      have ho:=eU.pure fv
      have Hg:v.cells= #[v]:=by cases ho<;>rfl
      rw[Hg]
      refine ⟨rfl,fun j u y hu hy=> ?_⟩
      cases j with
      | zero=>simp at hu hy;subst hu;subst hy;exact hv
      | succ j=>simp at hy
    obtain ⟨k1,k2,k3⟩:=GU S.h.rel bx (vs:=v.cells.toList) (by simpa using oI.1) oI.2
    obtain ⟨pP,S1⟩:=xJ S k2
    have xY:bL hp fr id=some (.arr e es false):=by
     rcases sJ (hp:=hp) (l:=fr) (id:=id) with h|⟨b',hm,_⟩
     ·exact h.trans ae
     ·exfalso
      have j9:jw (fr.map (·.1)) id=true:=u9 (List.mem_map.2 ⟨_,hm,rfl⟩)
      rw[j9] at dN;cases dN
    have Nk:=k3 (im P w I β hp fr) (fun _ h=> .inl h) (fun p hp b h=> .inr ⟨p,hp,h⟩)
    obtain ⟨tl,tg⟩:=sP jc
    have u0:=(jF ax).1
    have sU:ys.length=v.cells.size:=by rw[k1,oI.1]
    have hcn:c+v.cells.size≤P.cellsOf e:=by rw[oI.1];exact Wz
    have hr:=S1.h.rel id _ xY
    cases hr with
    | dM az=>simp at pR
    | @arr _ _ _ b' Ca GZ az hh hs hf ee hx=>
     rw[hb] at az
     cases az
     have kK:i<es.length:=(List.getElem?_eq_some_iff.1 pR).1
     have hbound:i*P.cellsOf e+P.cellsOf e≤Ca.size:=by
      have:(i+1)*P.cellsOf e≤es.length*P.cellsOf e:=Nat.mul_le_mul_right _ kK
      rw[Nat.add_mul] at this
      omega
     simp only[aj.sz]
     have rp:i*P.cellsOf e+c+v.cells.size≤Ca.size:=by omega
     have cO: ¬im P w I β hp fr b:=ee rfl
     have h1: ∀u∈v.cells.toList,u.oneCell'=true:=by
      intro u hu
      obtain ⟨j,hj⟩:=List.getElem?_of_mem hu
      have cX:j<ys.length:=by rw[sU];simpa using (List.getElem?_eq_some_iff.1 hj).1
      have nG:j<(((flat P e).drop c).take x.cells.length).length:=by rw[tl];exact cX
      exact (Nk j u ys[j] hj (List.getElem?_eq_getElem cX)).one (tg j _ ys[j] (List.getElem?_eq_getElem nG) (List.getElem?_eq_getElem cX))
     have cY:=G1 (t:=t) (o:=i*P.cellsOf e+c) (v:=v) ht (by rw[oI.1];exact hn.symm) hh rp h1
     have hlen:(Ca.toList.take (i*P.cellsOf e+c)++(v.cells.toList++Ca.toList.drop (i*P.cellsOf e+c+v.cells.toList.length))).length=Ca.size:=by
      rw[xR _ _ _ (by simpa using rp)];simp
     have eU:(parts P e x0).length=P.cellsOf e:=by rw[u5];exact fu ax
     have xS:=CE S1 (blk':= .arr e (es.set i (cp P e (fC (parts P e x0) c ys))) false)
      (Cb:=(Ca.toList.take (i*P.cellsOf e+c)++(v.cells.toList++Ca.toList.drop (i*P.cellsOf e+c+v.cells.toList.length))).toArray) xY (by simp) ⟨rfl,by simp⟩ hb cO (by simp) hh (by simpa using hlen)
      (fun hle eV=> .arr ax rfl eV (by simp only[List.size_toArray,List.length_set];omega) (fun h=>by cases h) (fun _=>cO) fun i' j z t' hz nG hj=>by
       simp only[List.getElem?_toArray]
       rw[mz _ _ _ _ (by simpa using rp)]
       simp only[Array.length_toList]
       rw[List.getElem?_set] at hz
       by_cases iv:i=i'
       ·subst iv
        rw[if_pos rfl,if_pos kK] at hz
        cases hz
        have CM:j<(parts P e x0).length:=by omega
        have sV:(fC (parts P e x0) c ys)[j]? =if j<c then (parts P e x0)[j]? else if j<c+ys.length then ys[j-c]? else (parts P e x0)[j]? :=by
         unfold fC;exact mz _ _ _ _ (by omega)
        by_cases pL:j<c
        ·rw[if_pos (by omega)]
         rw[if_pos pL] at sV
         obtain ⟨u,t2,a1,a2,a3⟩:=Cz hx ax pR (List.getElem?_eq_getElem CM)
         rw[nG] at a1;cases a1
         refine ⟨u,by simpa using a2,?_⟩
         rw[pM (sV.trans (List.getElem?_eq_getElem CM)) nG]
         exact a3.mono hle.dr hle.b8
        ·rw[if_neg pL] at sV
         by_cases bU:j<c+ys.length
         ·rw[if_pos bU] at sV
          rw[if_neg (by omega),if_pos (by omega)]
          have oK:j-c<ys.length:=by omega
          have Nl:j-c<v.cells.toList.length:=by simp;omega
          have aib:j-c<v.cells.size:=by omega
          refine ⟨v.cells.toList[j-c],?_,?_⟩
          ·rw[show i*P.cellsOf e+j-(i*P.cellsOf e+c)=j-c by omega]
           exact List.getElem?_eq_getElem Nl
          ·rw[pM (sV.trans (List.getElem?_eq_getElem oK)) nG]
           have WA:(((flat P e).drop c).take x.cells.length)[j-c]? =some t':=by
            rw[List.getElem?_take_of_lt (by omega),List.getElem?_drop,show c+(j-c)=j by omega,←rl]
            exact nG
           exact ((Nk (j-c) _ ys[j-c] (List.getElem?_eq_getElem Nl) (List.getElem?_eq_getElem oK)).pure (tg (j-c) t' ys[j-c] WA (List.getElem?_eq_getElem oK))).mono hle.dr hle.b8
         ·rw[if_neg bU] at sV
          rw[if_neg (by omega),if_neg (by omega)]
          obtain ⟨u,t2,a1,a2,a3⟩:=Cz hx ax pR (List.getElem?_eq_getElem CM)
          rw[nG] at a1;cases a1
          refine ⟨u,by simpa using a2,?_⟩
          rw[pM (sV.trans (List.getElem?_eq_getElem CM)) nG]
          exact a3.mono hle.dr hle.b8
       ·rw[if_neg iv] at hz
        obtain ⟨u,a2,a3⟩:=hx i' j z t' hz nG hj
        have bM:i'*P.cellsOf e+j<i*P.cellsOf e+c∨i*P.cellsOf e+c+v.cells.size≤i'*P.cellsOf e+j:=by
         rcases Nat.lt_or_ge i' i with aR|oL
         ·left
          have:(i'+1)*P.cellsOf e≤i*P.cellsOf e:=Nat.mul_le_mul_right _ aR
          rw[Nat.add_mul] at this
          omega
         ·right
          have:(i+1)*P.cellsOf e≤i'*P.cellsOf e:=Nat.mul_le_mul_right _ (by omega)
          rw[Nat.add_mul] at this
          omega
        refine ⟨u,?_,a3.mono hle.dr hle.b8⟩
        rcases bM with bM|bM
        ·rw[if_pos bM];simpa using a2
        ·rw[if_neg (by omega),if_neg (by omega)];simpa using a2)
     exact ⟨_,_,_,cY,pP.trans xS.1,xS.2,rfl⟩
   | map _ _=>cases h
   | nest e es ao=>
    obtain ⟨b,hb,rfl⟩:=ha.gB ae (by simp)
    exact Ni S ht hn hv ae hb .here h
 | cA id ver path i c=>
  obtain ⟨e0,es,ao,l,ae,h1,h2,h3,h⟩:=nA h
  obtain ⟨b,b1,e1,l1,hb,dt,rfl⟩:=ha.MS ae h1 h2 h3
  exact Ni S ht hn hv ae hb dt h
 | _=>cases h
end
end Go.AM
namespace Go.AM
section
variable {P:Program} {w w':World} {I I':Nat→Prop} {β au:Nat→Option Nat} {hp hp':Nat→Option aj} {C:af} {B:Nat} {M:Nat→Prop} {w0:Start}
theorem Hh: ∀{ts:List TypeId} {vs:List Value} {j:Nat} {y:V},(iF P ts vs)[j]? =some y→∃t v,ts[j]? =some t∧vs[j]? =some v∧y=ow P t v
 | [],vs,j,y,h=>by simp[iF] at h
 | _::_,[],j,y,h=>by simp[iF] at h
 | t::ts,v::vs,0,y,h=>by simp[iF] at h;exact ⟨t,v,rfl,rfl,h.symm⟩
 | t::ts,v::vs,j+1,y,h=>by
  simp only[iF,List.getElem?_cons_succ] at h
  obtain ⟨t',v',a,b,c⟩:=Hh h
  exact ⟨t',v',by simpa using a,by simpa using b,c⟩
theorem Nm: ∀{ts:List TypeId} {vs:List Value},ts.length=vs.length→(iF P ts vs).length=vs.length
 | [],[],_=>rfl
 | [],_::_,h=>by simp at h
 | _::_,[],h=>by simp at h
 | t::ts,v::vs,h=>by simp[iF,Nm (ts:=ts) (vs:=vs) (by simpa using h)]
theorem jH {e:TypeId} (h:cQ P e=true): ∃i z,P.info? e=some i∧i.zero=some z∧i.size=P.cellsOf e∧z.cells.size=P.cellsOf e∧zeroCells P e=iF P (flat P e) z.cells.toList:=by
 unfold cQ at h
 simp only[Bool.and_eq_true,Nat.beq_eq,Nat.blt_eq] at h
 obtain ⟨h1,h2,_,h3⟩:=h
 cases hi:P.info? e with
 | none=>rw[hi] at h3;cases h3
 | some i=>
  rw[hi] at h3
  simp only[Option.bind_some] at h3
  cases hz:i.zero with
  | none=>rw[hz] at h3;cases h3
  | some z=>
   rw[hz] at h3
   simp only[Nat.beq_eq] at h3
   exact ⟨i,z,rfl,hz,by simp[Program.cellsOf,hi],h3,by simp[zeroCells,hi,hz]⟩
theorem Nn {e:TypeId} (h:cQ P e=true): ∃i z,P.info? e=some i∧i.zero=some z∧z.cells.size=(zeroCells P e).length∧z.cells.size=P.cellsOf e∧
  ∀(j:Nat) v x,z.cells[j]? =some v→(zeroCells P e)[j]? =some x→an P w I β hp v x:=by
 obtain ⟨i,z,h1,h2,h3,h4,h5⟩:=jH h
 have hl:(flat P e).length=z.cells.toList.length:=by rw[(jF h).1];simpa using h4.symm
 refine ⟨i,z,h1,h2,?_,h4,fun j v x hv hx=> ?_⟩
 ·rw[h5,Nm hl];simp
 ·rw[h5] at hx
  obtain ⟨t,v',_,u6,rfl⟩:=Hh hx
  have:v'=v:=by
   have e1:z.cells[j]? =some v':=by simpa using u6
   rw[hv] at e1;exact (Option.some.inj e1).symm
  subst this
  exact an.const t v'
theorem mB {nb:Nat} {b:aj} {v:V} {upd:List (Nat × aj)} {r:R} {rd:List Nat} (h:(iH nb b v upd).run C hp=some (r,rd)):hp nb=none∧r=⟨v,(nb,b)::upd⟩:=by
 obtain ⟨l,h⟩:=run_get h
 cases hn:hp nb with
 | none=>rw[hn] at h;exact ⟨rfl,(aJ h).symm⟩
 | some x=>rw[hn] at h;cases h
theorem No (S:aE P w I β hp B M w0) {nb:Nat} {xs:List V} {C0:Array Value} {T:TypeId} (hn:hp nb=none) (hs:C0.size=xs.length)
  (hx: ∀(j:Nat) v x,C0[j]? =some v→xs[j]? =some x→an P w I β hp v x) (fX:MN P w.heap.size T C0):
  Le P w I β hp (w.alloc (.cells C0 T)) I (aH β nb (some w.heap.size)) (aH hp nb (some (.var T xs)))∧aE P (w.alloc (.cells C0 T)) I (aH β nb (some w.heap.size)) (aH hp nb (some (.var T xs))) B M w0∧
  an P (w.alloc (.cells C0 T)) I (aH β nb (some w.heap.size)) (aH hp nb (some (.var T xs))) (.pointer (some ⟨w.heap.size,0,none⟩)) (.ptr nb 0 0):=by
 obtain ⟨h1,h2⟩:=GV S (blk:= .var T xs) (c:=C0) (T:=T) hn (fun b' h=>(Option.some.inj (h.flat (by simp))).symm) (fun hle eV cO=> .var rfl eV hs cO (fun j v x a b=>(hx j v x a b).mono hle) fX)
 refine ⟨h1,h2,?_⟩
 have:=an.ptr (P:=P) (w:=w.alloc (.cells C0 T)) (I:=I) (β:=aH β nb (some w.heap.size)) (hp:=aH hp nb (some (.var T xs))) (i:=0) (c:=0) (blk:= .var T xs) (cW _ _ _) (by simp) (cW _ _ _)
 simpa using this
theorem WB (S:aE P w I β hp B M w0) {e:TypeId} {nb:Nat} {r:R} {rd:List Nat}
  (h:(Rd.aB (cQ P e&&(!(ox P e)||MJ (zeroCells P e))) (iH nb (.var e (zeroCells P e)) (.ptr nb 0 0) [])).run C hp=some (r,rd)):db P ((Instr.alloc e true (.tuple #[])).run P w) w I β hp B M w0 r:=by
 obtain ⟨ax,h⟩:=aF h
 rw[Bool.and_eq_true] at ax
 obtain ⟨ax,lD⟩:=ax
 obtain ⟨hn,rfl⟩:=mB h
 obtain ⟨i,z,h1,h2,h3,h4,h5⟩:=Nn (w:=w) (I:=I) (β:=β) (hp:=hp) ax
 obtain ⟨a,b,c⟩:=No S (T:=e) hn h3 h5 fun bN=>by
  rw[bN,Bool.not_true,Bool.false_or] at lD
  cases hz:zeroCells P e with
  | nil=>rw[hz] at lD;cases lD
  | cons y l=>
   rw[hz] at lD h3 h5
   cases y<;>first|(cases lD;done)|skip
   have aR:0<z.cells.size:=by rw[h3];simp
   have:=h5 0 z.cells[0] .dx (Array.getElem?_eq_getElem aR) rfl
   left
   rw[Array.getElem?_eq_getElem aR]
   generalize z.cells[0]=u at this
   cases this;rfl
 exact ⟨_,_,_,_,by simp[Instr.alloc,zeroValue,typeInfo,h1,h2,newVar,newRow],a,b,c⟩
theorem WC (S:aE P w I β hp B M w0) {e:TypeId} {nb:Nat} {x:V} {v:Value} {r:R} {rd:List Nat} (hv:an P w I β hp v x)
  (h:(Rd.aB (!(ox P e)) <| kD x.cells (iH nb (.var e x.cells) (.ptr nb 0 0) [])).run C hp=some (r,rd)):db P ((Instr.box e v).run P w) w I β hp B M w0 r:=by
 obtain ⟨lD,h⟩:=aF h
 obtain ⟨e1,e2⟩:=G0 hv h
 obtain ⟨_,l,h⟩:=CD h (vs:=v.cells.toList) (by simpa using e1) (fun j u y a b=>e2 j u y (by simpa using a) b)
 obtain ⟨hn,rfl⟩:=mB h
 obtain ⟨a,b,c⟩:=No S (T:=e) hn e1 e2 fun bN=>by rw[bN] at lD;cases lD
 exact ⟨_,_,_,_,by simp[Instr.box,newVar,newRow],a,b,c⟩
theorem foldl_set (off:Nat): ∀(vs:List Value) (k:Nat) (cs:Array Value) (i:Nat),off+k+vs.length≤cs.size→
  ((vs.zipIdx k).foldl (fun cs p=>cs.setIfInBounds (off+p.2) p.1) cs)[i]? =if i<off+k then cs[i]? else if i<off+k+vs.length then vs[i-(off+k)]? else cs[i]?
 | [],k,cs,i,h=>by simp;intro h1 h2;omega
 | v::vs,k,cs,i,h=>by
  simp only[List.zipIdx_cons,List.foldl_cons]
  simp only[List.length_cons] at h⊢
  rw[foldl_set off vs (k+1) _ i (by simp;omega)]
  by_cases h1:i<off+k
  ·rw[if_pos (by omega),if_pos h1]
   rw[Array.getElem?_setIfInBounds_ne (by omega)]
  ·rw[if_neg h1]
   by_cases h2:i=off+k
   ·subst h2
    rw[if_pos (by omega),if_pos (by omega)]
    rw[Array.getElem?_setIfInBounds_self_of_lt (by omega)]
    simp
   ·rw[if_neg (by omega)]
    by_cases h3:i<off+k+(vs.length+1)
    ·rw[if_pos (by omega),if_pos h3,show i-(off+k)=(i-(off+(k+1)))+1 by omega]
     simp
    ·rw[if_neg (by omega),if_neg h3,Array.getElem?_setIfInBounds_ne (by omega)]
theorem Np (off:Nat): ∀(vs:List Value) (k:Nat) (cs:Array Value),((vs.zipIdx k).foldl (fun cs p=>cs.setIfInBounds (off+p.2) p.1) cs).size=cs.size
 | [],k,cs=>rfl
 | v::vs,k,cs=>by
  simp only[List.zipIdx_cons,List.foldl_cons]
  rw[Np off vs (k+1)]
  simp
theorem Nq {cells:Array Value} {off:Nat} {v:Value} (h:off+v.cells.size≤cells.size) (i:Nat):
  (v.cells.zipIdx.foldl (fun cs (p:Value × Nat)=>cs.setIfInBounds (off+p.2) p.1) cells)[i]? =if i<off then cells[i]? else if i<off+v.cells.size then v.cells[i-off]? else cells[i]? :=by
 have:=foldl_set off v.cells.toList 0 cells i (by simpa using h)
 rw[←Array.foldl_toList]
 simpa[Array.toList_zipIdx] using this
theorem Nr {cells:Array Value} {off:Nat} {v:Value}:(v.cells.zipIdx.foldl (fun cs (p:Value × Nat)=>cs.setIfInBounds (off+p.2) p.1) cells).size=cells.size:=by
 have:=Np off v.cells.toList 0 cells
 rw[←Array.foldl_toList]
 simpa[Array.toList_zipIdx] using this
inductive vh (P:Program) (w:World) (I:Nat→Prop) (β:Nat→Option Nat) (hp:Nat→Option aj):List (Nat × Value)→List (Nat × V)→Prop
 | nil:vh P w I β hp [] []
 | cons {i:Nat} {v:Value} {x:V} {vs:List (Nat × Value)} {xs:List (Nat × V)}:v.cells.size=x.cells.length→(∀(j:Nat) u y,v.cells[j]? =some u→x.cells[j]? =some y→an P w I β hp u y)→
   vh P w I β hp vs xs→vh P w I β hp ((i,v)::vs) ((i,x)::xs)
theorem Ns (place:Nat→Option (Nat × Nat)): ∀{vs:List (Nat × Value)} {px:List (Nat × V)} {cells:Array Value} {xs ys:List V},vh P w I β hp vs px→cells.size=xs.length→
  (∀(j:Nat) v x,cells[j]? =some v→xs[j]? =some x→an P w I β hp v x)→su place xs px=some ys→
  ∃oM:Array Value,Instr.fill place cells vs=some oM∧oM.size=ys.length∧∀(j:Nat) v x,oM[j]? =some v→ys[j]? =some x→an P w I β hp v x
 | _,_,cells,xs,ys,.nil,hs,hx,h=>by
  simp only[su,Option.some.injEq] at h
  subst h
  exact ⟨cells,by simp[Instr.fill],hs,hx⟩
 | _,_,cells,xs,ys,@vh.cons _ _ _ _ _ i v x vs px h1 h2 h3,hs,hx,h=>by
  simp only[su] at h
  cases eU:place i with
  | none=>rw[eU] at h;cases h
  | some os=>
   obtain ⟨off,size⟩:=os
   rw[eU] at h
   simp only at h
   cases hc:(Nat.beq x.cells.length size&&Nat.ble (off+size) xs.length) with
   | false=>rw[hc] at h;cases h
   | true=>
    rw[hc] at h
    simp only[cond_true] at h
    simp only[Bool.and_eq_true,Nat.beq_eq,Nat.ble_eq] at hc
    have hv:off+v.cells.size≤cells.size:=by omega
    have hb:off+x.cells.length≤xs.length:=by omega
    have hl:(fC xs off x.cells).length=xs.length:=xR _ _ _ hb
    obtain ⟨oM,f1,f2,f3⟩:=Ns place (cells:=v.cells.zipIdx.foldl (fun cs (p:Value × Nat)=>cs.setIfInBounds (off+p.2) p.1) cells) (xs:=fC xs off x.cells) h3 (by rw[Nr,hl,hs])
     (fun j u y hu hy=>by
      rw[Nq hv] at hu
      unfold fC at hy
      rw[mz _ _ _ _ hb] at hy
      by_cases j1:j<off
      ·rw[if_pos j1] at hu hy;exact hx j u y hu hy
      ·rw[if_neg j1] at hu hy
       by_cases j2:j<off+x.cells.length
       ·rw[if_pos (by omega)] at hu
        rw[if_pos j2] at hy
        exact h2 (j-off) u y hu hy
       ·rw[if_neg (by omega)] at hu
        rw[if_neg j2] at hy
        exact hx j u y hu hy) h
    refine ⟨oM,?_,f2,f3⟩
    simp only[Instr.fill,eU]
    rw[if_neg (by simp;omega)]
    exact f1
theorem WD {t:TypeId} {parts:Array (Nat × Value)} {cells:Array Value} {z:Value} {i:TypeInfo} (hi:P.info? t=some i) (hz:i.zero=some z) (h:Instr.fill (placeOf P t) z.cells parts.toList=some cells) (ha:bH P t=true)
  (eU: ∀fs,P.underlying t=some (.struct fs)→(fs.toList.mapM fun f=>(P.info? f.type).map fun i=>(f.offset,i.size)).isSome=true) (pS: ∀n e,P.underlying t=some (.array n e)→(P.info? e).isSome=true):
  (Instr.build t parts).run P w= .ok (.agg cells) w:=by
 refine run_build w t parts cells ?_
 unfold Program.built
 unfold bH at ha
 rw[hi]
 split at ha
 ·rename_i fs hu
  have:=eU fs hu
  cases hm:fs.toList.mapM fun f=>(P.info? f.type).map fun i=>(f.offset,i.size) with
  | none=>rw[hm] at this;cases this
  | some places=>
   simp only[hu,hz,hm]
   have hq:placeOf P t=fun i=>places[i]? :=by simp[placeOf,hu,hm]
   rw[hq] at h
   simpa using h
 ·rename_i n e hu
  have:=pS n e hu
  cases jg:P.info? e with
  | none=>rw[jg] at this;cases this
  | some ie=>
   simp only[hu,hz,jg]
   have hq:placeOf P t=fun i=>some (i*ie.size,ie.size):=by simp[placeOf,hu,jg]
   rw[hq] at h
   exact h
 ·cases ha
theorem Nt {α:Type}: ∀(xs ys:List V) (k:Rd α),kD (xs++ys) k=kD xs (kD ys k)
 | [],_,_=>rfl
 | x::xs,ys,k=>by simp only[List.cons_append,kD,Nt xs ys k]
theorem Nu {a:Act} {sl:Nat→V} (hs:j5 P w I β hp a sl) {G:Nat→V} (hg:gy P G w I) (t:TypeId) {α:Type}: ∀{l:List (Nat × Operand)} {k:Rd α} {r:α} {rd:List Nat},
  (kD ((l.map fun p=>(aK P G t sl p.2).cells).flatten) k).run C hp=some (r,rd)→
  vh P w I β hp (l.map fun p=>(p.1,a.eval p.2)) (l.map fun p=>(p.1,aK P G t sl p.2))∧∃eW,k.run C hp=some (r,eW)
 | [],k,r,rd,h=>⟨.nil,rd,h⟩
 | (i,x)::l,k,r,rd,h=>by
  simp only[List.map_cons,List.flatten_cons,Nt] at h
  obtain ⟨e1,e2⟩:=G0 (hs.ev hg t x) h
  obtain ⟨_,l1,h⟩:=CD h (vs:=(a.eval x).cells.toList) (by simpa using e1) (fun j u y a b=>e2 j u y (by simpa using a) b)
  obtain ⟨h1,h2⟩:=Nu hs hg t h
  exact ⟨.cons e1 e2 h1,h2⟩
theorem WE (S:aE P w I β hp B M w0) {a:Act} {sl:Nat→V} (hs:j5 P w I β hp a sl) {G:Nat→V} (hg:gy P G w I) {t ty:TypeId} {ps:Array (Nat × Operand)} {r:R} {rd:List Nat}
  (h:(Rd.aB (cQ P t&&(bH P t&&Cd P t)) (kD ((ps.toList.map fun p=>(aK P G ty sl p.2).cells).flatten)
   (uL (su (placeOf P t) (zeroCells P t) (ps.toList.map fun p=>(p.1,aK P G ty sl p.2))) fun cs=> .ret ⟨.agg cs,[]⟩))).run C hp=some (r,rd)):
  db P ((Instr.build t (ps.map fun (i,x)=>(i,a.eval x))).run P w) w I β hp B M w0 r:=by
 obtain ⟨ax,h⟩:=aF h
 simp only[Bool.and_eq_true] at ax
 obtain ⟨h1,l,h⟩:=Nu hs hg ty h
 cases hf:su (placeOf P t) (zeroCells P t) (ps.toList.map fun p=>(p.1,aK P G ty sl p.2)) with
 | none=>rw[hf] at h;cases h
 | some cs=>
  rw[hf] at h
  obtain rfl:=aJ h
  obtain ⟨i,z,hi,hz,h3,h4,h5⟩:=Nn (w:=w) (I:=I) (β:=β) (hp:=hp) ax.1
  obtain ⟨cells,f1,f2,f3⟩:=Ns (placeOf P t) h1 h3 h5 hf
  have Nv:=ax.2.2
  refine .same S (v:= .agg cells) (WD hi hz (by simpa using f1) ax.2.1 (fun fs hu=> ?_) (fun n e hu=> ?_)) (.agg f2 f3)
  ·simpa[Cd,hu] using Nv
  ·simpa[Cd,hu] using Nv
theorem WG (cD: ∀id blk,hp id=some blk→dW P w I β hp (β id) blk) {x:V} {v:Value} {ys:List V} {fr:List (Nat × aj)} {rd:List Nat} {ts:List TypeId} (hv:an P w I β hp v x)
  (h:(qU P x.cells).run C hp=some ((ys,fr),rd)) (ht:pw P ts ys=true):
  v.cells.size=x.cells.length∧∀(j:Nat) u y,v.cells.toList[j]? =some u→x.cells[j]? =some y→an P w I β hp u y:=by
 cases x with
 | agg xs=>
  obtain ⟨cs,rfl,h1,h2⟩:=hv.j7
  exact ⟨h1,fun j u y a b=>h2 j u y (by simpa[Value.cells] using a) b⟩
 | _=>
  simp only[V.cells] at h⊢
  simp only[qU] at h
  obtain ⟨⟨y1,u1⟩,l3,l4,hq,h⟩:=j6 h
  obtain ⟨q1,q2⟩:=Cr cD hq hv
  obtain ⟨⟨y2,u2⟩,l5,l6,oJ,h⟩:=j6 h
  cases oJ
  have:=aJ h
  cases this
  obtain ⟨tl,tg⟩:=sP ht
  have fv:=tg 0 _ y1 (List.getElem?_eq_getElem (by rw[tl];exact Nat.one_pos)) rfl
  have eU:=q2 (im P w I β hp u1) (fun _ h=> .inl h) (fun p hp b h=> .inr ⟨p,hp,h⟩)
  have ho:=eU.pure fv
  have Hg:v.cells= #[v]:=by cases ho<;>rfl
  rw[Hg]
  refine ⟨rfl,fun j u y hu hy=> ?_⟩
  cases j with
  | zero=>simp at hu hy;subst hu;subst hy;exact hv
  | succ j=>simp at hy
def vi (P:Program) (w:World) (I:Nat→Prop) (e:TypeId) (cells:Array Value) (es:List V):Prop:=
 cells.size=es.length*P.cellsOf e∧∀(i j:Nat) (x:V) (t':TypeId),es[i]? =some x→(aU P e)[j]? =some t'→j<P.cellsOf e→∃v,cells[i*P.cellsOf e+j]? =some v∧Pure P w I t' v (bJ P e x j)
theorem vi.set {e:TypeId} {cells:Array Value} {es ys:List V} {i:Nat} {v:Value} (h:vi P w I e cells es) (hi:i<es.length) (hv:v.cells.size=P.cellsOf e) (hy:ys.length=P.cellsOf e)
  (hr: ∀(j:Nat) (t':TypeId) (u:Value) (y:V),(aU P e)[j]? =some t'→v.cells[j]? =some u→ys[j]? =some y→Pure P w I t' u y):
  vi P w I e (v.cells.zipIdx.foldl (fun cs (p:Value × Nat)=>cs.setIfInBounds (i*P.cellsOf e+p.2) p.1) cells) (es.set i (cp P e ys)):=by
 obtain ⟨h1,h2⟩:=h
 have hb:i*P.cellsOf e+v.cells.size≤cells.size:=by
  have:(i+1)*P.cellsOf e≤es.length*P.cellsOf e:=Nat.mul_le_mul_right _ hi
  rw[Nat.add_mul] at this
  omega
 refine ⟨by rw[Nr,List.length_set,h1],fun i' j x t' hx ht hj=> ?_⟩
 rw[Nq hb]
 rw[List.getElem?_set] at hx
 by_cases iv:i=i'
 ·subst iv
  rw[if_pos rfl,if_pos hi] at hx
  cases hx
  rw[if_neg (by omega),if_pos (by omega),show i*P.cellsOf e+j-i*P.cellsOf e=j by omega]
  have h3:j<v.cells.size:=by omega
  have h4:j<ys.length:=by omega
  refine ⟨v.cells[j],Array.getElem?_eq_getElem h3,?_⟩
  rw[pM (List.getElem?_eq_getElem h4) ht]
  exact hr j t' _ _ ht (Array.getElem?_eq_getElem h3) (List.getElem?_eq_getElem h4)
 ·rw[if_neg iv] at hx
  have bM:i'*P.cellsOf e+j<i*P.cellsOf e∨i*P.cellsOf e+v.cells.size≤i'*P.cellsOf e+j:=by
   rcases Nat.lt_or_ge i' i with aR|oL
   ·left
    have:(i'+1)*P.cellsOf e≤i*P.cellsOf e:=Nat.mul_le_mul_right _ aR
    rw[Nat.add_mul] at this
    omega
   ·right
    have:(i+1)*P.cellsOf e≤i'*P.cellsOf e:=Nat.mul_le_mul_right _ (by omega)
    rw[Nat.add_mul] at this
    omega
  rcases bM with bM|bM
  ·rw[if_pos bM];exact h2 i' j x t' hx ht hj
  ·rw[if_neg (by omega),if_neg (by omega)];exact h2 i' j x t' hx ht hj
theorem WH {t':TypeId} {v:Value} (fv:eC P t' (uF (ow P t' v))=true):Pure P w I t' v (uF (ow P t' v)):=by
 have hc:=an.const (P:=P) (w:=w) (I:=I) (β:=fun _=>none) (hp:=fun _=>none) t' v
 cases sW:ow P t' v<;>rw[sW] at fv hc<;>simp only[uF] at fv⊢
 case int k n=>rw[hc.ew];exact Plain.pure (v:= .int k n) (y:= .int k n) rfl fv
 case bool b=>rw[hc.je];exact Plain.pure (v:= .bool b) (y:= .bool b) rfl fv
 case str l=>obtain ⟨s,e1,e2⟩:=hc.lC;rw[e1];exact Plain.pure (v:= .string s) (y:= .str l) ⟨s,rfl,e2⟩ fv
 case nilS e'=>
  cases hc
  exact Plain.pure (y:= .list e' []) (ik.any fun _=>rfl) fv
 case list e' es=>
  cases hc with
  | list hp=>exact Plain.pure (y:= .list e' es) hp fv
 all_goals (unfold eC at fv;split at fv<;>simp_all)
theorem xZ {e:TypeId} (h:lu P e=true): ∃i z,P.info? e=some i∧i.zero=some z∧i.size=P.cellsOf e∧z.cells.size=P.cellsOf e∧
  ∀(j:Nat) (t':TypeId),(aU P e)[j]? =some t'→j<P.cellsOf e→∃v,z.cells[j]? =some v∧Pure P w I t' v (bJ P e (cp P e (eJ P e)) j):=by
 unfold lu at h
 simp only[Bool.and_eq_true] at h
 obtain ⟨i,z,h1,h2,h3,h4,h5⟩:=jH h.1
 refine ⟨i,z,h1,h2,h3,h4,fun j t' ht hj=> ?_⟩
 obtain ⟨tl,tg⟩:=sP h.2
 have cX:j<(eJ P e).length:=by rw[←tl,(jF h.1).1];exact hj
 have hz:=List.getElem?_eq_getElem cX
 have fv:=tg j t' _ (by rw[←rl];exact ht) hz
 refine ⟨z.cells[j],Array.getElem?_eq_getElem (by omega),?_⟩
 rw[pM hz ht]
 have sX:(eJ P e)[j]=uF (ow P t' z.cells[j]):=by
  have:(eJ P e)[j]? =((zeroCells P e)[j]?).map uF:=by simp[eJ]
  rw[hz] at this
  cases hc:(zeroCells P e)[j]? with
  | none=>rw[hc] at this;cases this
  | some y=>
   rw[hc] at this
   simp only[Option.map_some,Option.some.injEq] at this
   rw[h5] at hc
   obtain ⟨t2,v2,a1,a2,rfl⟩:=Hh hc
   have Hi:t2=t':=by
    rw[←rl,ht] at a1;exact (Option.some.inj a1).symm
   have pF:v2=z.cells[j]:=by
    have WI:j<z.cells.size:=by omega
    have:z.cells.toList[j]? =some z.cells[j]:=by simp[WI]
    rw[this] at a2;exact (Option.some.inj a2).symm
   rw[this,Hi,pF]
 rw[sX] at fv⊢
 exact WH fv
end
end Go.AM
namespace Go.AM
section
variable {P:Program} {w w':World} {I I':Nat→Prop} {β au:Nat→Option Nat} {hp hp':Nat→Option aj} {C:af} {B:Nat} {M:Nat→Prop} {w0:Start}
theorem vj (S:aE P w I β hp B M w0) {nb cap:Nat} {e:TypeId} {es:List V} {C0:Array Value} (ax:cQ P e=true) (hn:hp nb=none) (hs:C0.size=cap*P.cellsOf e) (hl:es.length≤cap) (hm:cap≤maxLen)
  (hx: ∀(i j:Nat) (x:V) (t':TypeId),es[i]? =some x→(aU P e)[j]? =some t'→j<P.cellsOf e→∃v,C0[i*P.cellsOf e+j]? =some v∧Pure P w I t' v (bJ P e x j)):
  Le P w I β hp (w.alloc (.cells C0 e)) I (aH β nb (some w.heap.size)) (aH hp nb (some (.arr e es false)))∧aE P (w.alloc (.cells C0 e)) I (aH β nb (some w.heap.size)) (aH hp nb (some (.arr e es false))) B M w0∧
  an P (w.alloc (.cells C0 e)) I (aH β nb (some w.heap.size)) (aH hp nb (some (.arr e es false))) (.slice (some ⟨w.heap.size,0,none⟩) es.length cap) (.whole e nb):=by
 obtain ⟨h1,h2⟩:=GV S (blk:= .arr e es false) (c:=C0) (T:=e) hn (fun b' h=>(Option.some.inj (h.flat (by simp))).symm) (fun hle eV cO=> .arr ax rfl eV (by rw[hs];exact Nat.mul_le_mul_right _ hl) (fun h=>by cases h) (fun _=>cO) fun i j x t' a b c=>by
  obtain ⟨v,hv,hp⟩:=hx i j x t' a b c
  exact ⟨v,hv,hp.mono hle.dr hle.b8⟩)
 refine ⟨h1,h2,.whole (cW _ _ _) (cW _ _ _) ?_ hl hm⟩
 rw[mo (heap_alloc_new w (.cells C0 e)),hs]
theorem At.only {b b':Nat} {e e':TypeId} {es aI:List V} {q:Path} (hz: ∀(i j:Nat) x t' e1 l,es[i]? =some x→(aU P e)[j]? =some t'→bJ P e x j= .list e1 l→l=[])
  (h:At P w b e es q b' e' aI):q=[]∧b'=b∧e'=e∧aI=es:=by
 cases h with
 | here=>exact ⟨rfl,rfl,rfl,rfl⟩
 | step h1 h2 h3 h4 h5 h6=>have:=hz _ _ _ _ _ _ h2 h3 h5;subst this;simp at h6
theorem lz.pE {t:TypeId} {v:Value} {x:V} (h:Pure P w I t v x) (hz: ∀e1 l,x= .list e1 l→l=[]):lz P w I t v x:=by
 cases h with
 | int h=>exact .fH (by unfold fD;rw[h]) (.int h)
 | bool h=>exact .fH (by unfold fD;rw[h]) (.bool h)
 | str h hl=>exact .fH (by unfold fD;rw[h]) (.str h hl)
 | nil h=>exact .emp h fun _=>rfl
 | emp h=>exact .emp h fun h=>by cases h
 | list g hu hl _ _ _ _=>
  have:=hz _ _ rfl
  subst this
  simp at hl
  subst hl
  exact .emp hu fun h=>by cases h
theorem WJ (S:aE P w I β hp B M w0) {nb cap:Nat} {e:TypeId} {es:List V} {C0:Array Value} (ax:cQ P e=true) (hn:hp nb=none) (hs:C0.size=cap*P.cellsOf e) (hl:es.length≤cap) (hm:cap≤maxLen)
  (hx: ∀(i j:Nat) (x:V) (t':TypeId),es[i]? =some x→(aU P e)[j]? =some t'→j<P.cellsOf e→∃v,C0[i*P.cellsOf e+j]? =some v∧Pure P w I t' v (bJ P e x j))
  (hz: ∀(i j:Nat) x t' e1 l,es[i]? =some x→(aU P e)[j]? =some t'→bJ P e x j= .list e1 l→l=[]):
  Le P w I β hp (w.alloc (.cells C0 e)) I (aH β nb (some w.heap.size)) (aH hp nb (some (.nest e es [0,0,0])))∧aE P (w.alloc (.cells C0 e)) I (aH β nb (some w.heap.size)) (aH hp nb (some (.nest e es [0,0,0]))) B M w0∧
  an P (w.alloc (.cells C0 e)) I (aH β nb (some w.heap.size)) (aH hp nb (some (.nest e es [0,0,0]))) (.slice (some ⟨w.heap.size,0,none⟩) es.length cap) (.whole e nb):=by
 obtain ⟨h1,h2⟩:=GV S (blk:= .nest e es [0,0,0]) (c:=C0) (T:=e) hn (fun b' h=>by
   cases h with
   | root _ h=>exact (Option.some.inj h).symm
   | row h ha=>cases h;exact (At.only hz ha).2.1)
  (fun hle eV cO=> .nest rfl (fun q b' e' aI ha=>by
   obtain ⟨rfl,rfl,rfl,rfl⟩:=At.only hz ha
   refine ⟨ax,⟨C0,eV,by rw[hs];exact Nat.mul_le_mul_right _ hl,fun i j x t' a b c=> ?_⟩,cO⟩
   obtain ⟨v,hv,hp⟩:=hx i j x t' a b c
   exact ⟨v,hv,.pE (hp.mono hle.dr hle.b8) fun e1 l h=>hz i j x t' e1 l a b h⟩)
   fun q1 q2 b' e1 cd e2 bZ a1 a2=>(At.only hz a1).1.trans (At.only hz a2).1.symm)
 refine ⟨h1,h2,.eu (cW _ _ _) (cW _ _ _) ?_ hl hm⟩
 rw[mo (heap_alloc_new w (.cells C0 e)),hs]
theorem Nw (cD: ∀id blk,hp id=some blk→dW P w I β hp (β id) blk) {a:Act} {sl:Nat→V} (hs:j5 P w I β hp a sl) {G:Nat→V} (hg:gy P G w I) {e:TypeId} {len:Nat}: ∀{l:List (Nat × Operand)} {ps:List (Nat × V)} {upd:List (Nat × aj)} {rd:List Nat},
  (xh P e len (l.map fun p=>(p.1,aK P G e sl p.2))).run C hp=some ((ps,upd),rd)→cQ P e=true→(∀p∈upd,xE hp p)∧∀I':Nat→Prop,(∀b,I b→I' b)→(∀p∈upd,∀b,rk P w β hp p.1 b→I' b)→
   ∀(cells:Array Value) (es:List V),es.length=len→vi P w I' e cells es→∃oM,Instr.fill (fun i=>some (i*P.cellsOf e,P.cellsOf e)) cells (l.map fun p=>(p.1,a.eval p.2))=some oM∧vi P w I' e oM (xg es ps)∧(xg es ps).length=len
 | [],ps,upd,rd,h,_=>by
  cases h
  exact ⟨by simp,fun I' _ _ cells es hl he=>⟨cells,by simp[Instr.fill],he,hl⟩⟩
 | (i,x)::l,ps,upd,rd,h,ax=>by
  simp only[List.map_cons,xh] at h
  obtain ⟨⟨ys,u1⟩,l1,l2,h1,h⟩:=j6 h
  obtain ⟨hc,h⟩:=aF h
  obtain ⟨⟨ps',u2⟩,l3,l4,h2,h⟩:=j6 h
  have:=aJ h
  cases this
  simp only[Bool.and_eq_true,Nat.blt_eq] at hc
  obtain ⟨hi,fv⟩:=hc
  obtain ⟨tl,tg⟩:=sP fv
  have u7:=hs.ev hg e x
  obtain ⟨v1,v2⟩:=WG cD u7 h1 fv
  obtain ⟨k1,k2,k3⟩:=GU cD h1 (vs:=(a.eval x).cells.toList) (by simpa using v1) v2
  obtain ⟨m1,m2⟩:=Nw cD hs hg h2 ax
  refine ⟨fun p hp=> ?_,fun I' i1 i2 cells es hl he=> ?_⟩
  ·rcases List.mem_append.1 hp with h|h
   ·exact k2 p h
   ·exact m1 p h
  ·have eU:=k3 I' i1 (fun p hp=>i2 p (List.mem_append.2 (.inl hp)))
   have aZ:=(jF ax).1
   have sU:ys.length=P.cellsOf e:=by rw[←tl,aZ]
   have M9:(a.eval x).cells.size=P.cellsOf e:=by rw[v1,←k1,sU]
   have sY:=he.set (i:=i) (ys:=ys) (by omega) M9 sU (fun j t' u y ht hu hy=>by
    exact (eU j u y (by simpa using hu) hy).pure (tg j t' y (by rw[←rl];exact ht) hy))
   obtain ⟨oM,f1,f2,f3⟩:=m2 I' i1 (fun p hp=>i2 p (List.mem_append.2 (.inr hp))) _ (es.set i (cp P e ys)) (by simpa using hl) sY
   refine ⟨oM,?_,f2,f3⟩
   have hb:i*P.cellsOf e+P.cellsOf e≤cells.size:=by
    rw[he.1,hl]
    have:(i+1)*P.cellsOf e≤len*P.cellsOf e:=Nat.mul_le_mul_right _ hi
    rw[Nat.add_mul] at this
    omega
   simp only[List.map_cons,Instr.fill]
   rw[if_neg (by simp;omega)]
   exact f1
theorem Nx {z:Array Value} {n k:Nat} (hk:k<n) (hz:0<z.size):((Array.range n).map (z[· %z.size]!))[k]? =z[k %z.size]? :=by
 have hm:k %z.size<z.size:=Nat.mod_lt _ hz
 simp[hk,hm]
theorem CN {e:TypeId} (h:lu P e=true) {i:TypeInfo} {z:Value} (hi:P.info? e=some i) (hz:i.zero=some z) (n m:Nat) (nq:n≤m):
  ∀(k j:Nat) (x:V) (t':TypeId),(List.replicate n (cp P e (eJ P e)))[k]? =some x→(aU P e)[j]? =some t'→j<P.cellsOf e→
   ∃v,((Array.range (m*P.cellsOf e)).map (z.cells[· %z.cells.size]!))[k*P.cellsOf e+j]? =some v∧Pure P w I t' v (bJ P e x j):=by
 intro k j x t' hx ht hj
 obtain ⟨i2,z2,h1,h2,h3,h4,h5⟩:=xZ (w:=w) (I:=I) h
 rw[hi] at h1;cases h1
 rw[hz] at h2;cases h2
 rw[List.getElem?_replicate] at hx
 split at hx
 ·rename_i hk
  cases hx
  obtain ⟨v,hv,hp⟩:=h5 j t' ht hj
  refine ⟨v,?_,hp⟩
  have hb:k*P.cellsOf e+j<m*P.cellsOf e:=by
   have:(k+1)*P.cellsOf e≤m*P.cellsOf e:=Nat.mul_le_mul_right _ (by omega)
   rw[Nat.add_mul] at this
   omega
  rw[Nx hb (by omega),h4,show (k*P.cellsOf e+j) %P.cellsOf e=j by rw[Nat.mul_comm,Nat.mul_add_mod];exact Nat.mod_eq_of_lt hj]
  exact hv
 ·cases hx
theorem WK {P:Program} (w:World) (t e:TypeId) (len:Nat) (parts:Array (Nat × Value)) (cells:Array Value) (ie:TypeInfo) (z:Value)
  (hu:P.underlying t=some (.slice e)) (jg:P.info? e=some ie) (hz:ie.zero=some z) (WM: ¬len*ie.size>2^24)
  (h:Instr.fill (fun i=>some (i*ie.size,ie.size)) ((Array.range (len*ie.size)).map (z.cells[· %z.cells.size]!)) parts.toList=some cells):
  (Instr.buildSlice t len parts).run P w= .ok (.slice (some ⟨w.heap.size,0,none⟩) len len) (w.alloc (.cells cells e)):=by
 by_cases nq:len*ie.size=0
 ·have h0: ∀g:Nat→Value,(Array.range (len*ie.size)).map g= #[]:=by intro g;exact Array.eq_empty_of_size_eq_zero (by simp[nq])
  have hp: ∀(u:Array Value),(Pure.pure u:Sem (Array Value)).run P w= .ok u w:=fun _=>rfl
  rw[h0] at h
  simp only[Instr.buildSlice,Sem.run_bind,run_underlying hu,Result.andThen_ok,sizeOf,typeInfo,jg]
  have h1:(Array.range (len*ie.size)).map (fun _:Nat=>(default:Value))= #[]:=h0 _
  have hs: ¬16777216<len*ie.size:=by omega
  simp[jg,hs,nq]
  simp only[nq] at h1
  simp[h1,h,newRow]
 ·exact run_buildSlice w t e len parts cells ie z hu jg hz WM nq h
theorem WN (S:aE P w I β hp B M w0) {a:Act} {sl:Nat→V} (hs:j5 P w I β hp a sl) {G:Nat→V} (hg:gy P G w I) {t e:TypeId} {len nb:Nat} {ps:Array (Nat × Operand)} {r:R} {rd:List Nat} (hu:P.underlying t=some (.slice e))
  (h:(Rd.aB (lu P e&&Nat.ble (len*P.cellsOf e) (2^24)) ((xh P e len (ps.toList.map fun p=>(p.1,aK P G e sl p.2))).bind fun r=>
    iH nb (.arr e (xg (List.replicate len (cp P e (eJ P e))) r.1) false) (.whole e nb) r.2)).run C hp=some (r,rd)):
  db P ((Instr.buildSlice t len (ps.map fun (i,x)=>(i,a.eval x))).run P w) w I β hp B M w0 r:=by
 obtain ⟨hc,h⟩:=aF h
 simp only[Bool.and_eq_true,Nat.ble_eq] at hc
 obtain ⟨cS,uU⟩:=hc
 have ax:cQ P e=true:=by
  unfold lu at cS;simp only[Bool.and_eq_true] at cS;exact cS.1
 obtain ⟨⟨pv,upd⟩,l1,l2,h1,h⟩:=j6 h
 obtain ⟨hn,rfl⟩:=mB h
 obtain ⟨m1,m2⟩:=Nw S.h.rel hs hg h1 ax
 obtain ⟨pP,S1⟩:=xJ S m1
 obtain ⟨i,z,hi,hz,h3,h4,_⟩:=xZ (w:=w) (I:=I) cS
 have il:=(jF ax).2
 have h0:vi P w (im P w I β hp upd) e ((Array.range (len*P.cellsOf e)).map (z.cells[· %z.cells.size]!)) (List.replicate len (cp P e (eJ P e))):=
  ⟨by simp,CN cS hi hz len len (Nat.le_refl _)⟩
 obtain ⟨cells,f1,f2,f3⟩:=m2 (im P w I β hp upd) (fun _ h=> .inl h) (fun p hp b h=> .inr ⟨p,hp,h⟩) _ _ (by simp) h0
 have iO:bL hp upd nb=none:=by
  rcases sJ (hp:=hp) (l:=upd) (id:=nb) with h|⟨b',hm,_⟩
  ·exact h.trans hn
  ·obtain ⟨e1,cd,_,h5⟩:=m1 _ hm
   simp only[hn] at h5
   rcases h5 with ⟨_,h5⟩|⟨_,h5⟩<;>cases h5
 have nB:len≤maxLen:=by
  have:len*1≤len*P.cellsOf e:=Nat.mul_le_mul_left _ il
  simp only[maxLen]
  omega
 obtain ⟨n1,n2,n3⟩:=vj S1 (cap:=len) ax iO (by rw[f2.1,f3]) (by rw[f3];exact Nat.le_refl _) nB f2.2
 have cY:=WK w t e len (ps.map fun (i,x)=>(i,a.eval x)) cells i z hu hi hz (by rw[h3];omega) (by rw[h3];simpa using f1)
 refine ⟨_,_,_,_,cY,pP.trans n1,n2,?_⟩
 rw[f3] at n3
 exact n3
theorem Ny (S:aE P w I β hp B M w0) {t e:TypeId} {nb:Nat} {kl kc:IntKind} {n m:Int} {r:R} {rd:List Nat} (hu:P.underlying t=some (.slice e))
  (h:(Rd.aB (lu P e&&(decide (0≤n)&&(decide (n≤m)&&Nat.ble (m.toNat*P.bytesOf e) bB)))
    (iH nb (.arr e (List.replicate n.toNat (cp P e (eJ P e))) false) (.whole e nb) [])).run C hp=some (r,rd)):
  db P ((Instr.makeSlice t (.int kl n) (.int kc m)).run P w) w I β hp B M w0 r:=by
 obtain ⟨hc,h⟩:=aF h
 simp only[Bool.and_eq_true,Nat.ble_eq,decide_eq_true_eq] at hc
 obtain ⟨cS,h0,nq,eE⟩:=hc
 have ax:cQ P e=true:=by
  unfold lu at cS;simp only[Bool.and_eq_true] at cS;exact cS.1
 obtain ⟨hn,rfl⟩:=mB h
 obtain ⟨i,z,hi,hz,h3,h4,_⟩:=xZ (w:=w) (I:=I) cS
 have lG:P.bytesOf e=i.bytes:=by simp[Program.bytesOf,hi]
 have Hj:m≤9223372036854775807:=by
  have h1:m.toNat*1≤m.toNat*P.bytesOf e:=Nat.mul_le_mul_left _ (uX ax)
  simp only[bB] at eE
  omega
 have cY:=run_make (P:=P) w t e i z hu hi hz kl kc n m h0 nq (by
  rw[lG] at eE
  simp only[bB] at eE
  have:(i.bytes:Int)*m=((m.toNat*i.bytes:Nat):Int):=by
   rw[Int.natCast_mul,Int.toNat_of_nonneg (by omega),Int.mul_comm]
  rw[this]
  omega) Hj
 have hlen:(List.replicate n.toNat (cp P e (eJ P e))).length=n.toNat:=by simp
 obtain ⟨n1,n2,n3⟩:=vj S (cap:=m.toNat) (es:=List.replicate n.toNat (cp P e (eJ P e))) (C0:=madeCells z.cells (m.toNat*i.size)) ax hn (by rw[size_madeCells,h3]) (by rw[hlen];omega) (by simp only[maxLen];omega)
  (by rw[h3];exact CN cS hi hz n.toNat m.toNat (by omega))
 refine ⟨_,_,_,_,cY,n1,n2,?_⟩
 rw[hlen] at n3
 exact n3
theorem Hk: ∀{l:List V} {j:Nat} {e1:TypeId} {k:List V},xq l=true→V.nth l j= .list e1 k→k=[]
 | [],j,e1,k,_,h=>by cases j<;>cases h
 | x::l,0,e1,k,hn,h=>by
  simp only[V.nth] at h
  subst h
  cases k with
  | nil=>rfl
  | cons _ _=>cases hn
 | x::l,j+1,e1,k,hn,h=>by
  refine Hk (l:=l) (j:=j) ?_ h
  cases x with
  | list e2 k2=>
   cases k2 with
   | nil=>exact hn
   | cons _ _=>cases hn
  | _=>exact hn
theorem WO {e:TypeId} {n:Nat} (ax:cQ P e=true) (h:xq (eJ P e)=true):
  ∀(i j:Nat) x t' e1 l,(List.replicate n (cp P e (eJ P e)))[i]? =some x→(aU P e)[j]? =some t'→bJ P e x j= .list e1 l→l=[]:=by
 intro i j x t' e1 l hx ht hl
 have:=List.eq_of_mem_replicate (List.mem_of_getElem? hx)
 subst this
 unfold bJ cp at hl
 cases ha:bH P e with
 | true=>rw[ha] at hl;exact Hk h hl
 | false=>rw[ha] at hl;exact Hk h hl
theorem WQ (S:aE P w I β hp B M w0) {t e:TypeId} {nb:Nat} {kl kc:IntKind} {n m:Int} {r:R} {rd:List Nat} (hu:P.underlying t=some (.slice e))
  (h:(Rd.aB (lu P e&&(decide (0≤n)&&(decide (n≤m)&&Nat.ble (m.toNat*P.bytesOf e) bB)))
    (Rd.aB (xq (eJ P e)) (iH nb (.nest e (List.replicate n.toNat (cp P e (eJ P e))) [0,0,0]) (.whole e nb) []))).run C hp=some (r,rd)):
  db P ((Instr.makeSlice t (.int kl n) (.int kc m)).run P w) w I β hp B M w0 r:=by
 obtain ⟨hc,h⟩:=aF h
 simp only[Bool.and_eq_true,Nat.ble_eq,decide_eq_true_eq] at hc
 obtain ⟨cS,h0,nq,eE⟩:=hc
 have ax:cQ P e=true:=by
  unfold lu at cS;simp only[Bool.and_eq_true] at cS;exact cS.1
 obtain ⟨WR,h⟩:=aF h
 obtain ⟨hn,rfl⟩:=mB h
 obtain ⟨i,z,hi,hz,h3,h4,_⟩:=xZ (w:=w) (I:=I) cS
 have lG:P.bytesOf e=i.bytes:=by simp[Program.bytesOf,hi]
 have Hj:m≤9223372036854775807:=by
  have h1:m.toNat*1≤m.toNat*P.bytesOf e:=Nat.mul_le_mul_left _ (uX ax)
  simp only[bB] at eE
  omega
 have cY:=run_make (P:=P) w t e i z hu hi hz kl kc n m h0 nq (by
  rw[lG] at eE
  simp only[bB] at eE
  have:(i.bytes:Int)*m=((m.toNat*i.bytes:Nat):Int):=by
   rw[Int.natCast_mul,Int.toNat_of_nonneg (by omega),Int.mul_comm]
  rw[this]
  omega) Hj
 have hlen:(List.replicate n.toNat (cp P e (eJ P e))).length=n.toNat:=by simp
 obtain ⟨n1,n2,n3⟩:=WJ S (cap:=m.toNat) (es:=List.replicate n.toNat (cp P e (eJ P e))) (C0:=madeCells z.cells (m.toNat*i.size)) ax hn (by rw[size_madeCells,h3]) (by rw[hlen];omega) (by simp only[maxLen];omega)
  (by rw[h3];exact CN cS hi hz n.toNat m.toNat (by omega))
  (WO ax WR)
 refine ⟨_,_,_,_,cY,n1,n2,?_⟩
 rw[hlen] at n3
 exact n3
theorem Pure.one {t:TypeId} {v:Value} {x:V} (h:Pure P w I t v x):v.oneCell'=true:=by cases h<;>rfl
structure Row (P:Program) (w:World) (I:Nat→Prop) (e:TypeId) (v:Value) (xs:List V) (a:Addr) (c:Nat) (news:List Value):Prop where
 val:v= .slice (some a) xs.length c
 len:news.length=xs.length*P.cellsOf e
 cell: ∀(j:Nat) u,news[j]? =some u→w.cell? (a.add j)=some u
 el: ∀(i j:Nat) (x:V) (t':TypeId),xs[i]? =some x→(aU P e)[j]? =some t'→j<P.cellsOf e→∃u,news[i*P.cellsOf e+j]? =some u∧Pure P w I t' u (bJ P e x j)
theorem Row.one {e:TypeId} {v:Value} {xs:List V} {a:Addr} {c:Nat} {news:List Value} (h:Row P w I e v xs a c news) (ax:cQ P e=true): ∀u∈news,u.oneCell'=true:=by
 intro u hu
 obtain ⟨k,hk⟩:=List.getElem?_of_mem hu
 have kM:=(List.getElem?_eq_some_iff.1 hk).1
 have il:=(jF ax).2
 rw[h.len] at kM
 have hi:k/P.cellsOf e<xs.length:=Nat.div_lt_of_lt_mul (by rw[Nat.mul_comm];exact kM)
 have hj:k %P.cellsOf e<P.cellsOf e:=Nat.mod_lt _ il
 have gj:k %P.cellsOf e<(aU P e).length:=by rw[fu ax];exact hj
 obtain ⟨u',fK,hp⟩:=h.el (k/P.cellsOf e) (k %P.cellsOf e) _ _ (List.getElem?_eq_getElem hi) (List.getElem?_eq_getElem gj) hj
 rw[Nat.div_add_mod'] at fK
 rw[hk] at fK
 cases fK
 exact hp.one
theorem Nz {e:TypeId} {es:List V} {b:Nat} {Ca:Array Value} {off len cap o:Nat} (hh:w.heap[b]? =some (.cells Ca e (0,0))) (hs:es.length*P.cellsOf e≤Ca.size)
  (hx: ∀(i j:Nat) (x:V) (t':TypeId),es[i]? =some x→(aU P e)[j]? =some t'→j<P.cellsOf e→∃v,Ca[i*P.cellsOf e+j]? =some v∧Pure P w I t' v (bJ P e x j))
  (iM:off+len≤es.length) (ho:0<len→o=off*P.cellsOf e):
  Row P w I e (.slice (some ⟨b,o,none⟩) len cap) ((es.drop off).take len) ⟨b,o,none⟩ cap ((Ca.toList.drop (off*P.cellsOf e)).take (len*P.cellsOf e)):=by
 have hlen:((es.drop off).take len).length=len:=by simp;omega
 have hb:(off+len)*P.cellsOf e≤Ca.size:=Nat.le_trans (Nat.mul_le_mul_right _ iM) hs
 rw[Nat.add_mul] at hb
 refine ⟨by rw[hlen],by rw[hlen];simp;omega,fun j u hj=> ?_,fun i j x t' gh ht hj=> ?_⟩
 ·have cX:=(List.getElem?_eq_some_iff.1 hj).1
  have Hl:j<len*P.cellsOf e:=by
   rw[List.length_take] at cX;omega
  have lA:0<len:=by
   rcases Nat.eq_zero_or_pos len with h|h
   ·rw[h] at Hl;simp at Hl
   ·exact h
  rw[List.getElem?_take_of_lt Hl,List.getElem?_drop] at hj
  rw[my,cell?_cells hh,ho lA]
  simpa using hj
 ·have hi:i<len:=by rw[←hlen];exact (List.getElem?_eq_some_iff.1 gh).1
  rw[List.getElem?_take_of_lt hi,List.getElem?_drop] at gh
  obtain ⟨u,hu,hp⟩:=hx (off+i) j x t' gh ht hj
  refine ⟨u,?_,hp⟩
  have:i*P.cellsOf e+j<len*P.cellsOf e:=by
   have:(i+1)*P.cellsOf e≤len*P.cellsOf e:=Nat.mul_le_mul_right _ hi
   rw[Nat.add_mul] at this
   omega
  rw[List.getElem?_take_of_lt this,List.getElem?_drop]
  rw[Nat.add_mul] at hu
  rw[←Nat.add_assoc]
  simpa using hu
theorem CO (cD: ∀id blk,hp id=some blk→dW P w I β hp (β id) blk) {e:TypeId} {v:Value} {x:V} {k:List V→Rd R} {r:R} {rd:List Nat} (ax:cQ P e=true) (hv:an P w I β hp v x)
  (h:(qY e x k).run C hp=some (r,rd)): ∃xs,(((∃a,v= .slice a 0 0)∧xs=[])∨∃a c news,Row P w I e v xs a c news)∧∃l,(k xs).run C hp=some (r,l):=by
 cases hv with
 | list hp'=>
  obtain ⟨hc,h2⟩:=aF h
  clear h
  rw[Nat.beq_eq] at hc
  subst hc
  cases hp' with
  | nil=>exact ⟨[],.inl ⟨⟨_,rfl⟩,rfl⟩,rd,h2⟩
  | @emp a cap=>exact ⟨[],.inr ⟨a,cap,[],⟨rfl,by simp,fun j u hj=>by simp at hj,fun i j x t' hx _ _=>by simp at hx⟩⟩,rd,h2⟩
  | @list b o len cap es g hl b6 hI fW hx=>
   refine ⟨_,.inr ⟨⟨b,o,none⟩,cap,(List.range (len*P.cellsOf e)).map fun k=>g (k/P.cellsOf e) (k %P.cellsOf e),⟨by rw[hl],by rw[hl];simp,fun j u hj=> ?_,fun i j x t' gh ht hj=> ?_⟩⟩,rd,h2⟩
   ·obtain ⟨cX,gU⟩:=List.getElem?_eq_some_iff.1 hj
    simp at cX gU
    have il:=(jF ax).2
    have hi:j/P.cellsOf e<len:=Nat.div_lt_of_lt_mul (by rw[Nat.mul_comm];exact cX)
    have bU:j %P.cellsOf e<P.cellsOf e:=Nat.mod_lt _ il
    rw[my,←gU]
    have:=fW (j/P.cellsOf e) (j %P.cellsOf e) hi bU
    rwa [Nat.div_add_mod'] at this
   ·have hi:i<len:=by rw[←hl];exact (List.getElem?_eq_some_iff.1 gh).1
    have hb:i*P.cellsOf e+j<len*P.cellsOf e:=by
     have:(i+1)*P.cellsOf e≤len*P.cellsOf e:=Nat.mul_le_mul_right _ hi
     rw[Nat.add_mul] at this
     omega
    refine ⟨g i j,?_,hx i j x t' gh ht⟩
    have e1:(i*P.cellsOf e+j)/P.cellsOf e=i:=by
     rw[Nat.mul_comm,Nat.mul_add_div (jF ax).2,Nat.div_eq_of_lt hj,Nat.add_zero]
    have e2:(i*P.cellsOf e+j) %P.cellsOf e=j:=by
     rw[Nat.mul_comm,Nat.mul_add_mod];exact Nat.mod_eq_of_lt hj
    simp[hb,e1,e2]
 | nilS=>
  obtain ⟨hc,h⟩:=aF h
  exact ⟨[],.inl ⟨⟨_,rfl⟩,rfl⟩,rd,h⟩
 | dL ae hb=>
  obtain ⟨l,h⟩:=run_get h
  simp only[ae] at h
  obtain ⟨hc,h⟩:=aF h
  exact ⟨[],.inl ⟨⟨_,rfl⟩,rfl⟩,l,h⟩
 | @whole e' id es fz b cap ae hb aZ b6 hm=>
  obtain ⟨l,h⟩:=run_get h
  simp only[ae] at h
  obtain ⟨hc,h2⟩:=aF h
  clear h
  simp only[Bool.and_eq_true,Nat.beq_eq] at hc
  obtain ⟨rfl,_⟩:=hc
  have hr:=cD _ _ ae
  cases hr with
  | dM az=>rw[az] at hb;cases hb
  | arr GZ az hh hs hf ee hx=>
   rw[hb] at az;cases az
   have:=Nz (cap:=cap) (off:=0) (len:=es.length) (o:=0) hh hs hx (by omega) (fun _=>by simp)
   exact ⟨es,.inr ⟨_,_,_,by simpa using this⟩,l,h2⟩
 | fI ae hb=>
  obtain ⟨l,h⟩:=run_get h
  simp only[ae] at h
  obtain ⟨hc,h⟩:=aF h
  exact ⟨[],.inl ⟨⟨_,rfl⟩,rfl⟩,l,by simpa using h⟩
 | @sub e' id off len es fz b o cap ae hb iM b6 ho=>
  obtain ⟨l,h⟩:=run_get h
  simp only[ae] at h
  obtain ⟨hc,h2⟩:=aF h
  clear h
  simp only[Bool.and_eq_true,Nat.beq_eq] at hc
  obtain ⟨rfl,_⟩:=hc
  have hr:=cD _ _ ae
  cases hr with
  | dM az=>rw[az] at hb;cases hb
  | arr GZ az hh hs hf ee hx=>
   rw[hb] at az;cases az
   exact ⟨_,.inr ⟨_,_,_,Nz (cap:=cap) hh hs hx iM ho⟩,l,h2⟩
 | ed ae=>
  obtain ⟨l,h⟩:=run_get h
  simp only[ae] at h
  cases h
 | fV ae=>
  obtain ⟨l,h⟩:=run_get h
  simp only[ae] at h
  cases h
 | undef=>cases h
 | int=>cases h
 | bool=>cases h
 | str=>cases h
 | agg=>cases h
 | bh=>cases h
 | dx=>cases h
 | fn=>cases h
 | pref=>cases h
 | jD=>cases h
 | ptr=>cases h
 | iZ=>cases h
 | ja=>cases h
 | row=>cases h
 | cA=>cases h
 | dy=>cases h
 | gS=>cases h
 | bC=>cases h
 | eu ae=>
  obtain ⟨l,h⟩:=run_get h
  simp only[ae] at h
  cases h
theorem NA {t ty e:TypeId} {i:TypeInfo} (ht:P.underlying t=some (.slice e)) (hi:P.info? e=some i) (a:Option Addr) (n cap:Nat) (x:Value) (hx: ∃a c,x= .slice a 0 c) (hn:n≤cap):
  (Builtin.append_ #[t,t] ty #[.slice a n cap,x]).run P w= .ok (.slice a n cap) w:=by
 obtain ⟨a',c,rfl⟩:=hx
 cases a' with
 | none=>cases a<;>simp[Builtin.append_,run_underlying ht,sizeOf,typeInfo,hi,Builtin.lenOf,Builtin.firstCells,hn,storeCells]
 | some a'=>cases a<;>simp[Builtin.append_,run_underlying ht,sizeOf,typeInfo,hi,Builtin.lenOf,Builtin.firstCells,hn,storeCells,loadCells,loadCellsFrom]
theorem CP {e:TypeId} {es xs:List V} {n:Nat} {c:List Value} {news:List Value} (hn:es.length=n)
  (h1: ∀(i j:Nat) (x:V) (t':TypeId),es[i]? =some x→(aU P e)[j]? =some t'→j<P.cellsOf e→∃v,c[i*P.cellsOf e+j]? =some v∧Pure P w I t' v (bJ P e x j))
  (h2: ∀(i j:Nat) (x:V) (t':TypeId),xs[i]? =some x→(aU P e)[j]? =some t'→j<P.cellsOf e→∃v,news[i*P.cellsOf e+j]? =some v∧Pure P w I t' v (bJ P e x j))
  (hb:n*P.cellsOf e≤c.length) (rest:List Value):
  ∀(i j:Nat) (x:V) (t':TypeId),(es++xs)[i]? =some x→(aU P e)[j]? =some t'→j<P.cellsOf e→∃v,(c.take (n*P.cellsOf e)++news++rest)[i*P.cellsOf e+j]? =some v∧Pure P w I t' v (bJ P e x j):=by
 intro i j x t' hx ht hj
 have hl:(c.take (n*P.cellsOf e)).length=n*P.cellsOf e:=by simp;omega
 by_cases hi:i<n
 ·rw[List.getElem?_append_left (by omega)] at hx
  obtain ⟨v,hv,hp⟩:=h1 i j x t' hx ht hj
  have:i*P.cellsOf e+j<n*P.cellsOf e:=by
   have:(i+1)*P.cellsOf e≤n*P.cellsOf e:=Nat.mul_le_mul_right _ hi
   rw[Nat.add_mul] at this
   omega
  exact ⟨v,by rw[List.append_assoc,List.getElem?_append_left (by omega),List.getElem?_take_of_lt this];exact hv,hp⟩
 ·rw[List.getElem?_append_right (by omega),hn] at hx
  obtain ⟨v,hv,hp⟩:=h2 (i-n) j x t' hx ht hj
  have iP:i-n<xs.length:=(List.getElem?_eq_some_iff.1 hx).1
  have e1:i*P.cellsOf e+j-n*P.cellsOf e=(i-n)*P.cellsOf e+j:=by
   rw[Nat.sub_mul]
   have:n*P.cellsOf e≤i*P.cellsOf e:=Nat.mul_le_mul_right _ (by omega)
   omega
  have h3:(i-n)*P.cellsOf e+j<news.length:=(List.getElem?_eq_some_iff.1 hv).1
  refine ⟨v,?_,hp⟩
  have h4:n*P.cellsOf e≤i*P.cellsOf e+j:=by
   have:n*P.cellsOf e≤i*P.cellsOf e:=Nat.mul_le_mul_right _ (by omega)
   omega
  rw[List.append_assoc,List.getElem?_append_right (by omega),hl,e1,List.getElem?_append_left h3]
  exact hv
theorem Pure.drew {t:TypeId} {v:Value} {x:V} (h:Pure P w I t v x):Pure P w.drew I t v x:=Pure.mono (w:=w) (w':=w.drew) (fun _ h=>h) (fun _ _=>rfl) h
theorem WS (w:World) (t ty e:TypeId) (i:TypeInfo) (z:Value) (ht:P.underlying t=some (.slice e)) (hi:P.info? e=some i) (hz:i.zero=some z)
  (a0:Option Addr) (a:Addr) (n c:Nat) (news:List Value) (hl:news.length=n*i.size) (CQ: ∀j v,news[j]? =some v→w.cell? (a.add j)=some v)
  (h0:0<n) (CR:(n:Int)≤9223372036854775807) (CS:n*i.bytes≤281474976710656):
  (Builtin.append_ #[t,t] ty #[.slice a0 0 0,.slice (some a) n c]).run P w=
   .ok (.slice (some ⟨w.heap.size,0,none⟩) n (grownCap w n 0 e)) (w.drew.alloc (.cells (news.toArray++Builtin.zeroCells z.cells (grownCap w n 0 e-n)) e)):=by
 cases a0 with
 | none=>exact run_append_nil w t ty e i z ht hi hz a n c news hl CQ h0 CR CS
 | some b=>
  have:=run_append_grow (P:=P) w t ty e i z ht hi hz b 0 0 [] (by simp) (by simp) a n c news hl CQ (by omega) (by omega) (by rw[Nat.zero_add,nextslicecap_zero h0];omega)
  simpa using this
theorem Hm (S:aE P w I β hp B M w0) {t ty e:TypeId} {nb:Nat} {x:Value} {xs:List V} (hu:P.underlying t=some (.slice e)) (ax:cQ P e=true) (hn:hp nb=none)
  (eE:xs.length*P.bytesOf e≤bB) {a0:Option Addr} (hx:((∃a,x= .slice a 0 0)∧xs=[])∨∃a c news,Row P w I e x xs a c news):
  ∃v w' au,(Builtin.append_ #[t,t] ty #[.slice a0 0 0,x]).run P w= .ok v w'∧Le P w I β hp w' I au (aH hp nb (some (.arr e xs false)))∧aE P w' I au (aH hp nb (some (.arr e xs false))) B M w0∧
   an P w' I au (aH hp nb (some (.arr e xs false))) v (.whole e nb):=by
 obtain ⟨i,z,hi,hz,h3,h4,_⟩:=jH ax
 have sZ:=uX ax
 have lG:P.bytesOf e=i.bytes:=by simp[Program.bytesOf,hi]
 have hlen:xs.length≤2^45:=by
  have:xs.length*1≤xs.length*P.bytesOf e:=Nat.mul_le_mul_left _ sZ
  simp only[bB] at eE
  omega
 have empty:xs=[]→(∃a c,x= .slice a 0 c)→∃v w' au,(Builtin.append_ #[t,t] ty #[.slice a0 0 0,x]).run P w= .ok v w'∧Le P w I β hp w' I au (aH hp nb (some (.arr e xs false)))∧aE P w' I au (aH hp nb (some (.arr e xs false))) B M w0∧
   an P w' I au (aH hp nb (some (.arr e xs false))) v (.whole e nb):=by
  intro gk Hn
  subst gk
  obtain ⟨a1,a2⟩:=Cs S e hn
  exact ⟨_,_,_,NA hu hi a0 0 0 x Hn (Nat.le_refl _),a1,a2,.dL (cW _ _ _) (cW _ _ _)⟩
 rcases hx with ⟨⟨_,rfl⟩,rfl⟩|⟨a,c,news,hr⟩
 ·exact empty rfl ⟨_,_,rfl⟩
 ·by_cases h0:xs.length=0
  ·have gk:xs=[]:=List.eq_nil_of_length_eq_zero h0
   refine empty gk ⟨some a,c,?_⟩
   rw[hr.val,h0]
  ·have cY:=WS (P:=P) w t ty e i z hu hi hz a0 a xs.length c news (by rw[hr.len,h3]) hr.cell (by omega) (by omega) (by rw[←lG];simp only[bB] at eE;omega)
   have oL:=grownCap_ge w xs.length 0 e
   have s6:grownCap w xs.length 0 e≤maxLen:=grownCap_le_maxLen w xs.length 0 e (by simp only[maxLen];omega)
   obtain ⟨n1,n2,n3⟩:=vj S.drew (nb:=nb) (cap:=grownCap w xs.length 0 e) (es:=xs) (C0:=news.toArray++Builtin.zeroCells z.cells (grownCap w xs.length 0 e-xs.length)) ax hn
    (by simp only[Array.size_append,List.size_toArray,size_zeroCells,h4,hr.len,←Nat.add_mul];congr 1;omega) oL s6
    (fun i' j y t' hy ht hj=>by
     obtain ⟨u,fK,hp⟩:=hr.el i' j y t' hy ht hj
     have aR:=(List.getElem?_eq_some_iff.1 fK).1
     refine ⟨u,?_,Pure.drew hp⟩
     rw[Array.getElem?_append_left (by simpa using aR)]
     simpa using fK)
   rw[hr.val]
   exact ⟨_,_,_,cY,(Le.drew w I β hp).trans n1,n2,n3⟩
theorem WU (S:aE P w I β hp B M w0) {t ty e:TypeId} {nb:Nat} {s x:Value} {sv xv:V} {r:R} {rd:List Nat} (hu:P.underlying t=some (.slice e)) (hs:an P w I β hp s sv) (hx:an P w I β hp x xv)
  (h:(uK P nb e sv xv).run C hp=some (r,rd)):db P ((Builtin.append_ #[t,t] ty #[s,x]).run P w) w I β hp B M w0 r:=by
 unfold uK at h
 obtain ⟨ax,h⟩:=aF h
 obtain ⟨xs,kN,l0,h⟩:=CO S.h.rel ax hx h
 cases sv with
 | nilS e'=>
  obtain ⟨hc,h⟩:=aF h
  simp only[Bool.and_eq_true,Nat.beq_eq,Nat.ble_eq] at hc
  obtain ⟨hn,rfl⟩:=mB h
  obtain ⟨a0,rfl⟩: ∃a0,s= .slice a0 0 0:=by cases hs;exact ⟨_,rfl⟩
  obtain ⟨v,w',au,a1,a2,a3,a4⟩:=Hm (ty:=ty) S hu ax hn hc.2 kN
  exact ⟨v,w',I,au,a1,a2,a3,a4⟩
 | whole e' id=>
  obtain ⟨l,h⟩:=run_get h
  cases ae:hp id with
  | none=>rw[ae] at h;cases h
  | some blk=>
   rw[ae] at h
   cases blk with
   | dead=>cases h
   | var _=>cases h
   | nest _ _ _=>cases h
   | map _ _=>cases h
   | arr dJ es fz=>
    cases fz with
    | true=>cases h
    | false=>
     obtain ⟨hc,h⟩:=aF h
     obtain ⟨hn,rfl⟩:=mB h
     simp only[Bool.and_eq_true,Nat.beq_eq,Nat.ble_eq] at hc
     obtain ⟨Ho,Hp,eE⟩:=hc
     subst Ho
     subst Hp
     have bM:nb≠id:=fun e=>by rw[e,ae] at hn;cases hn
     obtain ⟨k1,k2⟩:=Ct S ae
     have iO:aH hp id (some aj.dead) nb=none:=by rw[eg _ _ bM];exact hn
     cases hs with
     | ed hd=>rw[ae] at hd;cases hd
     | eu hd=>rw[ae] at hd;cases hd
     | dL hd hb=>
      rw[ae] at hd
      cases hd
      simp only[List.length_nil,Nat.zero_add] at eE
      have WV:((∃a,x= .slice a 0 0)∧xs=[])∨∃a c news,Row P w I e x xs a c news:=kN
      obtain ⟨v,w',au,a1,a2,a3,a4⟩:=Hm (ty:=ty) k2 hu ax iO eE WV
      exact ⟨v,w',I,au,a1,k1.trans a2,a3,a4⟩
     | @whole _ _ aI mj b cap hd hb aZ b6 hm=>
      rw[ae] at hd
      cases hd
      have hr:=S.h.rel id _ ae
      cases hr with
      | dM az=>rw[az] at hb;cases hb
      | @arr _ _ _ b' Ca _ az hh oN hf ee lH=>
       rw[hb] at az
       cases az
       obtain ⟨i,z,hi,hz,h3,h4,_⟩:=jH ax
       have sZ:=uX ax
       have lG:P.bytesOf e=i.bytes:=by simp[Program.bytesOf,hi]
       have hlen:es.length+xs.length≤2^45:=by
        have:(es.length+xs.length)*1≤(es.length+xs.length)*P.bytesOf e:=Nat.mul_le_mul_left _ sZ
        simp only[bB] at eE
        omega
       rw[mo hh] at aZ
       have pI: ∀aC blk',aH hp id (some aj.dead) aC=some blk'→¬bA P w (β aC) blk' b:=by
        intro aC blk' h1 h2
        by_cases iv:aC=id
        ·subst iv;rw[cW] at h1;cases h1;exact h2.alive rfl
        ·rw[eg _ _ iv] at h1
         exact iv (S.h.inj aC id blk' _ b h1 ae h2 (.root (by simp) hb))
       have Hq:=S.h.ri id _ b ae (by simp) hb
       have room: ∀(C':Array Value) (w':World) (ys:List V),w'.heap[b]? =some (.cells C' e (0,0))→C'.size=Ca.size→(∀b',b'≠b→w'.heap[b']? =w.heap[b']?)→w.heap.size≤w'.heap.size→(w'.os=w.os∧w'.output=w.output)→ys.length≤cap→
         (∀(i j:Nat) (y:V) (t':TypeId),ys[i]? =some y→(aU P e)[j]? =some t'→j<P.cellsOf e→∃v,C'[i*P.cellsOf e+j]? =some v∧Pure P w I t' v (bJ P e y j))→
         Le P w I β hp w' I (aH β nb (some b)) (aH (aH hp id (some .dead)) nb (some (.arr e ys false)))∧aE P w' I (aH β nb (some b)) (aH (aH hp id (some .dead)) nb (some (.arr e ys false))) B M w0∧
         an P w' I (aH β nb (some b)) (aH (aH hp id (some .dead)) nb (some (.arr e ys false))) (.slice (some ⟨b,0,none⟩) ys.length cap) (.whole e nb):=by
        intro C' w' ys hC nH jh WW WX sU hy
        obtain ⟨a1,a2⟩:=xL k2 (blk:= .arr e ys false) (w':=w') iO pI (ee rfl) (fun b' h _=>jh b' h) WW WX Hq
         (fun b' h=>(Option.some.inj (h.flat (by simp))).symm) (fun hle=> .arr ax rfl hC (by rw[nH,←aZ];exact Nat.mul_le_mul_right _ sU) (fun h=>by cases h) (fun _=>ee rfl) fun i j y t' a b c=>by
          obtain ⟨v,hv,hp⟩:=hy i j y t' a b c
          exact ⟨v,hv,hp.mono hle.dr hle.b8⟩)
        refine ⟨k1.trans a1,a2,.whole (cW _ _ _) (cW _ _ _) ?_ sU hm⟩
        rw[mo hC,nH,aZ]
       have same:xs=[]→(∃a c,x= .slice a 0 c)→db P ((Builtin.append_ #[t,t] ty #[.slice (some ⟨b,0,none⟩) es.length cap,x]).run P w) w I β hp B M w0 ⟨.whole e nb,[(nb,.arr e (es++xs) false),(id,.dead)]⟩:=by
        intro gk Hn
        subst gk
        rw[List.append_nil]
        obtain ⟨a1,a2,a3⟩:=room Ca w es hh rfl (fun _ _=>rfl) (Nat.le_refl _) ⟨rfl,rfl⟩ b6 lH
        exact ⟨_,_,_,_,NA hu hi _ _ _ x Hn b6,a1,a2,a3⟩
       rcases kN with ⟨⟨_,rfl⟩,rfl⟩|⟨a,c,news,cg⟩
       ·exact same rfl ⟨_,_,rfl⟩
       ·have h1:=cg.one ax
        have kL:es.length*P.cellsOf e≤Ca.toList.length:=by simpa using oN
        by_cases rv:es.length+xs.length≤cap
        ·have ya:es.length*P.cellsOf e+news.length≤Ca.size:=by rw[cg.len,←Nat.add_mul,←aZ];exact Nat.mul_le_mul_right _ rv
         have cY:=run_append_room (P:=P) w t ty e i hu hi b es.length cap Ca hh a xs.length c news (by rw[cg.len,h3]) cg.cell h1 rv (by rw[h3];exact ya)
         rw[h3] at cY
         have cS:=CP (P:=P) (w:=w) (I:=I) (n:=es.length) (c:=Ca.toList) rfl (fun i j y t' a b c=>by
          obtain ⟨v,hv,hp⟩:=lH i j y t' a b c
          exact ⟨v,by simpa using hv,hp⟩) cg.el kL (Ca.toList.drop (es.length*P.cellsOf e+news.length))
         obtain ⟨a1,a2,a3⟩:=room (Ca.toList.take (es.length*P.cellsOf e)++news++Ca.toList.drop (es.length*P.cellsOf e+news.length)).toArray (w.setRow b _) (es++xs)
          (setRow_heap w b Ca _ e _ hh) (by simp;omega) (fun b' az=>setRow_other w b b' _ az) (by simp) ⟨rfl,rfl⟩ (by simpa using rv)
          (fun i j y t' a b c=>by
           obtain ⟨v,hv,hp⟩:=cS i j y t' a b c
           exact ⟨v,by simpa using hv,hp⟩)
         rw[cg.val]
         rw[List.length_append] at a3
         exact ⟨_,_,_,_,cY,a1,a2,a3⟩
        ·have hold: ∀(j:Nat) v,(Ca.toList.take (es.length*P.cellsOf e))[j]? =some v→w.cell? ((⟨b,0,none⟩:Addr).add j)=some v:=by
          intro j v hj
          have cX:=(List.getElem?_eq_some_iff.1 hj).1
          have bU:j<es.length*P.cellsOf e:=by rw[List.length_take] at cX;omega
          rw[List.getElem?_take_of_lt bU] at hj
          rw[my,cell?_cells hh,Nat.zero_add]
          simpa using hj
         have cY:=run_append_grow (P:=P) w t ty e i z hu hi hz ⟨b,0,none⟩ es.length cap (Ca.toList.take (es.length*P.cellsOf e)) (by rw[h3];simp;omega) hold a xs.length c news (by rw[cg.len,h3]) cg.cell (by omega) (by omega)
          (growslice_fits (by omega) (by rw[←lG];simp only[bB] at eE;omega))
         have oL:=grownCap_ge w (es.length+xs.length) cap e
         have s6:grownCap w (es.length+xs.length) cap e≤maxLen:=grownCap_le_maxLen w _ cap e (by simp only[maxLen];omega)
         have cS:=CP (P:=P) (w:=w) (I:=I) (n:=es.length) (c:=Ca.toList) rfl (fun i j y t' a b c=>by
          obtain ⟨v,hv,hp⟩:=lH i j y t' a b c
          exact ⟨v,by simpa using hv,hp⟩) cg.el kL (Builtin.zeroCells z.cells (grownCap w (es.length+xs.length) cap e-(es.length+xs.length))).toList
         obtain ⟨n1,n2,n3⟩:=vj k2.drew (nb:=nb) (cap:=grownCap w (es.length+xs.length) cap e) (es:=es++xs)
          (C0:=(Ca.toList.take (es.length*P.cellsOf e)).toArray++news.toArray++Builtin.zeroCells z.cells (grownCap w (es.length+xs.length) cap e-(es.length+xs.length))) ax iO
          (by
           have e1:(Ca.toList.take (es.length*P.cellsOf e)).length=es.length*P.cellsOf e:=by simp;omega
           simp only[Array.size_append,List.size_toArray,size_zeroCells,h4,cg.len,e1,←Nat.add_mul];congr 1;omega) (by simpa using oL) s6
          (fun i j y t' a b c=>by
           obtain ⟨v,hv,hp⟩:=cS i j y t' a b c
           refine ⟨v,?_,Pure.drew hp⟩
           rw[←Array.getElem?_toList]
           simpa using hv)
         rw[cg.val]
         rw[List.length_append] at n3
         exact ⟨_,_,_,_,cY,(k1.trans (Le.drew w I β _)).trans n1,n2,n3⟩
 | _=>cases h
end
end Go.AM
namespace Go.AM
section
variable {P:Program} {w w':World} {I I':Nat→Prop} {β au:Nat→Option Nat} {hp hp':Nat→Option aj} {C:af} {B:Nat} {M:Nat→Prop} {w0:Start}
theorem run_copy_none (w:World) {dT sT ty elem:TypeId} {i:TypeInfo} (a0:Option Addr) (NB WY:Nat) (a1:Option Addr) (NC WZ:Nat) (hu:P.underlying dT=some (.slice elem)) (hi:P.info? elem=some i) (h0:Nat.min NC NB=0):
  (Builtin.copy_ #[dT,sT] ty #[.slice a0 NB WY,.slice a1 NC WZ]).run P w= .ok (goInt 0) w:=by
 cases a0<;>cases a1<;>simp[Builtin.copy_,run_underlying hu,Builtin.lenOf,Builtin.firstCells,sizeOf,typeInfo,hi,h0,storeCells,loadCells,loadCellsFrom]
theorem W0 (S:aE P w I β hp B M w0) {t u ty e:TypeId} {s x:Value} {sv xv:V} {r:R} {rd:List Nat} (hu:P.underlying t=some (.slice e)) (hs:an P w I β hp s sv) (hx:an P w I β hp x xv)
  (h:(Gv P e sv xv).run C hp=some (r,rd)):db P ((Builtin.copy_ #[t,u] ty #[s,x]).run P w) w I β hp B M w0 r:=by
 unfold Gv at h
 obtain ⟨ax,h'⟩:=aF h
 clear h
 simp only[Bool.and_eq_true,Nat.beq_eq] at ax
 obtain ⟨ax,h1⟩:=ax
 obtain ⟨xs,kN,l0,h⟩:=CO S.h.rel ax hx h'
 obtain ⟨i,z,hi,hz,aZ,_⟩:=jH ax
 cases sv<;>simp only at h<;>first|(cases h;done)|skip
 rename_i e' id
 obtain ⟨l,h2⟩:=run_get h
 clear h
 cases ae:hp id with
 | none=>rw[ae] at h2;cases h2
 | some blk=>
  rw[ae] at h2
  cases blk<;>simp only at h2<;>first|(cases h2;done)|skip
  rename_i e2 es fz
  cases fz with
  | true=>cases h2
  | false=>
  obtain ⟨hc,h3⟩:=aF h2
  simp only[Bool.and_eq_true,Nat.beq_eq] at hc
  obtain ⟨rfl,rfl⟩:=hc
  obtain rfl:=aJ h3
  have oO:min xs.length es.length=0→(Builtin.copy_ #[t,u] ty #[s,x]).run P w= .ok (goInt 0) w→db P ((Builtin.copy_ #[t,u] ty #[s,x]).run P w) w I β hp B M w0 ⟨.int .i64 (min xs.length es.length:Nat),[(id,.arr e (xs.take es.length++es.drop xs.length) false)]⟩:=by
   intro h0 hr
   have he:xs.take es.length++es.drop xs.length=es:=by
    rcases Nat.le_total xs.length es.length with hl|hl
    ·have:xs=[]:=List.eq_nil_of_length_eq_zero (by omega)
     simp[this]
    ·have:es=[]:=List.eq_nil_of_length_eq_zero (by omega)
     simp[this]
   have fX:bL hp [(id,.arr e (xs.take es.length++es.drop xs.length) false)]=hp:=by
    rw[he];exact GH hp id _ ae
   refine ⟨goInt 0,w,I,β,hr,?_⟩
   simp only[fX,h0]
   exact ⟨Le.refl w I β hp,S,.int⟩
  cases hs with
  | ed hd=>rw[ae] at hd;cases hd
  | eu hd=>rw[ae] at hd;cases hd
  | @dL _ _ fz a hd hb=>
   rw[ae] at hd
   cases hd
   refine oO (by simp) ?_
   rcases kN with ⟨⟨a',rfl⟩,rfl⟩|⟨a',c,news,cg⟩
   ·exact run_copy_none w _ _ _ _ _ _ hu hi (by simp)
   ·rw[cg.val];exact run_copy_none w _ _ _ _ _ _ hu hi (by simp)
  | @whole _ _ aI mj b cap hd hb yb b6 hm=>
   have eM:=hd
   rw[ae] at hd
   cases hd
   rcases kN with ⟨⟨a',rfl⟩,rfl⟩|⟨a',c,news,cg⟩
   ·exact oO (by simp) (run_copy_none w _ _ _ _ _ _ hu hi (by simp))
   have hr:=S.h.rel id _ ae
   cases hr with
   | dM az=>rw[az] at hb;cases hb
   | @arr _ _ _ b' Ca _ az hh oN hf ee lH=>
    rw[hb] at az
    cases az
    have lE:news.length=xs.length:=by rw[cg.len,h1,Nat.mul_one]
    rw[h1,Nat.mul_one] at oN
    have jI:(news.take es.length).length=Nat.min xs.length es.length:=by
     rw[List.length_take,lE,Nat.min_comm]
    have ND:Nat.min xs.length es.length=min xs.length es.length:=rfl
    have cY:=run_copy_row (P:=P) w t u ty e b 0 es.length cap a' xs.length c Ca e (news.take es.length) hu (by rw[hi];simp[aZ,h1]) hh jI
     (fun j v hj=>cg.cell j v (by
      have:=(List.getElem?_eq_some_iff.1 hj).1
      rw[List.length_take] at this
      rwa [List.getElem?_take_of_lt (by omega)] at hj)) (by rw[jI,ND];omega) (fun v hv=>cg.one ax v (List.mem_of_mem_take hv))
    rw[cg.val]
    have hq:(goInt (news.take es.length).length)= .int .i64 ((min xs.length es.length:Nat):Int):=by rw[jI];rfl
    have iN:(xs.take es.length++es.drop xs.length).length=es.length:=by simp;omega
    have nH:(Ca.toList.take 0++news.take es.length++Ca.toList.drop (0+(news.take es.length).length)).toArray.size=Ca.size:=by
     simp only[List.size_toArray,List.length_append,List.length_drop,List.length_take,jI,ND]
     simp
     omega
    obtain ⟨a1,a2⟩:=CE S (blk':= .arr e (xs.take es.length++es.drop xs.length) false) (Cb:=(Ca.toList.take 0++news.take es.length++Ca.toList.drop (0+(news.take es.length).length)).toArray) ae (by simp) ⟨rfl,iN.symm⟩ hb (ee rfl) (by simp) hh nH
     (fun hle eV=> .arr ax rfl eV (by rw[nH,iN,h1,Nat.mul_one];exact oN) (fun h=>by cases h) (fun _=>ee rfl) fun i j y t' hy ht hj=>by
      rw[h1] at hj⊢
      obtain rfl:j=0:=by omega
      rw[Nat.mul_one,Nat.add_zero]
      have pT:=(List.getElem?_eq_some_iff.1 hy).1
      rw[iN] at pT
      by_cases yc:i<xs.length
      ·rw[List.getElem?_append_left (by rw[List.length_take];omega),List.getElem?_take_of_lt pT] at hy
       obtain ⟨u',k1,k2⟩:=cg.el i 0 y t' hy ht (by omega)
       rw[h1,Nat.mul_one,Nat.add_zero] at k1
       refine ⟨u',?_,k2.mono hle.dr hle.b8⟩
       simp only[List.take_zero,List.nil_append,List.getElem?_toArray]
       rw[List.getElem?_append_left (by rw[List.length_take];omega),List.getElem?_take_of_lt pT]
       exact k1
      ·have e1:(xs.take es.length).length=xs.length:=by rw[List.length_take];omega
       rw[List.getElem?_append_right (by omega),e1,List.getElem?_drop,show xs.length+(i-xs.length)=i by omega] at hy
       obtain ⟨u',k1,k2⟩:=lH i 0 y t' hy ht (by omega)
       rw[h1,Nat.mul_one,Nat.add_zero] at k1
       refine ⟨u',?_,k2.mono hle.dr hle.b8⟩
       simp only[List.take_zero,List.nil_append,List.getElem?_toArray,Nat.zero_add]
       have e2:(news.take es.length).length=xs.length:=by rw[List.length_take];omega
       rw[List.getElem?_append_right (by omega),e2,List.getElem?_drop,show xs.length+(i-xs.length)=i by omega]
       simpa using k1)
    exact ⟨_,_,_,_,cY,a1,a2,by rw[hq];exact .int⟩
theorem W3 (S:aE P w I β hp B M w0) {t ty e:TypeId} {x:Value} {xv:V} {r:R} {rd:List Nat} (hu:P.underlying t=some (.slice e)) (hx:an P w I β hp x xv)
  (h:(Gu P e xv).run C hp=some (r,rd)):db P ((Builtin.clear_ #[t] ty #[x]).run P w) w I β hp B M w0 r:=by
 unfold Gu at h
 obtain ⟨cS,h'⟩:=aF h
 clear h
 have ax:cQ P e=true:=by
  unfold lu at cS;simp only[Bool.and_eq_true] at cS;exact cS.1
 obtain ⟨i,z,hi,hz,aZ,yd,W4⟩:=xZ (w:=w) (I:=I) cS
 have il:=(jF ax).2
 cases xv<;>simp only at h'<;>first|(cases h';done)|skip
 rename_i e' id off len
 obtain ⟨l,h2⟩:=run_get h'
 clear h'
 cases ae:hp id with
 | none=>rw[ae] at h2;cases h2
 | some blk=>
  rw[ae] at h2
  cases blk<;>simp only at h2<;>first|(cases h2;done)|skip
  rename_i e2 es fz
  cases fz with
  | true=>cases h2
  | false=>
  obtain ⟨hc,h3⟩:=aF h2
  simp only[Bool.and_eq_true,Nat.beq_eq] at hc
  obtain ⟨rfl,rfl⟩:=hc
  obtain rfl:=aJ h3
  have oO:len=0→(Builtin.clear_ #[t] ty #[x]).run P w= .ok (.tuple #[]) w→db P ((Builtin.clear_ #[t] ty #[x]).run P w) w I β hp B M w0 ⟨.bh [],[(id,.arr e (es.take off++(List.replicate len (cp P e (eJ P e))++es.drop (off+len))) false)]⟩:=by
   intro h0 hr
   subst h0
   have fX:bL hp [(id,.arr e (es.take off++(List.replicate 0 (cp P e (eJ P e))++es.drop (off+0))) false)]=hp:=by
    simp only[List.replicate_zero,List.nil_append,Nat.add_zero,List.take_append_drop]
    exact GH hp id _ ae
   refine ⟨.tuple #[],w,I,β,hr,?_⟩
   simp only[fX]
   exact ⟨Le.refl w I β hp,S,.bh rfl fun j v x hj hx=>by simp at hx⟩
  cases hx with
  | fV hd=>rw[ae] at hd;cases hd
  | @fI _ _ _ a0 hd hb=>exact oO rfl (by cases a0<;>simp[Builtin.clear_,run_underlying hu])
  | @sub _ _ _ _ aI mj b o cap hd hb iM b6 ho=>
   by_cases hlen:len=0
   ·refine oO hlen ?_
    subst hlen
    simp[Builtin.clear_,run_underlying hu]
   have W5:0<len:=by omega
   have eM:=hd
   rw[ae] at hd
   cases hd
   have hr:=S.h.rel id _ ae
   cases hr with
   | dM az=>rw[az] at hb;cases hb
   | @arr _ _ _ b' Ca _ az hh oN hf ee lH=>
    rw[hb] at az
    cases az
    have ho:=ho W5
    subst ho
    have sX:(Builtin.zeroCells z.cells len).toList.length=len*P.cellsOf e:=by rw[Array.length_toList,size_zeroCells,yd]
    have hmul:off*P.cellsOf e+len*P.cellsOf e≤es.length*P.cellsOf e:=by rw[←Nat.add_mul];exact Nat.mul_le_mul_right _ iM
    have pQ: ∀v∈(Builtin.zeroCells z.cells len).toList,v.oneCell'=true:=by
     intro v hv
     obtain ⟨k,hk⟩:=List.getElem?_of_mem hv
     have kM:=(List.getElem?_eq_some_iff.1 hk).1
     rw[sX] at kM
     have W6:(Builtin.zeroCells z.cells len)[k]? =z.cells[k %z.cells.size]? :=Nx (z:=z.cells) (n:=len*z.cells.size) (by rw[yd];exact kM) (by rw[yd];exact il)
     rw[Array.getElem?_toList,W6] at hk
     have hm:k %z.cells.size<P.cellsOf e:=by rw[yd];exact Nat.mod_lt _ il
     have W7:k %z.cells.size<(aU P e).length:=by rw[fu ax];exact hm
     obtain ⟨v',u6,hp'⟩:=W4 (k %z.cells.size) _ (List.getElem?_eq_getElem W7) hm
     rw[hk] at u6
     cases u6
     generalize bJ P e (cp P e (eJ P e)) (k %z.cells.size)=y at hp'
     cases hp'<;>rfl
    have bN:=run_storeCells_at P b (off*P.cellsOf e) e (Builtin.zeroCells z.cells len).toList 0 Ca w hh (by rw[sX];omega) pQ
    simp only[Nat.add_zero] at bN
    have cY:(Builtin.clear_ #[t] ty #[.slice (some ⟨b,off*P.cellsOf e,none⟩) len cap]).run P w= .ok (.tuple #[]) (w.setRow b (Ca.toList.take (off*P.cellsOf e)++(Builtin.zeroCells z.cells len).toList++Ca.toList.drop (off*P.cellsOf e+(Builtin.zeroCells z.cells len).toList.length)).toArray):=by
     obtain ⟨n,rfl⟩: ∃n,len=n+1:=⟨len-1,by omega⟩
     simp[Builtin.clear_,run_underlying hu,zeroValue,typeInfo,hi,hz,bN]
    have iN:(es.take off++(List.replicate len (cp P e (eJ P e))++es.drop (off+len))).length=es.length:=by simp;omega
    have nH:(Ca.toList.take (off*P.cellsOf e)++(Builtin.zeroCells z.cells len).toList++Ca.toList.drop (off*P.cellsOf e+(Builtin.zeroCells z.cells len).toList.length)).toArray.size=Ca.size:=by
     simp only[List.size_toArray,List.length_append,List.length_drop,List.length_take,sX,Array.length_toList]
     omega
    obtain ⟨a1,a2⟩:=CE S (blk':= .arr e (es.take off++(List.replicate len (cp P e (eJ P e))++es.drop (off+len))) false) ae (by simp) ⟨rfl,iN.symm⟩ hb (ee rfl) (by simp) hh nH
     (fun hle eV=> .arr ax rfl eV (by rw[nH,iN];exact oN) (fun h=>by cases h) (fun _=>ee rfl) fun i' j y t' hy ht hj=>by
      have ka:=mz es (List.replicate len (cp P e (eJ P e))) off i' (by simp;omega)
      rw[List.length_replicate] at ka
      rw[ka] at hy
      have hC:(Ca.toList.take (off*P.cellsOf e)++(Builtin.zeroCells z.cells len).toList++Ca.toList.drop (off*P.cellsOf e+(Builtin.zeroCells z.cells len).toList.length)).toArray[i'*P.cellsOf e+j]? =
        if i'*P.cellsOf e+j<off*P.cellsOf e then Ca.toList[i'*P.cellsOf e+j]? else if i'*P.cellsOf e+j<off*P.cellsOf e+len*P.cellsOf e then (Builtin.zeroCells z.cells len).toList[i'*P.cellsOf e+j-off*P.cellsOf e]? else Ca.toList[i'*P.cellsOf e+j]? :=by
       have:=mz Ca.toList (Builtin.zeroCells z.cells len).toList (off*P.cellsOf e) (i'*P.cellsOf e+j) (by rw[sX,Array.length_toList];omega)
       rw[List.getElem?_toArray,List.append_assoc,this,sX]
      by_cases ff:i'<off
      ·rw[if_pos ff] at hy
       have:(i'+1)*P.cellsOf e≤off*P.cellsOf e:=Nat.mul_le_mul_right _ ff
       rw[Nat.add_mul] at this
       rw[if_pos (by omega)] at hC
       obtain ⟨u,k1,k2⟩:=lH i' j y t' hy ht hj
       exact ⟨u,hC.trans (by simpa using k1),k2.mono hle.dr hle.b8⟩
      ·rw[if_neg ff] at hy
       have h1:off*P.cellsOf e≤i'*P.cellsOf e:=Nat.mul_le_mul_right _ (by omega)
       rw[if_neg (by omega)] at hC
       by_cases iP:i'<off+len
       ·rw[if_pos iP] at hy
        have:(i'+1)*P.cellsOf e≤(off+len)*P.cellsOf e:=Nat.mul_le_mul_right _ iP
        rw[Nat.add_mul,Nat.add_mul] at this
        rw[if_pos (by omega)] at hC
        obtain ⟨v,k1,k2⟩:=CN (w:=w) (I:=I) cS hi hz len len (Nat.le_refl _) (i'-off) j y t' hy ht hj
        refine ⟨v,hC.trans ?_,k2.mono hle.dr hle.b8⟩
        rw[show i'*P.cellsOf e+j-off*P.cellsOf e=(i'-off)*P.cellsOf e+j by rw[Nat.sub_mul];omega,Array.getElem?_toList]
        unfold Builtin.zeroCells
        rw[yd] at k1⊢
        exact k1
       ·rw[if_neg iP] at hy
        have:(off+len)*P.cellsOf e≤i'*P.cellsOf e:=Nat.mul_le_mul_right _ (by omega)
        rw[Nat.add_mul] at this
        rw[if_neg (by omega)] at hC
        obtain ⟨u,k1,k2⟩:=lH i' j y t' hy ht hj
        exact ⟨u,hC.trans (by simpa using k1),k2.mono hle.dr hle.b8⟩)
    exact ⟨_,_,_,_,cY,a1,a2,.bh rfl fun j v x hj hx=>by simp at hx⟩
end
end Go.AM
namespace Go.AM
section
variable {P:Program} {w w':World} {I I':Nat→Prop} {β au:Nat→Option Nat} {hp hp':Nat→Option aj} {C:af} {B:Nat} {M:Nat→Prop} {w0:Start}
theorem W8 (S:aE P w I β hp B M w0) {s:TypeId} {f:Nat} {v:Value} {x:V} {r:R} {rd:List Nat} (hv:an P w I β hp v x)
  (h:(Gy P s f x).run C hp=some (r,rd)):db P ((Instr.field s v f).run P w) w I β hp B M w0 r:=by
 unfold Gy B1 at h
 split at h
 ·rename_i fs hu
  cases hf:fs[f]? with
  | none=>rw[hf] at h;cases h
  | some fd=>
   rw[hf] at h
   simp only[uL] at h
   obtain ⟨ht,h⟩:=aF h
   obtain ⟨d,s7⟩:=xQ ht
   obtain ⟨i,hi⟩:=u4 s7
   have aZ:i.size=P.cellsOf fd.type:=by simp[Program.cellsOf,hi]
   cases x with
   | agg xs=>
    obtain ⟨cs,rfl,h1,h2⟩:=hv.j7
    dsimp only at h
    cases ha:bH P fd.type with
    | true=>
     rw[ha] at h
     simp only[cond_true] at h
     obtain ⟨hc,h⟩:=aF h
     obtain rfl:=aJ h
     rw[Nat.ble_eq] at hc
     refine .same S (v:= .agg (cs.extract fd.offset (fd.offset+P.cellsOf fd.type))) ?_ (.agg (by simp;omega) fun j u y fK hy=> ?_)
     ·simp[Instr.field,run_underlying hu,hf,part,GX s7,ha,asAgg,sizeOf,typeInfo,hi,aZ]
     ·have hj:j<P.cellsOf fd.type:=by
       have:=(Array.getElem?_eq_some_iff.1 fK).1
       simp at this;omega
      rw[List.getElem?_take_of_lt hj,List.getElem?_drop] at hy
      refine h2 (fd.offset+j) u y ?_ hy
      rw[Array.getElem?_extract] at fK
      split at fK
      ·exact fK
      ·cases fK
    | false=>
     rw[ha] at h
     simp only[cond_false] at h
     obtain ⟨y,hy,h⟩:=kH h
     obtain rfl:=aJ h
     have aR:fd.offset<cs.size:=by rw[h1];exact (List.getElem?_eq_some_iff.1 hy).1
     refine .same S (v:=cs[fd.offset]) ?_ (h2 _ _ _ (Array.getElem?_eq_getElem aR) hy)
     simp[Instr.field,run_underlying hu,hf,part,GX s7,ha,asAgg,aR]
   | _=>cases h
 ·cases h
theorem W9 (S:aE P w I β hp B M w0) {i:Nat} {v:Value} {xs:List V} {r:R} {rd:List Nat} (hv:an P w I β hp v (.bh xs))
  (h:(Rd.opt xs[i]? fun v=> .ret ⟨v,[]⟩).run C hp=some (r,rd)):db P ((Instr.extract v i).run P w) w I β hp B M w0 r:=by
 obtain ⟨cs,rfl,h1,h2⟩:=hv.sM
 obtain ⟨y,hy,h⟩:=kH h
 obtain rfl:=aJ h
 have aR:i<cs.size:=by rw[h1];exact (List.getElem?_eq_some_iff.1 hy).1
 exact .same S (v:=cs[i]) (by simp[Instr.extract,aR]) (h2 _ _ _ (Array.getElem?_eq_getElem aR) hy)
theorem Xa (S:aE P w I β hp B M w0) {t:TypeId} {s:ByteArray} {l:List UInt8} {k:IntKind} {i:Int} {r:R} {rd:List Nat} (hu:P.underlying t=some .string) (hs:s.data.toList=l)
  (h:(Rd.opt (bif decide (0≤i) then (l[i.toNat]?).map fun b=>V.int .u8 b.toNat else none) fun v=> .ret ⟨.int .u8 v.toInt,[]⟩).run C hp=some (r,rd)):
  db P ((Instr.index t (.string s) (.int k i)).run P w) w I β hp B M w0 r:=by
 obtain ⟨v,hv,h⟩:=kH h
 obtain rfl:=aJ h
 cases hc:decide (0≤i) with
 | false=>rw[hc] at hv;cases hv
 | true=>
  rw[hc] at hv
  simp only[cond_true] at hv
  have h0:0≤i:=by simpa using hc
  cases hb:l[i.toNat]? with
  | none=>rw[hb] at hv;cases hv
  | some b=>
   rw[hb] at hv
   simp only[Option.map_some,Option.some.injEq] at hv
   subst hv
   have Xb:s[i.toNat]? =some b:=by
    subst hs
    obtain ⟨aR,he⟩:=List.getElem?_eq_some_iff.1 hb
    have Hr:i.toNat<s.size:=by simpa using aR
    rw[getElem?_pos s i.toNat Hr]
    congr 1
   refine .same S (v:= .int .u8 b.toNat) ?_ .int
   simp[Instr.index,asIntOf,run_underlying hu,h0,Xb]
theorem Hs (S:aE P w I β hp B M w0) (mx:Bool): ∀{vs:List Value} {xs:List V} {v:Value} {x:V} {r:R} {rd:List Nat},an P w I β hp v x→vs.length=xs.length→
  (∀(j:Nat) u y,vs[j]? =some u→xs[j]? =some y→an P w I β hp u y)→(uN mx x xs).run C hp=some (r,rd)→
  db P ((vs.foldlM (if mx then Builtin.max2 else Builtin.min2) v).run P w) w I β hp B M w0 r
 | [],[],v,x,r,rd,hv,_,_,h=>by
  have:r=⟨x,[]⟩:=by
   cases x<;>(simp only[uN] at h;exact (aJ h).symm)
  subst this
  exact .same S (by simp) hv
 | [],_::_,v,x,r,rd,hv,hl,_,h=>by simp at hl
 | _::_,[],v,x,r,rd,hv,hl,_,h=>by simp at hl
 | u::vs,y::xs,v,x,r,rd,hv,hl,hx,h=>by
  cases x<;>cases y<;>simp only[uN] at h<;>first|(cases h;done)|skip
  rename_i k a k' b
  obtain ⟨hc,h4⟩:=aF h
  clear h
  obtain rfl:k=k':=by simpa using hc
  have hu:=hx 0 u _ rfl rfl
  rw[hv.ew,hu.ew]
  have ih:=Hs S mx (vs:=vs) (xs:=xs) (v:= .int k (bif mx then (if b>a then b else a) else (if b<a then b else a))) .int (by simpa using hl)
   (fun j u y h1 h2=>hx (j+1) u y (by simpa using h1) (by simpa using h2)) h4
  cases mx with
  | true=>simpa[List.foldlM_cons,Builtin.max2] using ih
  | false=>simpa[List.foldlM_cons,Builtin.min2] using ih
theorem pU {n cap:Nat} {isS:Bool} {lo hi:Option V} {lov hiv:Option Value} {k:Nat→Nat→Rd R} {r:R} {rd:List Nat} (hn:n≤cap)
  (iw: ∀x,lo=some x→∃v,lov=some v∧an P w I β hp v x) (gC: ∀x,hi=some x→∃v,hiv=some v∧an P w I β hp v x) (mC:lo=none→lov=none) (nJ:hi=none→hiv=none)
  (h:(qZ n lo hi k).run C hp=some (r,rd)): ∃l u,l≤u∧u≤n∧(Instr.sliceBounds isS n cap lov hiv none).run P w= .ok (l,u,cap) w∧(k l u).run C hp=some (r,rd):=by
 have ok: ∀(kk:IntKind) (i:Int) (y:Nat) (c:BoundsCode),0≤i→i≤y→(Instr.sliceBound (.int kk i) y c).run P w= .ok i.toNat w:=by
  intro kk i y c h1 h2
  simp[Instr.sliceBound,asIntOf,h1,h2]
 unfold qZ at h
 cases lo with
 | none=>
  rw[mC rfl]
  cases hi with
  | none=>
   rw[nJ rfl]
   exact ⟨0,n,Nat.zero_le _,Nat.le_refl _,by simp[Instr.sliceBounds],h⟩
  | some x=>
   obtain ⟨v,rfl,hv⟩:=gC x rfl
   cases x<;>simp only at h<;>first|(cases h;done)|skip
   rename_i kk u
   obtain ⟨hc,h⟩:=aF h
   simp only[Bool.and_eq_true,decide_eq_true_eq] at hc
   rw[hv.ew]
   have:=ok kk u cap (if isS then .sliceAcap else .sliceAlen) hc.1 (by omega)
   exact ⟨0,u.toNat,Nat.zero_le _,by omega,by simp[Instr.sliceBounds,this],h⟩
 | some x=>
  obtain ⟨v,rfl,hv⟩:=iw x rfl
  cases hi with
  | none=>
   rw[nJ rfl]
   cases x<;>simp only at h<;>first|(cases h;done)|skip
   rename_i kk l
   obtain ⟨hc,h⟩:=aF h
   simp only[Bool.and_eq_true,decide_eq_true_eq] at hc
   rw[hv.ew]
   have:=ok kk l n .sliceB hc.1 (by omega)
   exact ⟨l.toNat,n,by omega,Nat.le_refl _,by simp[Instr.sliceBounds,this],h⟩
  | some y=>
   obtain ⟨v2,rfl,pF⟩:=gC y rfl
   cases x<;>cases y<;>simp only at h<;>first|(cases h;done)|skip
   rename_i kk l Xc u
   obtain ⟨hc,h⟩:=aF h
   simp only[Bool.and_eq_true,decide_eq_true_eq] at hc
   rw[hv.ew,pF.ew]
   have h1:=ok Xc u cap (if isS then .sliceAcap else .sliceAlen) (by omega) (by omega)
   have h2:=ok kk l u.toNat .sliceB hc.1 (by omega)
   exact ⟨l.toNat,u.toNat,by omega,by omega,by simp[Instr.sliceBounds,h1,h2],h⟩
theorem CT {a:Option Addr} {t e:TypeId} {i:TypeInfo} (hu:P.underlying t=some (.slice e)) (hi:P.info? e=some i) {lov hiv:Option Value}
  (hb:(Instr.sliceBounds true 0 0 lov hiv none).run P w= .ok (0,0,0) w):(Instr.sliceAt t (.slice a 0 0) lov hiv none).run P w= .ok (.slice a 0 0) w:=by
 cases a<;>simp[Instr.sliceAt,Instr.slice,run_underlying hu,hb,sizeOf,typeInfo,hi]
theorem Ht {t e:TypeId} {i:TypeInfo} {b o len cap l u:Nat} (hu:P.underlying t=some (.slice e)) (hi:P.info? e=some i) {lov hiv:Option Value} (huc:u≤cap)
  (hb:(Instr.sliceBounds true len cap lov hiv none).run P w= .ok (l,u,cap) w): ∃o',(0<u-l→o'=o+l*i.size)∧(Instr.sliceAt t (.slice (some ⟨b,o,none⟩) len cap) lov hiv none).run P w= .ok (.slice (some ⟨b,o',none⟩) (u-l) (cap-l)) w:=by
 by_cases hc:cap=l
 ·subst hc
  refine ⟨o,fun h=>by omega,?_⟩
  ·simp[Instr.sliceAt,Instr.slice,run_underlying hu,hb,sizeOf,typeInfo,hi]
 ·refine ⟨o+l*i.size,fun _=>rfl,?_⟩
  simp[Instr.sliceAt,Instr.slice,run_underlying hu,hb,sizeOf,typeInfo,hi,hc,my]
theorem Xd (s:ByteArray) (l:List UInt8) (h:s.data.toList=l) (a b:Nat):(s.extract a b).data.toList=(l.drop a).take (b-a):=by
 subst h
 simp[ByteArray.data_extract]
theorem Xe (S:aE P w I β hp B M w0) {t:TypeId} {v:Value} {x:V} {lo hi:Option V} {lov hiv:Option Value} {r:R} {rd:List Nat} (hv:an P w I β hp v x)
  (iw: ∀x,lo=some x→∃v,lov=some v∧an P w I β hp v x) (gC: ∀x,hi=some x→∃v,hiv=some v∧an P w I β hp v x) (mC:lo=none→lov=none) (nJ:hi=none→hiv=none)
  (h:(B9 P t x lo hi).run C hp=some (r,rd)):db P ((Instr.sliceAt t v lov hiv none).run P w) w I β hp B M w0 r:=by
 unfold B9 at h
 cases hu:P.underlying t with
 | none=>rw[hu] at h;cases h
 | some d=>
  rw[hu] at h
  cases d<;>simp only at h<;>first|(cases h;done)|skip
  case string=>
   cases x<;>simp only at h<;>first|(cases h;done)|skip
   rename_i l
   obtain ⟨s,rfl,hs⟩:=hv.lC
   have aZ:l.length=s.size:=by rw[←hs];simp
   obtain ⟨a,u,h1,h2,h3,h4⟩:=pU (isS:=false) (cap:=s.size) (by omega) iw gC mC nJ h
   obtain rfl:=aJ h4
   rw[aZ] at h3
   refine .same S (v:= .string (s.extract a u)) ?_ (.str (Xd s l hs a u))
   simp[Instr.sliceAt,Instr.slice,run_underlying hu,h3]
  case slice e=>
   cases x<;>simp only at h<;>first|(cases h;done)|skip
   case list e' es=>
    obtain ⟨hc,h⟩:=aF h
    simp only[Bool.and_eq_true,Nat.beq_eq] at hc
    obtain ⟨dN,ax⟩:=hc
    obtain ⟨i,z,dX,_,aZ,_⟩:=jH ax
    cases hv with
    | list hp'=>
     cases hp' with
     | nil=>
      obtain ⟨a,u,h1,h2,h3,h4⟩:=pU (n:=0) (isS:=true) (cap:=0) (Nat.le_refl _) iw gC mC nJ h
      obtain rfl:=aJ h4
      obtain rfl:u=0:=by omega
      obtain rfl:a=0:=by omega
      exact .same S (CT hu dX h3) (by simpa using an.list ik.nil)
     | @emp ad cap=>
      obtain ⟨a,u,h1,h2,h3,h4⟩:=pU (n:=0) (isS:=true) (cap:=cap) (Nat.zero_le _) iw gC mC nJ h
      obtain rfl:=aJ h4
      obtain rfl:u=0:=by omega
      obtain rfl:a=0:=by omega
      refine .same S (v:= .slice (some ad) 0 cap) ?_ (by simpa using an.list ik.emp)
      by_cases hc:cap=0
      ·subst hc
       simp[Instr.sliceAt,Instr.slice,run_underlying hu,h3,sizeOf,typeInfo,dX]
      ·simp[Instr.sliceAt,Instr.slice,run_underlying hu,h3,sizeOf,typeInfo,dX,hc,Addr.add]
     | @list b o len cap _ g hl b6 hI fW hx=>
      obtain ⟨a,u,h1,h2,h3,h4⟩:=pU (isS:=true) (cap:=cap) (by omega) iw gC mC nJ h
      obtain rfl:=aJ h4
      rw[hl] at h2 h3
      obtain ⟨o',lB,cY⟩:=Ht (b:=b) (o:=o) hu dX (by omega) h3
      have gl:e=e':=dN
      refine .same S cY (.list ?_)
      rw[←gl]
      rw[←gl] at fW hx hI
      have hlen:((es.drop a).take (u-a)).length=u-a:=by simp;omega
      refine .list (fun i j=>g (a+i) j) hlen (by omega) (fun h=>hI (Nat.lt_of_lt_of_le h (Nat.mul_le_mul_right _ (by omega)))) (fun i j hi hj=> ?_) (fun i j y t' hy ht=> ?_)
      ·have:=fW (a+i) j (by omega) hj
       rw[Nat.add_mul,Nat.add_assoc,←Nat.add_assoc o] at this
       rw[lB (by omega),aZ]
       exact this
      ·have hi:i<u-a:=by rw[←hlen];exact (List.getElem?_eq_some_iff.1 hy).1
       rw[List.getElem?_take_of_lt hi,List.getElem?_drop] at hy
       exact hx (a+i) j y t' hy ht
   case whole e' id=>
    obtain ⟨l,h⟩:=run_get h
    cases ae:hp id with
    | none=>rw[ae] at h;cases h
    | some blk=>
     rw[ae] at h
     cases blk<;>simp only at h<;>first|(cases h;done)|skip
     rename_i dJ es fz
     obtain ⟨hc,h9⟩:=aF h
     clear h
     simp only[Bool.and_eq_true,Nat.beq_eq] at hc
     obtain ⟨dN,jc,ax⟩:=hc
     obtain ⟨i,z,dX,_,aZ,_⟩:=jH ax
     cases hv with
     | ed hd=>rw[ae] at hd;cases hd
     | eu hd=>rw[ae] at hd;cases hd
     | dL hd hb=>
      rw[ae] at hd
      cases hd
      obtain ⟨a,u,h1,h2,h3,h4⟩:=pU (n:=0) (isS:=true) (cap:=0) (Nat.le_refl _) iw gC mC nJ h9
      obtain rfl:=aJ h4
      obtain rfl:u=0:=by omega
      obtain rfl:a=0:=by omega
      exact .same S (CT hu dX h3) (.fI ae hb)
     | @whole _ _ aI mj b cap hd hb yb b6 hm=>
      have eM:=hd
      rw[ae] at hd
      cases hd
      obtain ⟨a,u,h1,h2,h3,h4⟩:=pU (isS:=true) (cap:=cap) b6 iw gC mC nJ h9
      obtain rfl:=aJ h4
      obtain ⟨o',lB,cY⟩:=Ht (b:=b) (o:=0) hu dX (by omega) h3
      have gl:e=e':=dN
      exact .same S cY (.sub eM hb (by omega) (by omega) (fun h=>by rw[lB h,aZ,gl,Nat.zero_add]))
   case sub e' id off len=>
    obtain ⟨l,h⟩:=run_get h
    cases ae:hp id with
    | none=>rw[ae] at h;cases h
    | some blk=>
     rw[ae] at h
     cases blk<;>simp only at h<;>first|(cases h;done)|skip
     rename_i dJ es fz
     obtain ⟨hc,h⟩:=aF h
     simp only[Bool.and_eq_true,Nat.beq_eq] at hc
     obtain ⟨dN,jc,ax⟩:=hc
     obtain ⟨i,z,dX,_,aZ,_⟩:=jH ax
     cases hv with
     | fV hd=>rw[ae] at hd;cases hd
     | fI hd hb=>
      have eM:=hd
      obtain ⟨a,u,h1,h2,h3,h4⟩:=pU (isS:=true) (cap:=0) (Nat.le_refl _) iw gC mC nJ h
      obtain rfl:=aJ h4
      obtain rfl:u=0:=by omega
      obtain rfl:a=0:=by omega
      exact .same S (CT hu dX h3) (.fI eM hb)
     | @sub _ _ _ _ aI mj b o cap hd hb iM b6 ho=>
      have eM:=hd
      obtain ⟨a,u,h1,h2,h3,h4⟩:=pU (isS:=true) (cap:=cap) b6 iw gC mC nJ h
      obtain rfl:=aJ h4
      obtain ⟨o',lB,cY⟩:=Ht (b:=b) (o:=o) hu dX (by omega) h3
      have gl:e=e':=dN
      exact .same S cY (.sub eM hb (by omega) (by omega) (fun h=>by rw[lB h,aZ,ho (by omega),gl,Nat.add_mul]))
theorem Xf (S:aE P w I β hp B M w0) {t:TypeId} {v:Value} {x:V} {lo hi mx:Option V} {lov hiv NF:Option Value} {r:R} {rd:List Nat} (hv:an P w I β hp v x)
  (iw:lo=none→lov=none) (gC: ∀y,hi=some y→∃u,hiv=some u∧an P w I β hp u y) (nB: ∀y,mx=some y→∃u,NF=some u∧an P w I β hp u y)
  (h:(Gw P t x lo hi mx).run C hp=some (r,rd)):db P ((Instr.sliceAt t v lov hiv NF).run P w) w I β hp B M w0 r:=by
 unfold Gw at h
 cases hu:P.underlying t with
 | none=>rw[hu] at h;cases h
 | some d=>
  rw[hu] at h
  cases d<;>(try (cases h;done))
  rename_i e
  cases lo<;>(try (cases h;done))
  cases hi<;>(try (cases h;done))
  rename_i vk
  cases vk<;>(try (cases h;done))
  cases mx<;>(try (cases h;done))
  rename_i Xg
  cases Xg<;>(try (cases h;done))
  obtain ⟨hc,h9⟩:=aF h
  clear h
  have h:=h9
  clear h9
  simp only[Bool.and_eq_true,decide_eq_true_eq] at hc
  obtain ⟨rfl,rfl,ax⟩:=hc
  obtain ⟨i,z,dX,_,_,_⟩:=jH ax
  obtain ⟨u1,rfl,k1⟩:=gC _ rfl
  obtain ⟨u2,rfl,k2⟩:=nB _ rfl
  rw[k1.ew,k2.ew,iw rfl]
  have run: ∀{k k2:IntKind} (a:Option Addr) (len cap:Nat),(Instr.sliceAt t (.slice a len cap) none (some (.int k 0)) (some (.int k2 0))).run P w= .ok (.slice a 0 0) w:=by
   intro k k2 a len cap
   cases a<;>simp[Instr.sliceAt,Instr.slice,Instr.sliceBounds,Instr.sliceBound,asIntOf,run_underlying hu,sizeOf,typeInfo,dX]
  cases x<;>(try (cases h;done))
  ·simp only at h
   obtain rfl:=aJ h
   cases hv with
   | list hp'=>cases hp'<;>exact .same S (run _ _ _) .nilS
  ·simp only at h
   obtain rfl:=aJ h
   cases hv
   exact .same S (run _ _ _) .nilS
  ·rename_i e' id
   simp only at h
   obtain ⟨l,h⟩:=run_get h
   cases ae:hp id with
   | none=>rw[ae] at h;cases h
   | some blk=>
    rw[ae] at h
    cases blk<;>simp only at h<;>first|(cases h;done)|skip
    all_goals
     obtain rfl:=aJ h
     cases hv with
     | ed hd=>rw[ae] at hd;cases hd
     | eu hd=>exact .same S (run _ _ _) .nilS
     | dL hd hb=>exact .same S (run _ _ _) .nilS
     | whole hd=>exact .same S (run _ _ _) .nilS
theorem Xh (S:aE P w I β hp B M w0) {t:TypeId} {v ix:Value} {x y:V} {r:R} {rd:List Nat} (hv:an P w I β hp v x) (hy:an P w I β hp ix y)
  (h:(Gz P t x y).run C hp=some (r,rd)):db P ((Instr.indexAt t v ix).run P w) w I β hp B M w0 r:=by
 unfold Gz at h
 cases hu:P.underlying t with
 | none=>rw[hu] at h;cases h
 | some d=>
  rw[hu] at h
  cases y<;>(try (cases d<;>cases h;done))
  rename_i k i
  rw[hy.ew]
  cases d<;>simp only at h<;>first|(cases h;done)|skip
  case slice e=>
   have run: ∀(b o len cap:Nat) (ie:TypeInfo),P.info? e=some ie→0≤i→i<(len:Int)→(Instr.indexAt t (.slice (some ⟨b,o,none⟩) len cap) (.int k i)).run P w= .ok (.pointer (some ⟨b,o+i.toNat*ie.size,none⟩)) w:=by
    intro b o len cap ie jg h0 h1
    simp[Instr.indexAt,asIntOf,run_underlying hu,h0,h1,sizeOf,typeInfo,jg,my]
   cases x<;>simp only at h<;>first|(cases h;done)|skip
   case list e' es=>
    obtain ⟨hc,h⟩:=aF h
    simp only[Bool.and_eq_true,Nat.beq_eq] at hc
    obtain ⟨dN,ax⟩:=hc
    have gl:e=e':=dN
    obtain ⟨ie,z,dX,_,aZ,_⟩:=jH ax
    obtain ⟨el,cS,h⟩:=kH h
    obtain rfl:=aJ h
    unfold idx at cS
    cases h0:decide (0≤i) with
    | false=>rw[h0] at cS;cases cS
    | true=>
     rw[h0] at cS
     simp only[cond_true] at cS
     have Xi:0≤i:=by simpa using h0
     have aR:i.toNat<es.length:=(List.getElem?_eq_some_iff.1 cS).1
     cases hv with
     | list hp'=>
      cases hp' with
      | nil=>simp at aR
      | emp=>simp at aR
      | @list b o len cap _ g hl b6 hI fW hx=>
       rw[←gl] at fW hx hI
       refine .same S (run b o len cap ie dX Xi (by omega)) ?_
       have eU:=u5 (P:=P) e el
       have Hu:=fu ax
       have NG:(bif bH P e then flat P e else [e])=aU P e:=rfl
       rw[NG]
       refine .pref (by rw[eU]) (fun _=>hI ?_) (fun j t' y' ht xM=> ?_)
       ·have:=Nat.mul_pos (show 0<len by omega) (jF ax).2
        exact this
       ·obtain ⟨t2,a1,a2⟩:=GY xM
        rw[ht] at a1;cases a1
        have hj:j<P.cellsOf e:=by rw[←Hu];exact (List.getElem?_eq_some_iff.1 ht).1
        have gz:=hx i.toNat j el t' cS ht
        refine ⟨g i.toNat j,?_,?_⟩
        ·rw[aZ,Nat.add_assoc];exact fW i.toNat j (by omega) hj
        ·rw[a2,gz.rm];exact gz
   case whole e' id=>
    obtain ⟨l,h⟩:=run_get h
    cases ae:hp id with
    | none=>rw[ae] at h;cases h
    | some blk=>
     rw[ae] at h
     cases blk<;>simp only at h<;>first|(cases h;done)|skip
     rename_i dJ es fz
     obtain ⟨hc,h⟩:=aF h
     simp only[Bool.and_eq_true,Nat.beq_eq] at hc
     obtain ⟨dN,jc⟩:=hc
     obtain ⟨eN,h⟩:=aF h
     simp only[Bool.and_eq_true,decide_eq_true_eq] at eN
     obtain rfl:=aJ h
     cases hv with
     | ed hd=>rw[ae] at hd;cases hd
     | eu hd=>rw[ae] at hd;cases hd
     | dL hd hb=>rw[ae] at hd;cases hd;simp at eN;omega
     | @whole _ _ aI mj b cap hd hb yb b6 hm=>
      have eM:=hd
      rw[ae] at hd
      cases hd
      have hr:=S.h.rel id _ ae
      cases hr with
      | dM az=>rw[az] at hb;cases hb
      | arr ax az hh hs hf ee hx=>
       have gl:e=e':=dN
       obtain ⟨ie,z,dX,_,aZ,_⟩:=jH ax
       rw[←gl] at dX aZ
       refine .same S (run b 0 _ cap ie dX eN.1 eN.2) ?_
       have:=an.ptr (P:=P) (w:=w) (I:=I) (i:=i.toNat) (c:=0) eM (by simp) hb
       simp only[aj.sz] at this
       rw[Nat.zero_add,aZ,gl]
       simpa using this
     rename_i dJ es ao
     obtain ⟨hc,h⟩:=aF h
     simp only[Bool.and_eq_true,Nat.beq_eq] at hc
     obtain ⟨dN,jc⟩:=hc
     obtain ⟨eN,h⟩:=aF h
     simp only[Bool.and_eq_true,decide_eq_true_eq] at eN
     obtain rfl:=aJ h
     cases hv with
     | ed hd=>rw[ae] at hd;cases hd
     | dL hd hb=>rw[ae] at hd;cases hd
     | whole hd=>rw[ae] at hd;cases hd
     | @eu _ _ aI vers' b cap hd hb yb b6 hm=>
      have eM:=hd
      rw[ae] at hd
      cases hd
      have ax:=(S.rows eM hb .here).ok
      have gl:e=e':=dN
      obtain ⟨ie,z,dX,_,aZ,_⟩:=jH ax
      rw[←gl] at dX aZ
      refine .same S (run b 0 _ cap ie dX eN.1 eN.2) ?_
      have:=an.ptr (P:=P) (w:=w) (I:=I) (i:=i.toNat) (c:=0) eM (by simp) hb
      simp only[aj.sz] at this
      rw[Nat.zero_add,aZ,gl]
      simpa using this
   case row e' id ver path=>
    obtain ⟨e0,es,ao,l,ae,h1,h2,h3,h⟩:=nA h
    obtain ⟨e2,v',k1,k2,h⟩:=uY h
    obtain ⟨hc,h⟩:=aF h
    simp only[Bool.and_eq_true,Nat.beq_eq] at hc
    obtain ⟨dN,jc⟩:=hc
    obtain ⟨eN,h⟩:=aF h
    simp only[Bool.and_eq_true,decide_eq_true_eq] at eN
    obtain rfl:=aJ h
    cases hv with
    | iZ hd hp'=>rw[ae] at hd;cases hd;exact absurd hp' (uZ h1 h2 h3)
    | @row v _ e0 t1 _ ver b i1 c1 q es l1 ao hd hb hq Hc ht fW=>
     have Xj:=fW
     obtain ⟨b',e3,aI,Ca,T,f,x,m1,m2,m3,m4,m5,m6⟩:=fW
     have mw:=hd
     rw[ae] at mw
     cases mw
     obtain ⟨n1,n2⟩:=Cq m1 m3 m4 ht m5
     rw[n2] at k2
     cases k2
     simp only[V.toList] at eN
     have hR:=S.rows hd hb m1
     obtain ⟨C1,c2,c3,c4⟩:=hR.cells
     rw[m2] at c2
     cases c2
     have hj:c1<P.cellsOf e3:=by
      rw[←fu hR.ok];exact (List.getElem?_eq_some_iff.1 m4).1
     obtain ⟨v2,d1,d2⟩:=c4 _ _ _ _ m3 m4 hj
     rw[m6] at d1
     cases d1
     rw[m5] at d2
     cases d2 with
     | fH a _=>unfold fD at a;rw[ht] at a;cases a
     | emp _ _=>simp at eN;omega
     | @row _ _ b1 cap _ hl _ _ _=>
      have ax:=(S.rows hd hb (m1.snoc m2 m3 m4 ht m5 hl m6)).ok
      have gl:e=e':=dN
      obtain ⟨ie,z,dX,_,aZ,_⟩:=jH ax
      rw[←gl] at dX aZ
      refine .same S (run b1 0 _ cap ie dX eN.1 eN.2) ?_
      have:=an.cA (P:=P) (I:=I) (i:=i.toNat) (c:=0) hd hb hq Hc ht hl Xj
      rw[Nat.zero_add,aZ,gl]
      simpa using this
   case sub e' id off len=>
    obtain ⟨l,h⟩:=run_get h
    cases ae:hp id with
    | none=>rw[ae] at h;cases h
    | some blk=>
     rw[ae] at h
     cases blk<;>simp only at h<;>first|(cases h;done)|skip
     rename_i dJ es fz
     obtain ⟨hc,h⟩:=aF h
     simp only[Bool.and_eq_true,Nat.beq_eq] at hc
     obtain ⟨dN,jc⟩:=hc
     obtain ⟨eN,h⟩:=aF h
     simp only[Bool.and_eq_true,decide_eq_true_eq] at eN
     obtain rfl:=aJ h
     cases hv with
     | fV hd=>rw[ae] at hd;cases hd
     | fI hd hb=>simp at eN;omega
     | @sub _ _ _ _ aI mj b o cap hd hb iM b6 ho=>
      have eM:=hd
      rw[ae] at hd
      cases hd
      have hr:=S.h.rel id _ ae
      cases hr with
      | dM az=>rw[az] at hb;cases hb
      | arr ax az hh hs hf ee hx=>
       have gl:e=e':=dN
       obtain ⟨ie,z,dX,_,aZ,_⟩:=jH ax
       rw[←gl] at dX aZ
       refine .same S (run b o _ cap ie dX eN.1 eN.2) ?_
       have:=an.ptr (P:=P) (w:=w) (I:=I) (i:=off+i.toNat) (c:=0) eM (by simp) hb
       simp only[aj.sz] at this
       rw[ho (by omega),aZ,gl,←Nat.add_mul]
       simpa using this
  case array n e=>
   have run: ∀(b o:Nat) (ie:TypeInfo),P.info? e=some ie→0≤i→i<(n:Int)→(Instr.indexAt t (.pointer (some ⟨b,o,none⟩)) (.int k i)).run P w= .ok (.pointer (some ⟨b,o+i.toNat*ie.size,none⟩)) w:=by
    intro b o ie jg h0 h1
    simp[Instr.indexAt,asIntOf,run_underlying hu,h0,h1,sizeOf,typeInfo,jg,my,Instr.sureAddr]
   cases x<;>simp only at h<;>first|(cases h;done)|skip
   case ptr id j c=>
    obtain ⟨⟨blk,ae,hd⟩,l,h⟩:=u3 h
    obtain ⟨eN,h⟩:=aF h
    simp only[Bool.and_eq_true,decide_eq_true_eq] at eN
    obtain rfl:=aJ h
    obtain ⟨b,hb,rfl⟩:=hv.gB ae hd
    obtain ⟨d,s7⟩:=xQ eN.1
    obtain ⟨ie,jg⟩:=u4 s7
    have aZ:ie.size=P.cellsOf e:=by simp[Program.cellsOf,jg]
    refine .same S (run b _ ie jg eN.2.1 eN.2.2) ?_
    rw[aZ,Nat.add_assoc]
    exact .ptr ae hd hb
   case pref ts cs=>
    obtain ⟨eN,h⟩:=aF h
    simp only[Bool.and_eq_true,decide_eq_true_eq] at eN
    obtain rfl:=aJ h
    obtain ⟨b,o,rfl,h1,h2,h3⟩:=hv.Cx
    obtain ⟨d,s7⟩:=xQ eN.1
    obtain ⟨ie,jg⟩:=u4 s7
    have aZ:ie.size=P.cellsOf e:=by simp[Program.cellsOf,jg]
    refine .same S (run b _ ie jg eN.2.1 eN.2.2) ?_
    rw[aZ]
    exact an.MX h1 h2 h3
end
end Go.AM
namespace Go.AM
open Go.Maps
section
variable {P:Program} {w w':World} {I I':Nat→Prop} {β au:Nat→Option Nat} {hp hp':Nat→Option aj} {C:af} {B:Nat} {M:Nat→Prop} {w0:Start}
theorem Xk (S:aE P w I β hp B M w0) {nb:Nat} {t:TypeId} {v:Value} {x:V} {lo hi:Option V} {lov hiv:Option Value} {r:R} {rd:List Nat} (hv:an P w I β hp v x)
  (gC: ∀x,hi=some x→∃v,hiv=some v∧an P w I β hp v x) (mC:lo=none→lov=none)
  (h:(Cc P nb t x lo hi).run C hp=some (r,rd)):db P ((Instr.sliceAt t v lov hiv none).run P w) w I β hp B M w0 r:=by
 unfold Cc at h
 split at h
 case h_2=>cases h
 rename_i e e' id k hh hu
 obtain ⟨l,h1⟩:=run_get h
 cases ae:hp id with
 | none=>rw[ae] at h1;cases h1
 | some blk=>
  rw[ae] at h1
  cases blk<;>simp only at h1<;>first|(cases h1;done)|skip
  rename_i e2 es fz
  cases fz with
  | true=>cases h1
  | false=>
  obtain ⟨hc,h2⟩:=aF h1
  simp only[Bool.and_eq_true,Nat.beq_eq,decide_eq_true_eq] at hc
  obtain ⟨rfl,rfl,ax,NH,NI⟩:=hc
  obtain ⟨hn,rfl⟩:=mB h2
  have iw:=mC rfl
  subst iw
  obtain ⟨Hv,rfl,Xl⟩:=gC _ rfl
  obtain rfl:=Xl.ew
  obtain ⟨i,z,dX,_,aZ,_⟩:=jH ax
  have bM:nb≠id:=fun e=>by rw[e,ae] at hn;cases hn
  obtain ⟨k1,k2⟩:=Ct S ae
  have iO:aH hp id (some aj.dead) nb=none:=by rw[eg _ _ bM];exact hn
  have NJ: ∀cap,es.length≤cap→(Instr.sliceBounds true es.length cap none (some (.int k hh)) none).run P w= .ok (0,hh.toNat,cap) w:=by
   intro cap b6
   have hb:(qZ es.length none (some (.int k hh)) fun l u=> .aB (decide (l=0∧u=hh.toNat)) (.ret (⟨.undef,[]⟩:R))).run C hp=some (⟨.undef,[]⟩,[]):=by
    simp[qZ,Rd.run,NH,NI]
   obtain ⟨l,u,b1,b2,b3,b4⟩:=pU (P:=P) (w:=w) (I:=I) (β:=β) (hp:=hp) (n:=es.length) (isS:=true) (cap:=cap) (lov:=none) (hiv:=some (.int k hh)) b6 (by simp) (fun x hx=>by cases hx;exact ⟨_,rfl,.int⟩) (fun _=>rfl) (by simp) hb
   obtain ⟨b5,_⟩:=aF b4
   simp only[decide_eq_true_eq] at b5
   obtain ⟨rfl,rfl⟩:=b5
   exact b3
  cases hv with
  | ed hd=>rw[ae] at hd;cases hd
  | eu hd=>rw[ae] at hd;cases hd
  | @dL _ _ _ a0 hd hb=>
   rw[ae] at hd
   cases hd
   have G4:hh=0:=by simpa using Int.le_antisymm NI NH
   subst G4
   have az:=NJ 0 (Nat.le_refl _)
   obtain ⟨a1,a2⟩:=Cs k2 e iO
   refine ⟨_,w,I,_,CT hu dX az,k1.trans a1,a2,.dL (cW _ _ _) (cW _ _ _)⟩
  | @whole _ _ aI mj b cap hd hb yb b6 hm=>
   have eM:=hd
   rw[ae] at hd
   cases hd
   have hr:=S.h.rel id _ ae
   cases hr with
   | dM az=>rw[az] at hb;cases hb
   | @arr _ _ _ b' Ca _ az CU oN hf ee lH=>
    rw[hb] at az
    cases az
    have iN:(es.take hh.toNat).length=hh.toNat:=by rw[List.length_take];omega
    have cY:(Instr.sliceAt t (.slice (some ⟨b,0,none⟩) es.length cap) none (some (.int k hh)) none).run P w= .ok (.slice (some ⟨b,0,none⟩) hh.toNat cap) w:=by
     have az:=NJ cap b6
     by_cases CV:cap=0
     ·subst CV
      simp[Instr.sliceAt,Instr.slice,run_underlying hu,az,sizeOf,typeInfo,dX]
     ·simp[Instr.sliceAt,Instr.slice,run_underlying hu,az,sizeOf,typeInfo,dX,CV,my]
    have pI: ∀aC blk',aH hp id (some aj.dead) aC=some blk'→¬bA P w (β aC) blk' b:=by
     intro aC blk' h1 h2
     by_cases iv:aC=id
     ·subst iv;rw[cW] at h1;cases h1;exact h2.alive rfl
     ·rw[eg _ _ iv] at h1
      exact iv (S.h.inj aC id blk' _ b h1 ae h2 (.root (by simp) hb))
    obtain ⟨a1,a2⟩:=xL k2 (blk:= .arr e (es.take hh.toNat) false) (w':=w) iO pI (ee rfl) (fun _ _ _=>rfl) (Nat.le_refl _) ⟨rfl,rfl⟩ (S.h.ri id _ b ae (by simp) hb)
     (fun b' h=>(Option.some.inj (h.flat (by simp))).symm) (fun hle=> .arr ax rfl CU (by rw[iN];exact Nat.le_trans (Nat.mul_le_mul_right _ (by omega)) oN) (fun h=>by cases h) (fun _=>ee rfl) fun i j y t' hy ht hj=>by
      have pT:=(List.getElem?_eq_some_iff.1 hy).1
      rw[iN] at pT
      rw[List.getElem?_take_of_lt pT] at hy
      obtain ⟨v,hv,hp⟩:=lH i j y t' hy ht hj
      exact ⟨v,hv,hp.mono hle.dr hle.b8⟩)
    refine ⟨_,w,I,_,cY,k1.trans a1,a2,?_⟩
    have:=an.whole (P:=P) (w:=w) (I:=I) (β:=aH β nb (some b)) (hp:=aH (aH hp id (some .dead)) nb (some (.arr e (es.take hh.toNat) false))) (cap:=cap) (cW _ _ _) (cW _ _ _) yb (by rw[iN];omega) hm
    rw[iN] at this
    exact this
theorem pV {t:TypeId} {x:V} (h:oz P t x=true):
  (∃q n,P.underlying t=some (.int q)∧x= .int q n∧cR q n=true)∨(∃b,P.underlying t=some .bool∧x= .bool b)∨(∃s,P.underlying t=some .string∧x= .str s∧s.length≤maxLen):=by
 unfold oz at h
 split at h
 ·rename_i q q' n hu
  simp only[Bool.and_eq_true,decide_eq_true_eq] at h
  obtain ⟨rfl,h⟩:=h
  exact .inl ⟨_,_,hu,rfl,h⟩
 ·rename_i b hu
  exact .inr (.inl ⟨_,hu,rfl⟩)
 ·rename_i s hu
  exact .inr (.inr ⟨_,hu,rfl,by simpa using h⟩)
 ·cases h
theorem size_data (s:ByteArray):s.data.toList.length=s.size:=by simp
theorem Xm {q:IntKind} {n:Int} (h:cR q n=true):(Lit.int q n).wf=true:=h
theorem NK {t:TypeId} {x:V} {v:Value} (h:oz P t x=true) (hv:iL v x): ∃l,mapKey P t v=some l∧∀d,P.keyLits (d+1) t [v]=some [l]:=by
 rcases pV h with ⟨q,n,hu,rfl,hn⟩|⟨b,hu,rfl⟩|⟨s,hu,rfl,hs⟩
 ·obtain rfl:v= .int q n:=hv
  have hw:=Xm hn
  exact ⟨.int q n,by simp[mapKey,hu,hw],fun d=>by simp[Program.keyLits,hu,hw]⟩
 ·obtain rfl:v= .bool b:=hv
  exact ⟨.bool b,by simp[mapKey,hu],fun d=>by simp[Program.keyLits,hu]⟩
 ·obtain ⟨s',rfl,ry⟩:=hv
  have:s'.size≤maxLen:=by rw[←size_data,ry];exact hs
  exact ⟨.string s'.data.toList,by simp[mapKey,hu,this],fun d=>by simp[Program.keyLits,hu,this]⟩
theorem Hw {t:TypeId}: ∀{xs:List V} {j:Nat} {x:V},py P t xs=true→xs[j]? =some x→oz P t x=true
 | [],j,x,_,h=>by simp at h
 | y::ys,0,x,h,hx=>by
  simp only[py,Bool.and_eq_true] at h
  simp at hx;subst hx;exact h.1
 | y::ys,j+1,x,h,hx=>by
  simp only[py,Bool.and_eq_true] at h
  exact Hw (j:=j) h.2 (by simpa using hx)
theorem mapM_some {α β:Type} {f:α→Option β}: ∀{l:List α},(∀a∈l,∃b,f a=some b)→∃bs,l.mapM f=some bs
 | [],_=>⟨[],rfl⟩
 | a::l,h=>by
  obtain ⟨b,hb⟩:=h a (List.mem_cons_self ..)
  obtain ⟨bs,gA⟩:=mapM_some (l:=l) fun x hx=>h x (List.mem_cons_of_mem _ hx)
  exact ⟨b::bs,by simp[List.mapM_cons,hb,gA]⟩
inductive Hy (P:Program) (t:TypeId) (x:V):Prop
 | one:oz P t x=true→x.cells=[x]→Hy P t x
 | arr {n:Nat} {e:TypeId} {xs:List V}:x= .agg xs→WideMaps.ArrKey P t e n→xs.length=n→0<P.types.size→py P e xs=true→Hy P t x
theorem vl {t:TypeId} {x:V} (h:mi P t x=true):Hy P t x:=by
 unfold mi at h
 split at h
 ·rename_i n e xs hu
  simp only[Bool.and_eq_true,Nat.beq_eq] at h
  rw[Nat.blt_eq] at h
  exact .arr rfl ⟨hu,h.2.2.2.1,h.2.1,h.2.2.1⟩ h.1 h.2.2.2.2.1 h.2.2.2.2.2
 ·refine .one h ?_
  rcases pV h with ⟨q,n,hu,rfl,hn⟩|⟨b,hu,rfl⟩|⟨s,hu,rfl,hs⟩<;>rfl
theorem pD.one {x:V} {v:Value} (h:pD v x) (hx:x.cells=[x]):iL v x:=by
 cases x<;>first|exact h|skip
 simp only[V.cells] at hx
 rename_i cs
 have:=congrArg List.length hx
 cases cs with
 | nil=>simp at hx
 | cons c cs=>
  simp only[List.cons.injEq] at hx
  have:=congrArg SizeOf.sizeOf hx.1
  simp at this
  omega
theorem CW {t:TypeId} {x:V} {v:Value} (h:mi P t x=true) (hv:pD v x): ∃l,Go.keyOf P t v=some l:=by
 cases vl h with
 | one h1 hx=>
  obtain ⟨l,hl,_⟩:=NK h1 (hv.one hx)
  refine ⟨l,?_⟩
  rcases pV h1 with ⟨q,n,hu,_⟩|⟨b,hu,_⟩|⟨s,hu,_⟩<;>simp only[Go.keyOf,hu,hl]
 | @arr n e xs hx A hl hp0 hf=>
  subst hx
  obtain ⟨cs,rfl,hs,hc⟩:=hv
  obtain ⟨m,hm⟩: ∃m,P.types.size=m+1:=⟨P.types.size-1,by omega⟩
  have Xn:=A.keyType ⟨m,hm⟩
  have hlen:cs.toList.length=P.cellsOf t:=by rw[A.size];simp[hs,hl]
  have Xo:(Value.agg cs).formed P t=true:=by simp[Value.formed,A.hu,A.size,hs,hl]
  have hex: ∀i∈List.range n,∃y,P.keyLits (m+1) e (((Value.agg cs).cells.toList.drop (i*P.cellsOf e)).take (P.cellsOf e))=some y:=by
   intro i hi
   have hi:=List.mem_range.1 hi
   rw[A.one]
   have fY:i<cs.size:=by omega
   have yc:i<xs.length:=by omega
   obtain ⟨l,_,h2⟩:=NK (Hw hf (List.getElem?_eq_getElem yc)) (hc i cs[i] xs[i] (Array.getElem?_eq_getElem fY) (List.getElem?_eq_getElem yc))
   have e1:((Value.agg cs).cells.toList.drop (i*1)).take 1=[cs[i]]:=by
    show (cs.toList.drop (i*1)).take 1=_
    rw[Nat.mul_one,List.drop_eq_getElem_cons (by simpa using fY)]
    simp
   rw[e1]
   exact ⟨_,h2 m⟩
  obtain ⟨bs,gA⟩:=mapM_some hex
  refine ⟨.string (keyBytes bs.flatten),?_⟩
  have Xp:(Value.agg cs).cells.toList.length=P.cellsOf t:=hlen
  unfold Go.keyOf
  rw[A.hu]
  simp only[Xn,Xo,Bool.and_self,if_true]
  unfold Program.keyLits
  rw[A.hu,hm]
  simp only[Xp,if_true,gA,Option.map_some]
theorem Hz {t:TypeId} {x:V} (h:mi P t x=true):Keyed P t:=by
 cases vl h with
 | one h1 hx=>
  rcases pV h1 with ⟨q,n,hu,_⟩|⟨b,hu,_⟩|⟨s,hu,_⟩
  ·exact int_keyed hu
  ·exact bool_keyed hu
  ·exact string_keyed hu
 | arr hx A hl _ hf=>exact Keyed.of_law A.law
theorem NL {t:TypeId} {x y:V} {v u:Value} (h1:oz P t x=true) (h2:oz P t y=true) (hv:iL v x) (hu:iL u y):qX x y=true↔v=u:=by
 rcases pV h1 with ⟨q,n,lI,rfl,_⟩|⟨b,lI,rfl⟩|⟨s,lI,rfl,_⟩<;>
 rcases pV h2 with ⟨q',n',oP,rfl,_⟩|⟨b',oP,rfl⟩|⟨s',oP,rfl,_⟩<;>
  (rw[lI] at oP;cases oP)
 ·obtain rfl:v= .int q n:=hv
  obtain rfl:u= .int q n':=hu
  simp[qX]
 ·obtain rfl:v= .bool b:=hv
  obtain rfl:u= .bool b':=hu
  simp[qX]
 ·obtain ⟨s1,rfl,e1⟩:=hv
  obtain ⟨s2,rfl,e2⟩:=hu
  simp only[qX,beq_iff_eq,Value.string.injEq,←e1,←e2]
  constructor
  ·intro h
   have:=Array.toList_inj.1 h
   cases s1;cases s2;simp_all
  ·rintro rfl;rfl
theorem NM {t:TypeId}: ∀{xs ys:List V} {vs us:List Value},py P t xs=true→py P t ys=true→xs.length=ys.length→vs.length=xs.length→us.length=ys.length→
  (∀(j:Nat) v x,vs[j]? =some v→xs[j]? =some x→iL v x)→(∀(j:Nat) v x,us[j]? =some v→ys[j]? =some x→iL v x)→(oy xs ys=true↔vs=us)
 | [],[],vs,us,_,_,_,h1,h2,_,_=>by
  have e1:=List.eq_nil_of_length_eq_zero (l:=vs) (by simpa using h1)
  have e2:=List.eq_nil_of_length_eq_zero (l:=us) (by simpa using h2)
  simp[oy,e1,e2]
 | [],_::_,_,_,_,_,h,_,_,_,_=>by simp at h
 | _::_,[],_,_,_,_,h,_,_,_,_=>by simp at h
 | x::xs,y::ys,[],us,_,_,_,h,_,_,_=>by simp at h
 | x::xs,y::ys,v::vs,[],_,_,_,_,h,_,_=>by simp at h
 | x::xs,y::ys,v::vs,u::us,f1,f2,h,h1,h2,r1,r2=>by
  simp only[py,Bool.and_eq_true] at f1 f2
  have a:=NL f1.1 f2.1 (r1 0 v x rfl rfl) (r2 0 u y rfl rfl)
  have b:=NM (vs:=vs) (us:=us) f1.2 f2.2 (by simpa using h) (by simpa using h1) (by simpa using h2) (fun j v x hj hx=>r1 (j+1) v x (by simpa using hj) (by simpa using hx)) (fun j v x hj hx=>r2 (j+1) v x (by simpa using hj) (by simpa using hx))
  simp only[oy,Bool.and_eq_true,a,b,List.cons.injEq]
theorem HA {t:TypeId} {x y:V} {v u:Value} (h1:mi P t x=true) (h2:mi P t y=true) (hv:pD v x) (hu:pD u y):iG x y=true↔v=u:=by
 unfold iG
 cases vl h1 with
 | one f1 c1=>
  cases vl h2 with
  | one f2 c2=>
   rw[c1,c2]
   simp only[oy,Bool.and_true]
   exact NL f1 f2 (hv.one c1) (hu.one c2)
  | arr hy A hl _ hf=>
   rcases pV f1 with ⟨q,n,lI,_⟩|⟨b,lI,_⟩|⟨s,lI,_⟩<;>(rw[A.hu] at lI;cases lI)
 | arr hx A hl _ hf=>
  cases vl h2 with
  | one f2 c2=>
   rcases pV f2 with ⟨q,n,lI,_⟩|⟨b,lI,_⟩|⟨s,lI,_⟩<;>(rw[A.hu] at lI;cases lI)
  | arr hy A2 sm _ Xq=>
   have gl:=A.hu.symm.trans A2.hu
   cases gl
   subst hx
   subst hy
   obtain ⟨cs,rfl,s1,r1⟩:=hv
   obtain ⟨ds,rfl,s2,r2⟩:=hu
   have:=NM (vs:=cs.toList) (us:=ds.toList) hf Xq (by omega) (by simpa using s1) (by simpa using s2) (fun j v x hj hx=>r1 j v x (by simpa using hj) hx) (fun j v x hj hx=>r2 j v x (by simpa using hj) hx)
   simp only[V.cells,this,Value.agg.injEq]
   exact Array.toList_inj
theorem NN {k:V}: ∀{es:List V},(∀x∈es,iG k (x.comp 0)=false)→fo k es=false∧(∀z,gK k es z=z)∧∀v,eS k v es=es++[.bh [k,v]]
 | [],_=>⟨rfl,fun _=>rfl,fun _=>rfl⟩
 | e::es,h=>by
  have h0:=h e (List.mem_cons_self ..)
  obtain ⟨a,b,c⟩:=NN (k:=k) (es:=es) fun x hx=>h x (List.mem_cons_of_mem _ hx)
  exact ⟨by simp[fo,h0,a],fun z=>by simp[gK,h0,b],fun v=>by simp[eS,h0,c]⟩
theorem NO {k:V}: ∀{es:List V} {j:Nat} {k' y:V},es[j]? =some (.bh [k',y])→iG k k'=true→(∀i x,i<j→es[i]? =some x→iG k (x.comp 0)=false)→
  fo k es=true∧(∀z,gK k es z=y)∧∀v,eS k v es=es.set j (.bh [k',v])
 | [],j,k',y,h,_,_=>by simp at h
 | e::es,0,k',y,h,he,_=>by
  simp at h
  subst h
  exact ⟨by simp[fo,V.comp,V.nth,he],fun z=>by simp[gK,V.comp,V.nth,he],fun v=>by simp[eS,V.comp,V.nth,he]⟩
 | e::es,j+1,k',y,h,he,aR=>by
  have h0:=aR 0 e (by omega) rfl
  obtain ⟨a,b,c⟩:=NO (k:=k) (es:=es) (j:=j) (by simpa using h) he fun i x hi hx=>aR (i+1) x (by omega) (by simpa using hx)
  exact ⟨by simp[fo,h0,a],fun z=>by simp[gK,h0,b],fun v=>by simp[eS,h0,c]⟩
theorem NQ {kt vt:TypeId} {E:Array MapEntry} {es:List V} {k:V} {kv:Value} (hs:E.size=es.length) (hx: ∀(j:Nat) (e:MapEntry) (x:V),E[j]? =some e→es[j]? =some x→Cl P kt vt e x)
  (hn:E.toList.Pairwise (fun a b=>a.key≠b.key)) (hk:mi P kt k=true) (CX:pD kv k) (w:World):
  ((Instr.findKey kt kv E.toList).run P w= .ok none w∧(∀e∈E.toList,e.key≠kv)∧fo k es=false∧(∀z,gK k es z=z)∧∀v,eS k v es=es++[.bh [k,v]])∨
  ∃j e k' y,(Instr.findKey kt kv E.toList).run P w= .ok (some (j,e.val)) w∧E[j]? =some e∧e.key=kv∧es[j]? =some (.bh [k',y])∧mi P kt k'=true∧pD kv k'∧eC P vt y=true∧iL e.val y∧
   fo k es=true∧(∀z,gK k es z=y)∧∀v,eS k v es=es.set j (.bh [k',v]):=by
 have K:=Hz hk
 obtain ⟨l,hl⟩:=CW hk CX
 have NR: ∀(j:Nat) x,es[j]? =some x→∃e,E[j]? =some e∧Cl P kt vt e x:=by
  intro j x hj
  have aR:j<E.size:=by rw[hs];exact (List.getElem?_eq_some_iff.1 hj).1
  exact ⟨E[j],Array.getElem?_eq_getElem aR,hx j _ x (Array.getElem?_eq_getElem aR) hj⟩
 have keys: ∀e∈E.toList,∃l,Go.keyOf P kt e.key=some l:=by
  intro e he
  obtain ⟨j,hj⟩:=List.getElem?_of_mem he
  have gj:E[j]? =some e:=by simpa using hj
  have aR:j<es.length:=by rw[←hs];exact (Array.getElem?_eq_some_iff.1 gj).1
  obtain ⟨k',y,_,h1,h2,_⟩:=hx j e es[j] gj (List.getElem?_eq_getElem aR)
  exact CW h1 h2
 rcases K.find w hl E.toList keys with ⟨h1,h2⟩|⟨j,e,h1,h2,h3⟩
 ·left
  refine ⟨h1,h2,NN fun x Xr=> ?_⟩
  obtain ⟨j,hj⟩:=List.getElem?_of_mem Xr
  obtain ⟨e,he,k',y,rfl,f1,f2,_⟩:=NR j x hj
  cases hq:iG k (V.comp (.bh [k',y]) 0) with
  | false=>rfl
  | true=>
   have:=(HA hk f1 CX f2).1 hq
   exact absurd this.symm (h2 e (List.mem_of_getElem? (by simpa using he)))
 ·right
  have hE:E[j]? =some e:=by simpa using h2
  have aR:j<es.length:=by rw[←hs];exact (Array.getElem?_eq_some_iff.1 hE).1
  obtain ⟨k',y,hy,f1,f2,f3,f4⟩:=hx j e es[j] hE (List.getElem?_eq_getElem aR)
  have hj:=List.getElem?_eq_getElem aR
  rw[hy] at hj
  rw[h3] at f2
  refine ⟨j,e,k',y,h1,hE,h3,hj,f1,f2,f3,f4,NO hj ((HA hk f1 CX f2).2 rfl) fun i x hi gh=> ?_⟩
  obtain ⟨e',sY,k2,y2,rfl,g1,g2,_⟩:=NR i x gh
  cases hq:iG k (V.comp (.bh [k2,y2]) 0) with
  | false=>rfl
  | true=>
   have:=(HA hk g1 CX g2).1 hq
   have i1:i<E.toList.length:=by have:=(List.getElem?_eq_some_iff.1 gh).1;simp;omega
   have i2:j<E.toList.length:=by simp;omega
   have:=List.pairwise_iff_getElem.1 hn i j i1 i2 hi
   have a1:E.toList[i]=e':=by
    have:E.toList[i]? =some e':=by simpa using sY
    rw[List.getElem?_eq_getElem i1] at this;exact Option.some.inj this
   have a2:E.toList[j]=e:=by
    have:=h2
    rw[List.getElem?_eq_getElem i2] at this;exact Option.some.inj this
   rw[a1,a2,h3] at this
   exact absurd (by rw[← ‹kv=e'.key›]) this
theorem an.NS {v:Value} {x:V} (h:an P w I β hp v x) {t:TypeId} (hx:oz P t x=true):iL v x:=by
 rcases pV hx with ⟨q,n,_,rfl,_⟩|⟨b,_,rfl⟩|⟨s,_,rfl,_⟩
 ·exact h.ew
 ·exact h.je
 ·exact h.lC
theorem an.NT {v:Value} {x:V} (h:an P w I β hp v x) {t:TypeId} (hx:mi P t x=true):pD v x:=by
 cases vl hx with
 | one f c=>
  have:=h.NS f
  cases x<;>first|exact this|cases this
 | arr hx A hl _ hf=>
  subst hx
  obtain ⟨cs,rfl,h1,h2⟩:=h.j7
  exact ⟨cs,rfl,h1,fun j u y hu hy=>(h2 j u y hu hy).NS (Hw hf hy)⟩
theorem NU {vt:TypeId} {y:V} (h:mapVal P vt=true) (ht:eC P vt y=true):(∃q n,P.underlying vt=some (.int q)∧y= .int q n)∨∃b,P.underlying vt=some .bool∧y= .bool b:=by
 unfold mapVal at h
 unfold eC at ht
 split at h
 ·rename_i q hu
  rw[hu] at ht
  cases y<;>first|(simp at ht;done)|skip
  simp only[decide_eq_true_eq] at ht
  subst ht
  exact .inl ⟨_,_,hu,rfl⟩
 ·rename_i hu
  rw[hu] at ht
  cases y<;>first|(simp at ht;done)|skip
  exact .inr ⟨_,hu,rfl⟩
 ·cases h
theorem iL.HB {vt:TypeId} {v:Value} {y:V} (h:mapVal P vt=true) (ht:eC P vt y=true) (hv:iL v y):an P w I β hp v y:=by
 rcases NU h ht with ⟨q,n,_,rfl⟩|⟨b,_,rfl⟩
 ·obtain rfl:v= .int q n:=hv;exact .int
 ·obtain rfl:v= .bool b:=hv;exact .bool
theorem an.Xs {vt:TypeId} {v:Value} {y:V} (h:mapVal P vt=true) (ht:eC P vt y=true) (hv:an P w I β hp v y):iL v y:=by
 rcases NU h ht with ⟨q,n,_,rfl⟩|⟨b,_,rfl⟩
 ·exact hv.ew
 ·exact hv.je
theorem Xt {vt:TypeId} {z:V} (h:B5 P vt=some z) (w:World): ∃v,(zeroValue vt).run P w= .ok v w∧iL v z:=by
 unfold B5 at h
 cases hi:P.info? vt with
 | none=>rw[hi] at h;cases h
 | some i=>
  rw[hi] at h
  simp only[Option.bind_some] at h
  cases hz:i.zero with
  | none=>rw[hz] at h;cases h
  | some v=>
   rw[hz] at h
   refine ⟨v,by simp[zeroValue,typeInfo,hi,hz],?_⟩
   cases v<;>simp only at h<;>first|(cases h;done)|skip
   ·cases h;rfl
   ·cases h;rfl
theorem HC {t kt vt:TypeId} (h:kE P t=some (kt,vt)):P.underlying t=some (.map kt vt):=by
 unfold kE at h
 split at h
 ·rename_i k e hu;cases h;exact hu
 ·cases h
theorem HD (S:aE P w I β hp B M w0) {ok:Bool} {v:Value} {x:V} {b:Bool} {r:R} {rd:List Nat} {res:Result Value} (hv:an P w I β hp v x)
  (hr:res= .ok (if ok then .tuple #[v,.bool b] else v) w) (h:(B6 ok x b).run C hp=some (r,rd)):db P res w I β hp B M w0 r:=by
 unfold B6 at h
 obtain rfl:=aJ h
 cases ok with
 | false=>exact .same S hr hv
 | true=>
  refine .same S hr (.bh rfl fun j u y hu hy=> ?_)
  match j,hu,hy with
  | 0,hu,hy=>simp at hu hy;subst hu;subst hy;exact hv
  | 1,hu,hy=>simp at hu hy;subst hu;subst hy;exact .bool
  | j+2,hu,hy=>simp at hy
theorem Xu (S:aE P w I β hp B M w0) {t kt vt:TypeId} (ht:kE P t=some (kt,vt)) {m k:Value} {mx kx:V} {ok:Bool} {r:R} {rd:List Nat} (hm:an P w I β hp m mx) (hk:an P w I β hp k kx)
  (h:(Gs P t mx kx ok).run C hp=some (r,rd)):db P ((Instr.lookup t m k ok).run P w) w I β hp B M w0 r:=by
 unfold Gs at h
 rw[ht] at h
 simp only at h
 cases hz:B5 P vt with
 | none=>rw[hz] at h;cases h
 | some z=>
  rw[hz] at h
  obtain ⟨hc,h'⟩:=aF h
  clear h
  have h:=h'
  clear h'
  simp only[Bool.and_eq_true] at hc
  obtain ⟨oQ,ye,CY⟩:=hc
  have hu:=HC ht
  have vm:=hk.NT oQ
  have K:=Hz oQ
  obtain ⟨l,hl⟩:=CW oQ vm
  obtain ⟨zv,NV,NW⟩:=Xt hz w
  cases mx<;>simp only at h<;>first|(cases h;done)|skip
  ·rename_i t' id
   obtain ⟨jG,h'⟩:=aF h
   clear h
   have h:=h'
   clear h'
   rw[Nat.beq_eq] at jG
   subst jG
   obtain ⟨l2,h'⟩:=run_get h
   clear h
   have h:=h'
   clear h'
   cases ae:hp id with
   | none=>rw[ae] at h;cases h
   | some blk=>
    rw[ae] at h
    cases blk<;>simp only at h<;>first|(cases h;done)|skip
    rename_i t2 es
    obtain ⟨jG,h'⟩:=aF h
    clear h
    have h:=h'
    clear h'
    rw[Nat.beq_eq] at jG
    subst jG
    cases hm with
    | gS hd=>rw[ae] at hd;cases hd
    | @bC _ _ b aI hd hb=>
     rw[ae] at hd
     cases hd
     have hr:=S.h.rel id _ ae
     cases hr with
     | @map _ NX NY _ b' clock E fK az hh hs hI hx hn=>
      rw[hb] at az;cases az
      rw[hu] at fK;cases fK
      rcases NQ hs hx hn oQ vm w with ⟨h1,_,h3,h4,_⟩|⟨j,e,k',y,h1,_,_,_,_,_,h6,h7,h3,h4,_⟩
      ·rw[h3,h4,xP CY] at h
       refine HD S (iL.HB ye CY NW) ?_ h
       unfold Instr.lookup
       simp only[Sem.run_bind,run_underlying hu,Result.andThen_ok,Go.MapKept.run_getObj_map hh,Sem.run_pure,K.check w E.isEmpty hl,h1,NV]
      ·rw[h3,h4,xP h6] at h
       refine HD S (iL.HB ye h6 h7) ?_ h
       unfold Instr.lookup
       simp only[Sem.run_bind,run_underlying hu,Result.andThen_ok,Go.MapKept.run_getObj_map hh,Sem.run_pure,K.check w E.isEmpty hl,h1]
  ·rename_i t'
   obtain ⟨jG,h⟩:=aF h
   cases hm
   rw[xP CY] at h
   refine HD S (iL.HB ye CY NW) ?_ h
   have hf:(Instr.findKey kt k []).run P w= .ok none w:=by
    rcases K.find w hl [] (by simp) with ⟨h1,_⟩|⟨j,e,_,h2,_⟩
    ·exact h1
    ·simp at h2
   unfold Instr.lookup
   simp[run_underlying hu,K.check w true hl,hf,NV]
theorem Xv (S:aE P w I β hp B M w0) {t:TypeId} {nb:Nat} {r:R} {rd:List Nat} (h:(Rd.aB (kE P t).isSome (iH nb (.map t []) (.bC t nb) [])).run C hp=some (r,rd)):
  db P ((Instr.makeMap t none).run P w) w I β hp B M w0 r:=by
 obtain ⟨ht,h⟩:=aF h
 obtain ⟨hn,rfl⟩:=mB h
 obtain ⟨⟨kt,vt⟩,ht⟩:=Option.isSome_iff_exists.1 ht
 have hu:=HC ht
 have cO: ¬I w.heap.size:=fun h=>Nat.lt_irrefl _ (S.h.jb _ h)
 have eV:(w.alloc (.map #[] 0)).heap[w.heap.size]? =some (.map #[] 0):=heap_alloc_new w _
 obtain ⟨a1,a2⟩:=xL S (w':=w.alloc (.map #[] 0)) (blk:= .map t []) (b:=w.heap.size) hn (fun aC blk' h ho=>Nat.lt_irrefl _ (S.h.lt h ho)) cO
  (fun b' _ aR=>heap_alloc_old w _ b' aR) (by simp) ⟨rfl,rfl⟩ (.inr S.size) (fun b' h=>(Option.some.inj (h.flat (by simp))).symm)
  (fun _=> .map hu rfl eV rfl cO (fun j e x he _=>by simp at he) (by simp))
 exact ⟨_,_,_,_,Go.RowKit.run_makeMap t w,a1,a2,.bC (cW _ _ _) (cW _ _ _)⟩
theorem NZ (S:aE P w I β hp B M w0) {t kt vt:TypeId} (ht:kE P t=some (kt,vt)) {m k v:Value} {mx kx vx:V} {r:R} {rd:List Nat} (hm:an P w I β hp m mx) (hk:an P w I β hp k kx) (hv:an P w I β hp v vx)
  (h:(B7 P t mx kx vx).run C hp=some (r,rd)):oH P ((Instr.mapUpdate t m k v).run P w) w I β hp B M w0 r:=by
 unfold B7 at h
 rw[ht] at h
 obtain ⟨hc,h'⟩:=aF h
 clear h
 have h:=h'
 clear h'
 simp only[Bool.and_eq_true] at hc
 obtain ⟨oQ,ye,s8⟩:=hc
 have hu:=HC ht
 have vm:=hk.NT oQ
 have u7:=an.Xs ye s8 hv
 have K:=Hz oQ
 obtain ⟨l,hl⟩:=CW oQ vm
 cases mx<;>simp only at h<;>first|(cases h;done)|skip
 rename_i t' id
 obtain ⟨jG,h'⟩:=aF h
 clear h
 have h:=h'
 clear h'
 rw[Nat.beq_eq] at jG
 subst jG
 obtain ⟨l2,h'⟩:=run_get h
 clear h
 have h:=h'
 clear h'
 cases ae:hp id with
 | none=>rw[ae] at h;cases h
 | some blk=>
  rw[ae] at h
  cases blk<;>simp only at h<;>first|(cases h;done)|skip
  rename_i t2 es
  obtain ⟨jG,h'⟩:=aF h
  clear h
  have h:=h'
  clear h'
  rw[Nat.beq_eq] at jG
  subst jG
  obtain rfl:=aJ h
  cases hm with
  | gS hd=>rw[ae] at hd;cases hd
  | @bC _ _ b aI hd hb=>
   rw[ae] at hd
   cases hd
   have hr:=S.h.rel id _ ae
   cases hr with
   | @map _ NX NY _ b' clock E fK az hh hs hI hx hn=>
    rw[hb] at az;cases az
    rw[hu] at fK;cases fK
    have aR:b<w.heap.size:=(Array.getElem?_eq_some_iff.1 hh).1
    have fin: ∀(E':Array MapEntry) (yf:Nat),(Instr.mapUpdate t (.map (some b)) k v).run P w= .ok () {w with heap:=w.heap.setIfInBounds b (.map E' yf)}→E'.size=(eS kx vx es).length→
      (∀(j:Nat) (e:MapEntry) (x:V),E'[j]? =some e→(eS kx vx es)[j]? =some x→Cl P kt vt e x)→E'.toList.Pairwise (fun a b=>a.key≠b.key)→
      oH P ((Instr.mapUpdate t (.map (some b)) k v).run P w) w I β hp B M w0 ⟨.undef,[(id,.map t (eS kx vx es))]⟩:=by
     intro E' yf cY ry cw HE
     have eV:({w with heap:=w.heap.setIfInBounds b (.map E' yf)}:World).heap[b]? =some (.map E' yf):=by simp[aR]
     obtain ⟨a1,a2⟩:=Cu S (w':={w with heap:=w.heap.setIfInBounds b (.map E' yf)}) (blk':= .map t (eS kx vx es)) ae (by simp) rfl hb hI (by simp)
      (fun b' az=>by simp[Array.getElem?_setIfInBounds,Ne.symm az]) (by simp only[bsize,eV,hh]) (by simp) ⟨rfl,rfl⟩ (fun _=> .map hu rfl eV ry hI cw HE)
     exact ⟨_,I,β,cY,a1,a2,rfl⟩
    rcases NQ hs hx hn oQ vm w with ⟨h1,h2,_,_,h5⟩|⟨j,e,k',y,h1,hE,N0,hes,Xw,Xx,_,_,_,_,h5⟩
    ·have e5:=h5 vx
     refine fin (E.push {key:=k,val:=v,born:=clock}) (clock+1) ?_ (by rw[e5];simp[hs]) (fun j e x he pK=> ?_) ?_
     ·unfold Instr.mapUpdate
      simp only[Sem.run_bind,run_underlying hu,Result.andThen_ok,Go.MapKept.run_getObj_map hh,K.check w false hl,h1,Go.MapKept.run_setObj_map _ hh]
     ·rw[e5] at pK
      rw[Array.getElem?_push] at he
      split at he
      ·rename_i hj
       rw[List.getElem?_append_right (by omega),hj,hs,Nat.sub_self] at pK
       simp at he pK
       subst he;subst pK
       exact ⟨kx,vx,rfl,oQ,vm,s8,u7⟩
      ·have hj:j<E.size:=(Array.getElem?_eq_some_iff.1 he).1
       rw[List.getElem?_append_left (by omega)] at pK
       exact hx j e x he pK
     ·rw[Array.toList_push,List.pairwise_append]
      refine ⟨hn,by simp,fun a ha b' az=> ?_⟩
      simp only[List.mem_singleton] at az
      subst az
      exact h2 a ha
    ·have e5:=h5 vx
     have hj:j<E.size:=(Array.getElem?_eq_some_iff.1 hE).1
     refine fin (E.modify j fun e=>{e with key:=k,val:=v}) clock ?_ (by rw[e5];simp[hs]) (fun i e' x he gh=> ?_) ?_
     ·have bN:=K.stays w hl
      unfold Instr.mapUpdate
      simp only[Sem.run_bind,run_underlying hu,Result.andThen_ok,Go.MapKept.run_getObj_map hh,K.check w false hl,h1]
      simp only[hE,Option.map_some,Option.getD_some,N0,bN,Result.andThen_ok,Go.MapKept.run_setObj_map _ hh]
     ·rw[e5] at gh
      rw[Array.getElem?_modify] at he
      rw[List.getElem?_set] at gh
      split at he
      ·rename_i s9
       subst s9
       rw[if_pos rfl,if_pos (by omega)] at gh
       rw[hE] at he
       simp at he gh
       subst he;subst gh
       exact ⟨k',vx,rfl,Xw,Xx,s8,u7⟩
      ·rename_i s9
       rw[if_neg s9] at gh
       exact hx i e' x he gh
     ·have N3: ∀i (h1:i<(E.modify j fun e=>{e with key:=k,val:=v}).toList.length) (h2:i<E.toList.length),((E.modify j fun e=>{e with key:=k,val:=v}).toList[i]).key=(E.toList[i]).key:=by
       intro i h1 h2
       simp only[Array.getElem_toList,Array.getElem_modify]
       split
       ·rename_i s9
        subst s9
        have:=(Array.getElem?_eq_some_iff.1 hE).2
        rw[this,N0]
       ·rfl
      rw[List.pairwise_iff_getElem] at hn⊢
      intro i i' h1 h2 iv
      have g1:i<E.toList.length:=by simpa using h1
      have g2:i'<E.toList.length:=by simpa using h2
      rw[N3 i h1 g1,N3 i' h2 g2]
      exact hn i i' g1 g2 iv
theorem Xy (S:aE P w I β hp B M w0) {t ty kt vt:TypeId} {v:Value} {x:V} {r:R} {rd:List Nat} (hu:P.underlying t=some (.map kt vt)) (hv:an P w I β hp v x)
  (h:(B8 x).run C hp=some (r,rd)):db P ((Builtin.len_ #[t] ty #[v]).run P w) w I β hp B M w0 r:=by
 unfold B8 at h
 cases x<;>simp only at h<;>first|(cases h;done)|skip
 ·rename_i t' id
  obtain ⟨l2,h'⟩:=run_get h
  clear h
  have h:=h'
  clear h'
  cases ae:hp id with
  | none=>rw[ae] at h;cases h
  | some blk=>
   rw[ae] at h
   cases blk<;>simp only at h<;>first|(cases h;done)|skip
   rename_i t2 es
   obtain rfl:=aJ h
   cases hv with
   | gS hd=>rw[ae] at hd;cases hd
   | @bC _ _ b aI hd hb=>
    rw[ae] at hd
    cases hd
    have hr:=S.h.rel id _ ae
    cases hr with
    | @map _ NX NY _ b' clock E fK az hh hs hI hx hn=>
     rw[hb] at az;cases az
     refine .same S (v:= .int .i64 E.size) (by simp[Builtin.len_,run_underlying hu,Go.MapKept.run_getObj_map hh,goInt]) ?_
     rw[hs]
     exact .int
 ·obtain rfl:=aJ h
  cases hv
  exact .same S (v:= .int .i64 0) (by simp[Builtin.len_,run_underlying hu,goInt]) .int
theorem an.HF {v:Value} {t:TypeId} (h:an P w I β hp v (.dy t)):v= .map none:=by cases h;rfl
theorem an.Xz {v:Value} {t t':TypeId} {id:Nat} {es:List V} (h:an P w I β hp v (.bC t id)) (ae:hp id=some (.map t' es)): ∃b,v= .map (some b):=by
 cases h with
 | gS h=>rw[ae] at h;cases h
 | bC h hb=>exact ⟨_,rfl⟩
theorem N4 (S:aE P w I β hp B M w0) {op:BinOp} {t:TypeId} {a:Option Nat} {r:R} {rd:List Nat} (x y:Operand)
  (h:(B0 P op t a.isNone).run C hp=some (r,rd)):db P ((do eqGuard op t x y (.map a) (.map none);binOp op t (.map a) (.map none)).run P w) w I β hp B M w0 r:=by
 unfold B0 at h
 split at h
 case h_2=>cases h
 rename_i kt vt hu
 have he:(Op.equal t (.map a) (.map none)).run P w= .ok a.isNone w:=by
  show (Op.equalIn (9999+1) t (.map a) (.map none)).run P w=_
  rw[Op.equalIn]
  cases a<;>simp[Sem.run_bind,run_underlying hu,Result.andThen_ok,Sem.run_pure]
 cases op<;>simp only at h<;>first|(cases h;done)|skip
 ·obtain rfl:=aJ h
  exact .same S (by simp[eqGuard,binOp,he]) .bool
 ·obtain rfl:=aJ h
  exact .same S (by simp[eqGuard,binOp,he]) .bool
end
end Go.AM
namespace Go.AM
section
variable {P:Program} {w w':World} {I I':Nat→Prop} {β au:Nat→Option Nat} {hp hp':Nat→Option aj} {C:af} {B:Nat} {M:Nat→Prop} {w0:Start}
theorem XA {e:TypeId} (he:P.underlying e=some (.int .u8)) (hc:P.cellsOf e=1) (s:ByteArray): ∀(i j:Nat) (x:V) (t':TypeId),(s.data.toList.map xr)[i]? =some x→(aU P e)[j]? =some t'→j<P.cellsOf e→
  ∃u,(Lib.strCells s)[i*P.cellsOf e+j]? =some u∧Pure P w I t' u (bJ P e x j):=by
 intro i j x t' hx ht hj
 have mD:bH P e=false:=by simp[bH,he]
 obtain rfl:j=0:=by omega
 simp only[aU,mD,cond_false,List.getElem?_cons_zero,Option.some.injEq] at ht
 subst ht
 rw[List.getElem?_map] at hx
 cases hb:s.data.toList[i]? with
 | none=>rw[hb] at hx;cases hx
 | some b=>
  rw[hb] at hx
  cases hx
  refine ⟨.int .u8 b.toNat,?_,?_⟩
  ·rw[hc,Nat.mul_one,Nat.add_zero]
   simp only[Lib.strCells,List.getElem?_map,hb,Option.map_some]
  ·simp only[bJ,mD,cond_false]
   exact .int he
theorem XB (w:World) (t u ty e:TypeId) (i:TypeInfo) (z:Value) (ht:P.underlying t=some (.slice e)) (hu:P.underlying u=some .string) (hi:P.info? e=some i) (hz:i.zero=some z)
  (s:ByteArray) (h0:0<s.size) (CR:(s.size:Int)≤9223372036854775807) (CS:s.size*i.bytes≤281474976710656) (a0:Option Addr):
  (Builtin.append_ #[t,u] ty #[.slice a0 0 0,.string s]).run P w=
   .ok (.slice (some ⟨w.heap.size,0,none⟩) s.size (grownCap w s.size 0 e))
    (w.drew.alloc (.cells (s.data.map (fun b=>Value.int .u8 b.toNat)++Builtin.zeroCells z.cells (grownCap w s.size 0 e-s.size)) e)):=by
 cases a0 with
 | none=>exact run_append_nil_string w t u ty e i z ht hu hi hz s h0 CR CS
 | some b=>
  rw[←run_append_nil_string w t u ty e i z ht hu hi hz s h0 CR CS]
  have hn:s.size≠0:=by omega
  have XC: ¬(9223372036854775807<(s.size:Int)):=by omega
  have XD: ¬(281474976710656<Builtin.nextslicecap s.size 0*i.bytes):=by rw[nextslicecap_zero h0];omega
  simp[Builtin.append_,run_underlying ht,run_underlying hu,sizeOf,typeInfo,zeroValue,hi,hz,Builtin.lenOf,Builtin.firstCells,hn,XC,XD,Question.forced,newRow,grownCap,loadCells,loadCellsFrom]
theorem N5 (S:aE P w I β hp B M w0) {t u ty e:TypeId} {nb:Nat} {x:ByteArray} {xs:List V} {i:TypeInfo} {z:Value} (hu:P.underlying t=some (.slice e)) (nK:P.underlying u=some .string) (ax:cQ P e=true) (hn:hp nb=none)
 (hi:P.info? e=some i) (hz:i.zero=some z) (h3:i.size=P.cellsOf e) (h4:z.cells.size=P.cellsOf e) (vn:i.size=1) (lG:P.bytesOf e=i.bytes) (eE:xs.length*P.bytesOf e≤bB) (jJ:xs.length=x.size) (lE:(Lib.strCells x).length=x.size)
 (cS: ∀(i j:Nat) (y:V) (t':TypeId),xs[i]? =some y→(aU P e)[j]? =some t'→j<P.cellsOf e→∃u,(Lib.strCells x)[i*P.cellsOf e+j]? =some u∧Pure P w I t' u (bJ P e y j)):
 ∀a0,∃v w' au,(Builtin.append_ #[t,u] ty #[.slice a0 0 0,.string x]).run P w= .ok v w'∧Le P w I β hp w' I au (aH hp nb (some (.arr e xs false)))∧aE P w' I au (aH hp nb (some (.arr e xs false))) B M w0∧
  an P w' I au (aH hp nb (some (.arr e xs false))) v (.whole e nb):=by
 intro a0
 have sZ:=uX ax
 have hlen:xs.length≤2^45:=by
  have:xs.length*1≤xs.length*P.bytesOf e:=Nat.mul_le_mul_left _ sZ
  simp only[bB] at eE
  omega
 by_cases h0:x.size=0
 ·have gk:xs=[]:=List.eq_nil_of_length_eq_zero (by omega)
  subst gk
  obtain ⟨a1,a2⟩:=Cs S e hn
  have hf:=Lib.run_firstCells_string (P:=P) w 1 x
  rw[h0] at hf
  have pO:Lib.strCells x=[]:=List.eq_nil_of_length_eq_zero (by omega)
  exact ⟨.slice a0 0 0,_,_,by cases a0<;>simp[storeCells,pO,Builtin.append_,run_underlying hu,run_underlying nK,sizeOf,typeInfo,hi,vn,Builtin.lenOf,h0,hf],a1,a2,.dL (cW _ _ _) (cW _ _ _)⟩
 ·have cY:=XB (P:=P) w t u ty e i z hu nK hi hz x (by omega) (by omega) (by rw[←lG,←jJ];simp only[bB] at eE;omega) a0
  have e1:(x.data.map fun b=>Value.int .u8 b.toNat)=(Lib.strCells x).toArray:=by
   apply Array.ext'
   simp[Lib.strCells]
  rw[e1,←jJ] at cY
  have oL:=grownCap_ge w xs.length 0 e
  have s6:grownCap w xs.length 0 e≤maxLen:=grownCap_le_maxLen w xs.length 0 e (by simp only[maxLen];omega)
  obtain ⟨n1,n2,n3⟩:=vj S.drew (nb:=nb) (cap:=grownCap w xs.length 0 e) (es:=xs) (C0:=(Lib.strCells x).toArray++Builtin.zeroCells z.cells (grownCap w xs.length 0 e-xs.length)) ax hn
   (by
    have:(Lib.strCells x).length=xs.length*P.cellsOf e:=by rw[lE,jJ,←h3,vn,Nat.mul_one]
    simp only[Array.size_append,List.size_toArray,size_zeroCells,h4,this,←Nat.add_mul];congr 1;omega) oL s6
   (fun i' j y t' hy ht hj=>by
    obtain ⟨u,fK,hp⟩:=cS i' j y t' hy ht hj
    have aR:=(List.getElem?_eq_some_iff.1 fK).1
    refine ⟨u,?_,Pure.drew hp⟩
    rw[Array.getElem?_append_left (by simpa using aR)]
    simpa using fK)
  exact ⟨_,_,_,cY,(Le.drew w I β hp).trans n1,n2,n3⟩
theorem XE (S:aE P w I β hp B M w0) {t u ty e:TypeId} {nb:Nat} {s:Value} {sv:V} {x:ByteArray} {r:R} {rd:List Nat} (hu:P.underlying t=some (.slice e)) (nK:P.underlying u=some .string) (he:P.underlying e=some (.int .u8)) (hs:an P w I β hp s sv)
  (h:(uK P nb e sv (.list e (x.data.toList.map xr))).run C hp=some (r,rd)):db P ((Builtin.append_ #[t,u] ty #[s,.string x]).run P w) w I β hp B M w0 r:=by
 unfold uK at h
 obtain ⟨ax,h⟩:=aF h
 simp only[qY] at h
 obtain ⟨_,h⟩:=aF h
 have mD:bH P e=false:=by simp[bH,he]
 have dN:P.cellsOf e=1:=by rw[←(jF ax).1,xG mD];rfl
 obtain ⟨i,z,hi,hz,h3,h4,_⟩:=jH ax
 have vn:i.size=1:=by rw[h3,dN]
 have sZ:=uX ax
 have lG:P.bytesOf e=i.bytes:=by simp[Program.bytesOf,hi]
 have CZ:=XA (P:=P) (w:=w) (I:=I) he dN x
 have jJ:(x.data.toList.map xr).length=x.size:=by simp
 have lE:(Lib.strCells x).length=x.size:=Lib.strCells_length x
 have h1:=Lib.strCells_oneCell x
 generalize gk:x.data.toList.map xr=xs at*
 cases sv with
 | nilS e'=>
  obtain ⟨hc,h⟩:=aF h
  simp only[Bool.and_eq_true,Nat.beq_eq,Nat.ble_eq] at hc
  obtain ⟨hn,rfl⟩:=mB h
  obtain ⟨a0,rfl⟩: ∃a0,s= .slice a0 0 0:=by cases hs;exact ⟨_,rfl⟩
  obtain ⟨v,w',au,a1,a2,a3,a4⟩:=N5 S hu nK ax hn hi hz h3 h4 vn lG hc.2 jJ lE CZ _
  exact ⟨v,w',I,au,a1,a2,a3,a4⟩
 | whole e' id=>
  obtain ⟨l,h⟩:=run_get h
  cases ae:hp id with
  | none=>rw[ae] at h;cases h
  | some blk=>
   rw[ae] at h
   cases blk with
   | dead=>cases h
   | var _=>cases h
   | nest _ _ _=>cases h
   | map _ _=>cases h
   | arr dJ es fz=>
    cases fz with
    | true=>cases h
    | false=>
     obtain ⟨hc,h⟩:=aF h
     obtain ⟨hn,rfl⟩:=mB h
     simp only[Bool.and_eq_true,Nat.beq_eq,Nat.ble_eq] at hc
     obtain ⟨Ho,Hp,eE⟩:=hc
     subst Ho
     subst Hp
     have bM:nb≠id:=fun e=>by rw[e,ae] at hn;cases hn
     obtain ⟨k1,k2⟩:=Ct S ae
     have iO:aH hp id (some aj.dead) nb=none:=by rw[eg _ _ bM];exact hn
     cases hs with
     | ed hd=>rw[ae] at hd;cases hd
     | eu hd=>rw[ae] at hd;cases hd
     | dL hd hb=>
      rw[ae] at hd
      cases hd
      simp only[List.length_nil,Nat.zero_add] at eE
      obtain ⟨v,w',au,a1,a2,a3,a4⟩:=N5 k2 hu nK ax iO hi hz h3 h4 vn lG eE jJ lE CZ _
      exact ⟨v,w',I,au,a1,k1.trans a2,a3,a4⟩
     | @whole _ _ aI mj b cap hd hb aZ b6 hm=>
      rw[ae] at hd
      cases hd
      have hr:=S.h.rel id _ ae
      cases hr with
      | dM az=>rw[az] at hb;cases hb
      | @arr _ _ _ b' Ca _ az hh oN hf ee lH=>
       rw[hb] at az
       cases az
       have hlen:es.length+xs.length≤2^45:=by
        have:(es.length+xs.length)*1≤(es.length+xs.length)*P.bytesOf e:=Nat.mul_le_mul_left _ sZ
        simp only[bB] at eE
        omega
       rw[mo hh] at aZ
       have pI: ∀aC blk',aH hp id (some aj.dead) aC=some blk'→¬bA P w (β aC) blk' b:=by
        intro aC blk' h1 h2
        by_cases iv:aC=id
        ·subst iv;rw[cW] at h1;cases h1;exact h2.alive rfl
        ·rw[eg _ _ iv] at h1
         exact iv (S.h.inj aC id blk' _ b h1 ae h2 (.root (by simp) hb))
       have Hq:=S.h.ri id _ b ae (by simp) hb
       have kL:es.length*P.cellsOf e≤Ca.toList.length:=by simpa using oN
       have N6:(Lib.strCells x).length=xs.length*P.cellsOf e:=by rw[lE,jJ,dN,Nat.mul_one]
       by_cases rv:es.length+xs.length≤cap
       ·have ya:es.length*P.cellsOf e+(Lib.strCells x).length≤Ca.size:=by rw[N6,←Nat.add_mul,←aZ];exact Nat.mul_le_mul_right _ rv
        have cY:=Lib.run_append_room_string (P:=P) w t u ty e i hu nK hi vn b es.length cap Ca hh x (by rw[←jJ];exact rv) (by rw[←lE];rw[dN,Nat.mul_one] at ya;exact ya)
        have cS:=CP (P:=P) (w:=w) (I:=I) (n:=es.length) (c:=Ca.toList) rfl (fun i j y t' a b c=>by
         obtain ⟨v,hv,hp⟩:=lH i j y t' a b c
         exact ⟨v,by simpa using hv,hp⟩) CZ kL (Ca.toList.drop (es.length*P.cellsOf e+(Lib.strCells x).length))
        generalize vf:(Ca.toList.take es.length++Lib.strCells x++Ca.toList.drop (es.length+x.size)).toArray=C' at cY
        have nH:C'.size=Ca.size:=by
         rw[dN,Nat.mul_one] at ya
         rw[←vf];simp;omega
        have N7:(w.setRow b C').heap[b]? =some (.cells C' e (0,0)):=setRow_heap w b Ca C' e _ hh
        obtain ⟨a1,a2⟩:=xL k2 (blk:= .arr e (es++xs) false) (w':=w.setRow b C') iO pI (ee rfl) (fun b' h _=>setRow_other w b b' _ h) (by simp) ⟨rfl,rfl⟩ Hq
         (fun b' h=>(Option.some.inj (h.flat (by simp))).symm) (fun hle=> .arr ax rfl N7 (by rw[nH,←aZ];exact Nat.mul_le_mul_right _ (by simpa using rv)) (fun h=>by cases h) (fun _=>ee rfl) fun i j y t' a b c=>by
          obtain ⟨v,hv,hp⟩:=cS i j y t' a b c
          refine ⟨v,?_,hp.mono hle.dr hle.b8⟩
          rw[←vf,List.getElem?_toArray]
          rw[dN] at hv⊢
          simpa[lE] using hv)
        refine ⟨_,_,_,_,cY,k1.trans a1,a2,?_⟩
        have a3:=an.whole (P:=P) (w:=w.setRow b C') (I:=I) (β:=aH β nb (some b)) (hp:=aH (aH hp id (some .dead)) nb (some (.arr e (es++xs) false))) (cap:=cap) (b:=b) (es:=es++xs) (fz:=false) (id:=nb) (e:=e) (cW _ _ _) (cW _ _ _) (by rw[mo N7,nH,aZ]) (by simpa using rv) hm
        rw[List.length_append,jJ] at a3
        exact a3
       ·have hold: ∀(j:Nat) v,(Ca.toList.take (es.length*P.cellsOf e))[j]? =some v→w.cell? ((⟨b,0,none⟩:Addr).add j)=some v:=by
         intro j v hj
         have cX:=(List.getElem?_eq_some_iff.1 hj).1
         have bU:j<es.length*P.cellsOf e:=by rw[List.length_take] at cX;omega
         rw[List.getElem?_take_of_lt bU] at hj
         rw[my,cell?_cells hh,Nat.zero_add]
         simpa using hj
        have cY:=Lib.run_append_grow_string (P:=P) w t u ty e i z hu nK hi hz ⟨b,0,none⟩ es.length cap (Ca.toList.take (es.length*P.cellsOf e)) (by rw[h3];simp;omega) hold x (by omega) (by omega)
         (growslice_fits (by omega) (by rw[←lG,←jJ];simp only[bB] at eE;omega))
        rw[←jJ] at cY
        have oL:=grownCap_ge w (es.length+xs.length) cap e
        have s6:grownCap w (es.length+xs.length) cap e≤maxLen:=grownCap_le_maxLen w _ cap e (by simp only[maxLen];omega)
        have cS:=CP (P:=P) (w:=w) (I:=I) (n:=es.length) (c:=Ca.toList) rfl (fun i j y t' a b c=>by
         obtain ⟨v,hv,hp⟩:=lH i j y t' a b c
         exact ⟨v,by simpa using hv,hp⟩) CZ kL (Builtin.zeroCells z.cells (grownCap w (es.length+xs.length) cap e-(es.length+xs.length))).toList
        obtain ⟨n1,n2,n3⟩:=vj k2.drew (nb:=nb) (cap:=grownCap w (es.length+xs.length) cap e) (es:=es++xs)
         (C0:=(Ca.toList.take (es.length*P.cellsOf e)).toArray++(Lib.strCells x).toArray++Builtin.zeroCells z.cells (grownCap w (es.length+xs.length) cap e-(es.length+xs.length))) ax iO
         (by
          have e1:(Ca.toList.take (es.length*P.cellsOf e)).length=es.length*P.cellsOf e:=by simp;omega
          simp only[Array.size_append,List.size_toArray,size_zeroCells,h4,N6,e1,←Nat.add_mul];congr 1;omega) (by simpa using oL) s6
         (fun i j y t' a b c=>by
          obtain ⟨v,hv,hp⟩:=cS i j y t' a b c
          refine ⟨v,?_,Pure.drew hp⟩
          rw[←Array.getElem?_toList]
          simpa using hv)
        rw[List.length_append] at n3
        exact ⟨_,_,_,_,cY,(k1.trans (Le.drew w I β _)).trans n1,n2,n3⟩
 | _=>cases h
end
end Go.AM
namespace Go.AM
section
variable {P:Program} {w w':World} {I I':Nat→Prop} {β au:Nat→Option Nat} {hp hp':Nat→Option aj} {C:af} {B:Nat} {M:Nat→Prop} {w0:Start}
theorem N8: ∀(ns:List Int) (s:ByteArray),(ns.foldl (fun r n=>r.push (UInt8.ofNat n.toNat)) s).data.toList=s.data.toList++ns.map fun n=>UInt8.ofNat n.toNat
 | [],s=>by simp
 | n::ns,s=>by
  simp only[List.foldl_cons,N8 ns,List.map_cons]
  simp[ByteArray.push]
theorem N9 {e:TypeId} {u:Value} {x:V} (he:P.underlying e=some (.int .u8)) (hp:Pure P w I e u x):u= .int .u8 x.toInt:=by
 cases hp with
 | int hp'=>rw[he] at hp';cases hp';rfl
 | bool hp'=>rw[he] at hp';cases hp'
 | str hp'=>rw[he] at hp';cases hp'
 | nil hp'=>rw[he] at hp';cases hp'
 | emp hp'=>rw[he] at hp';cases hp'
 | list _ hp'=>rw[he] at hp';cases hp'
theorem XF (S:aE P w I β hp B M w0) {src dst e:TypeId} {v:Value} {x:V} {r:R} {rd:List Nat} (hs:P.underlying src=some (.slice e)) (he:P.underlying e=some (.int .u8)) (hd:P.underlying dst=some .string)
  (hv:an P w I β hp v x) (h:(Rd.aB (cQ P e) (qY e x fun es=> .ret ⟨.str (iI es),[]⟩)).run C hp=some (r,rd)):db P ((convert src dst v).run P w) w I β hp B M w0 r:=by
 obtain ⟨ax,h⟩:=aF h
 obtain ⟨xs,hx,l,h⟩:=CO S.h.rel ax hv h
 obtain rfl:=aJ h
 have mD:bH P e=false:=by simp[bH,he]
 have h1:P.cellsOf e=1:=by rw[←(jF ax).1,xG mD];rfl
 rcases hx with ⟨⟨a,rfl⟩,rfl⟩|⟨a,c,news,hr⟩
 ·refine .same S (v:= .string .empty) ?_ (.str (by simp[iI]))
  rw[run_convert_bytes_string w src dst e a 0 0 hs he hd]
  cases a<;>simp[Conv.bytesToString,loadCells,loadCellsFrom]
 ·have CQ:news=(xs.map V.toInt).map (Value.int .u8):=by
   apply List.ext_getElem?
   intro j
   by_cases hj:j<xs.length
   ·obtain ⟨u,hu,hp⟩:=hr.el j 0 xs[j] e (List.getElem?_eq_getElem hj) (by simp[aU,mD]) (by omega)
    rw[h1] at hu
    simp only[bJ,mD,cond_false] at hp
    have fK:news[j]? =some u:=by simpa using hu
    rw[fK]
    have:=N9 he hp
    simp[hj,←this]
   ·have hl:news.length=xs.length:=by rw[hr.len,h1];simp
    rw[List.getElem?_eq_none (by omega),List.getElem?_eq_none (by simp;omega)]
  have HG:=run_loadCells_list (P:=P) w a news hr.cell
  have hl:news.length=xs.length:=by rw[hr.len,h1];simp
  rw[hl] at HG
  rw[CQ] at HG
  refine .same S (v:= .string ((xs.map V.toInt).foldl (fun r n=>r.push (UInt8.ofNat n.toNat)) ByteArray.empty)) ?_ (.str ?_)
  ·rw[hr.val,run_convert_bytes_string w src dst e _ _ _ hs he hd]
   exact run_bytesToString w a xs.length c (xs.map V.toInt) HG
  ·rw[N8]
   simp[iI]
theorem an.C2 {v:Value} (h:an P w I β hp v .dx):v= .pointer none:=by cases h;rfl
section
variable (w:World)
theorem XG (t e:TypeId) (a:Addr) (h:P.underlying t=some (.pointer e)):(binOp .eql t (.pointer (some a)) (.pointer none)).run P w= .ok (.bool false) w:=by
 have h0: ∀d:Nat,(Op.equalIn (d+1) t (.pointer (some a)) (.pointer none)).run P w= .ok false w:=fun d=>by simp[Op.equalIn,run_underlying h]
 simp only[binOp]
 simp[Op.equal,Op.maxDepth,h0 9999]
theorem XH (t e:TypeId) (a:Addr) (h:P.underlying t=some (.pointer e)):(binOp .neq t (.pointer (some a)) (.pointer none)).run P w= .ok (.bool (!false)) w:=by
 have h0: ∀d:Nat,(Op.equalIn (d+1) t (.pointer (some a)) (.pointer none)).run P w= .ok false w:=fun d=>by simp[Op.equalIn,run_underlying h]
 simp only[binOp]
 simp[Op.equal,Op.maxDepth,h0 9999]
theorem XI (t e:TypeId) (a:Addr) (h:P.underlying t=some (.pointer e)):(binOp .eql t (.pointer none) (.pointer (some a))).run P w= .ok (.bool false) w:=by
 have h0: ∀d:Nat,(Op.equalIn (d+1) t (.pointer none) (.pointer (some a))).run P w= .ok false w:=fun d=>by simp[Op.equalIn,run_underlying h]
 simp only[binOp]
 simp[Op.equal,Op.maxDepth,h0 9999]
theorem XJ (t e:TypeId) (a:Addr) (h:P.underlying t=some (.pointer e)):(binOp .neq t (.pointer none) (.pointer (some a))).run P w= .ok (.bool (!false)) w:=by
 have h0: ∀d:Nat,(Op.equalIn (d+1) t (.pointer none) (.pointer (some a))).run P w= .ok false w:=fun d=>by simp[Op.equalIn,run_underlying h]
 simp only[binOp]
 simp[Op.equal,Op.maxDepth,h0 9999]
theorem XK (t e:TypeId) (h:P.underlying t=some (.pointer e)):(binOp .eql t (.pointer none) (.pointer none)).run P w= .ok (.bool true) w:=by
 have h0: ∀d:Nat,(Op.equalIn (d+1) t (.pointer none) (.pointer none)).run P w= .ok true w:=fun d=>by simp[Op.equalIn,run_underlying h]
 simp only[binOp]
 simp[Op.equal,Op.maxDepth,h0 9999]
theorem XL (t e:TypeId) (h:P.underlying t=some (.pointer e)):(binOp .neq t (.pointer none) (.pointer none)).run P w= .ok (.bool (!true)) w:=by
 have h0: ∀d:Nat,(Op.equalIn (d+1) t (.pointer none) (.pointer none)).run P w= .ok true w:=fun d=>by simp[Op.equalIn,run_underlying h]
 simp only[binOp]
 simp[Op.equal,Op.maxDepth,h0 9999]
end
theorem C3 (S:aE P w I β hp B M w0) {op:BinOp} {t:TypeId} {b:Bool} {x y:Operand} {v1 v2:Value} {r:R} {rd:List Nat} (h:(ptrEq P op t b).run C hp=some (r,rd)) (hg:(eqGuard op t x y v1 v2).run P w= .ok () w)
  (he: ∀e j,P.underlying t=some (.pointer e)→P.info? e=some j→(binOp .eql t v1 v2).run P w= .ok (.bool b) w∧(binOp .neq t v1 v2).run P w= .ok (.bool (!b)) w):
  db P ((do eqGuard op t x y v1 v2;binOp op t v1 v2:Sem Value).run P w) w I β hp B M w0 r:=by
 unfold ptrEq at h
 cases hu:P.underlying t with
 | none=>rw[hu] at h;cases h
 | some d=>
  rw[hu] at h
  cases d<;>simp only at h<;>first|(cases h;done)|skip
  rename_i e
  obtain ⟨h1,h2⟩:=aF h
  obtain ⟨j,hj⟩:=Option.isSome_iff_exists.1 h1
  obtain ⟨k1,k2⟩:=he e j hu hj
  cases op<;>simp only at h2<;>first|(cases h2;done)|skip
  ·obtain rfl:=aJ h2
   exact .same S (by simp only[Sem.run_bind,hg,Result.andThen_ok,k1]) .bool
  ·obtain rfl:=aJ h2
   exact .same S (by simp only[Sem.run_bind,hg,Result.andThen_ok,k2]) .bool
theorem XM {b n:Nat}:(∀b',b'≠b→(w.freeze ⟨b,0,none⟩ n).heap[b']? =w.heap[b']?)∧bsize (w.freeze ⟨b,0,none⟩ n) b=bsize w b∧w.heap.size≤(w.freeze ⟨b,0,none⟩ n).heap.size∧(w.freeze ⟨b,0,none⟩ n).os=w.os∧(w.freeze ⟨b,0,none⟩ n).output=w.output:=by
 unfold World.freeze
 split
 ·exact ⟨fun _ _=>rfl,rfl,Nat.le_refl _,rfl,rfl⟩
 ·refine ⟨fun b' hb=> ?_,?_,by simp,rfl,rfl⟩
  ·simp only[Array.getElem?_modify]
   rw[if_neg (fun e=>hb e.symm)]
  ·simp only[bsize,Array.getElem?_modify,if_true]
   cases w.heap[b]? with
   | none=>rfl
   | some o=>cases o<;>rfl
theorem XN {e:TypeId} (hb:isByte P e=true):P.underlying e=some (.int .u8):=by
 unfold isByte at hb
 split at hb
 ·assumption
 ·cases hb
theorem XO (S:aE P w I β hp B M w0) {ts:Array TypeId} {ty e:TypeId} {v:Value} {id:Nat} {es:List V} {fz:Bool} (hv:an P w I β hp v (.whole e id)) (ae:hp id=some (.arr e es fz)) (h0:0<es.length):
  db P ((Builtin.unsafeSliceData_ ts ty #[v]).run P w) w I β hp B M w0 ⟨.ptr id 0 0,[]⟩:=by
 cases hv with
 | ed h=>rw[ae] at h;cases h
 | dL h _=>rw[ae] at h;cases h;simp at h0
 | eu h _ _ _ _=>rw[ae] at h;cases h
 | @whole _ _ aI mj b cap h hb b6 hle hm=>
  rw[ae] at h;cases h
  refine .same S (Lib.run_unsafeSliceData_row w ts ty ⟨b,0,none⟩ es.length cap (by omega)) ?_
  have:=an.ptr (P:=P) (w:=w) (I:=I) (β:=β) (i:=0) (c:=0) ae (by simp) hb
  simpa using this
theorem XP (S:aE P w I β hp B M w0) {t u ty e:TypeId} {vx:Value} {id:Nat} {n:Int} {es:List V} (hu:P.underlying t=some (.pointer e)) (hb:isByte P e=true) (hv:an P w I β hp vx (.ptr id 0 0))
  (ae:hp id=some (.arr e es false)) (h0:0<n) (hn:n≤es.length) (hm:n.toNat≤sr) (dO:(es.take n.toNat).all GB=true):db P ((Builtin.unsafeString_ #[t,u] ty #[vx,.int .i64 n]).run P w) w I β hp B M w0 ⟨.str (iI (es.take n.toNat)),[(id,.dead)]⟩:=by
 obtain ⟨b,HH,rfl⟩:=hv.gB ae (by simp)
 have he:P.underlying e=some (.int .u8):=by
  unfold isByte at hb
  split at hb
  ·assumption
  ·cases hb
 have mD:bH P e=false:=by simp[bH,he]
 have hr:=S.h.rel id _ ae
 rw[HH] at hr
 cases hr with
 | dM az=>cases az
 | @arr _ _ _ b1 Ca ax kL hh hs hI cO cS=>
  cases kL
  have h1:P.cellsOf e=1:=by rw[←(jF ax).1,xG mD];rfl
  have aR:=S.VW ae (by simp) HH
  have hl:(iI (es.take n.toNat)).length=n.toNat:=by simp[iI];omega
  have HE:n=((iI (es.take n.toNat)).length:Nat):=by rw[hl];omega
  have cY:=Lib.run_unsafeString_row (P:=P) w t u ty e hu h1 b Ca.size (by simp[World.shape?,hh]) (iI (es.take n.toNat)) (fun h=>by rw[h] at hl;simp at hl;omega) (by rw[hl];rw[h1] at hs;omega) (by rw[hl];unfold sr at hm;omega) (fun j x hx=>by
   have hj:j<n.toNat:=by
    have:=(List.getElem?_eq_some_iff.1 hx).1
    rw[hl] at this;exact this
   have gU:j<es.length:=by omega
   simp only[iI,List.getElem?_map,List.getElem?_take_of_lt hj,List.getElem?_eq_getElem gU,Option.map_some,Option.some.injEq] at hx
   obtain ⟨v,vk,bx⟩:=cS j 0 es[j] e (List.getElem?_eq_getElem gU) (by simp[aU,mD]) (by omega)
   rw[h1] at vk
   simp only[bJ,mD,cond_false] at bx
   have:=N9 he bx
   have hr:=List.all_eq_true.1 dO es[j] (List.mem_of_getElem? (by rw[List.getElem?_take_of_lt hj];exact List.getElem?_eq_getElem gU))
   simp only[GB,Bool.and_eq_true,decide_eq_true_eq] at hr
   have mA:(x.toNat:Int)=es[j].toInt:=by
    rw[←hx]
    have:es[j].toInt.toNat<256:=by omega
    simp only[UInt8.toNat_ofNat']
    omega
   rw[my,cell?_cells hh,mA]
   rw[show 0+j=j*1+0 by omega,vk,this])
  obtain ⟨f1,f2,f3,f4,f5⟩:=XM (w:=w) (b:=b) (n:=n.toNat)
  obtain ⟨k1,k2⟩:=Cu (w':=w.freeze ⟨b,0,none⟩ n.toNat) S ae (by simp) (blk':= .dead) (by trivial) HH (cO rfl) (by simp) f1 f2 f3 ⟨f4,f5⟩ (fun _=> .dead)
  rw[←HE,hl] at cY
  refine ⟨.string ⟨(iI (es.take n.toNat)).toArray⟩,_,I,β,?_,k1,k2,.str ?_⟩
  ·simpa using cY
  ·rfl
def HI:Op→Bool
 | .call {callee:= .value (.func _),..}=>true
 | .call {callee:= .value (.tmp _),..}=>true
 | .defer _=>true
 | _=>false
theorem oF.val {o:Oper} {a:Act} {s:Sem Value} {r:R} (he:execOp a.eval o=(do Pure.pure (Next.value (←s)))) (h:db P (s.run P w) w I β hp B M w0 r):oF P ((execOp a.eval o).run P w) w I β hp B M w0 r:=by
 rw[he];exact h.op
theorem XQ {A:cB} (S:aE P w I β hp B M w0) (hg:gy P A.aD w I) {a:Act} {sl:Nat→V} (hs:j5 P w I β hp a sl) {ix nb:Nat} {o:Oper} (HJ:HI o.op=false) {r:R} {rd:List Nat}
  (h:(fq P A sl ix nb o).run C hp=some (r,rd)):oF P ((execOp a.eval o).run P w) w I β hp B M w0 r:=by
 obtain ⟨dst,op,ty,pos,after,guard⟩:=o
 cases op<;>simp only[fq] at h<;>first|(cases h;done)|skip
 case move x=>
  obtain rfl:=aJ h
  exact ⟨_,w,I,β,.inl (by simp[execOp]),Le.refl w I β hp,S,hs.ev hg ty x⟩
 case assign x=>
  obtain rfl:=aJ h
  exact ⟨_,w,I,β,.inl (by simp[execOp]),Le.refl w I β hp,S,hs.ev hg ty x⟩
 case pick c x y=>
  have hc:=hs.ev hg ty c
  cases sW:aK P A.aD ty sl c<;>rw[sW] at h hc<;>simp only at h<;>first|(cases h;done)|skip
  rename_i t
  have XR:=hc.je
  have hx:=hs.ev hg ty x
  have hy:=hs.ev hg ty y
  have fin: ∀z:V,an P w I β hp (if t then a.eval x else a.eval y) z→oF P ((execOp a.eval ⟨dst,.pick c x y,ty,pos,after,guard⟩).run P w) w I β hp B M w0 ⟨z,[]⟩:=by
   intro z hz
   exact ⟨_,w,I,β,.inl (by simp[execOp,XR,asBool]),Le.refl w I β hp,S,hz⟩
  cases C4:gone (aK P A.aD ty sl x) with
  | true=>
   rw[C4] at h
   obtain ⟨h1,h⟩:=aF h
   obtain rfl:=aJ h
   have:t=false:=by simpa using h1
   subst this
   refine fin _ ?_
   simpa using hy
  | false=>
   rw[C4] at h
   simp only[cond_false] at h
   cases Oa:gone (aK P A.aD ty sl y) with
   | true=>
    rw[Oa] at h
    obtain ⟨h1,h⟩:=aF h
    obtain rfl:=aJ h
    subst h1
    refine fin _ ?_
    simpa using hx
   | false=>
    rw[Oa] at h
    obtain rfl:=aJ h
    exact fin _ (MV hx hy)
 case makeFunc fn x y=>
  cases fn<;>simp only[fq] at h<;>first|(cases h;done)|skip
  rename_i f
  obtain rfl:=aJ h
  refine ⟨.func (.func f) (x.map a.eval) (y.map a.eval),w,I,β,.inl (by simp[execOp,Instr.makeFunc]),Le.refl w I β hp,S,.fn (by simp) (fun j v z hj hz=> ?_) (by simp) (fun j v z hj hz=> ?_)⟩
  ·rw[Array.getElem?_map] at hj
   rw[List.getElem?_map,Array.getElem?_toList] at hz
   cases hx:x[j]? with
   | none=>rw[hx] at hj;cases hj
   | some o1=>
    rw[hx] at hj hz
    cases hj
    cases hz
    exact hs.ev hg ty o1
  ·rw[Array.getElem?_map] at hj
   rw[List.getElem?_map,Array.getElem?_toList] at hz
   cases hx:y[j]? with
   | none=>rw[hx] at hj;cases hj
   | some o1=>
    rw[hx] at hj hz
    cases hj
    cases hz
    exact hs.ev hg ty o1
 case defer c=>cases HJ
 case makeMap t res=>
  cases res with
  | some x=>cases h
  | none=>exact .val rfl (Xv S h)
 case lookup t m k ok=>
  cases ht:kE P t with
  | none=>rw[ht] at h;cases h
  | some q=>
   obtain ⟨kt,vt⟩:=q
   rw[ht] at h
   exact .val (s:=Instr.lookup t (a.eval m) (a.eval k) ok) rfl (Xu S ht (hs.ev hg t m) (hs.ev hg kt k) h)
 case mapUpdate t m k x=>
  cases ht:kE P t with
  | none=>rw[ht] at h;cases h
  | some q=>
   obtain ⟨kt,vt⟩:=q
   rw[ht] at h
   have:=NZ S ht (hs.ev hg t m) (hs.ev hg kt k) (hs.ev hg vt x) h
   exact this.op
 case insert t m k x=>
  cases ht:kE P t with
  | none=>rw[ht] at h;cases h
  | some q=>
   obtain ⟨kt,vt⟩:=q
   rw[ht] at h
   have:=NZ S ht (hs.ev hg t m) (hs.ev hg kt k) (hs.ev hg vt x) h
   exact this.op
 case alloc e=>
  exact .val rfl (WB S h)
 case box e x=>
  exact .val rfl (WC S (hs.ev hg e x) h)
 case build t ps=>exact .val rfl (WE S hs hg h)
 case buildSlice t len ps=>
  cases hu:P.underlying t with
  | none=>rw[hu] at h;cases h
  | some d=>
   rw[hu] at h
   cases d<;>simp only at h<;>first|(cases h;done)|skip
   exact .val rfl (WN S hs hg hu h)
 case load t x=>exact .val rfl (Wc S (hs.ev hg ty x) h)
 case store t x y=>
  have:=Wx S (hs.ev hg ty x) (hs.ev hg t y) h
  exact this.op
 case nilCheck x=>
  have hx:=hs.ev hg ty x
  cases fg:aK P A.aD ty sl x<;>rw[fg] at h hx<;>simp only at h<;>first|(cases h;done)|skip
  ·obtain ⟨⟨blk,ae,hd⟩,l,h⟩:=u3 h
   obtain rfl:=aJ h
   have cw:=hx
   obtain ⟨b,hb,he⟩:=hx.gB ae hd
   rw[he] at cw
   exact ⟨_,w,I,β,.inl (by simp only[execOp,he];rfl),Le.refl w I β hp,S,cw⟩
  ·obtain rfl:=aJ h
   have cw:=hx
   obtain ⟨b,o,he,_⟩:=hx.Cx
   rw[he] at cw
   exact ⟨_,w,I,β,.inl (by simp only[execOp,he];rfl),Le.refl w I β hp,S,cw⟩
  ·obtain ⟨e0,es,ao,l,ae,h1,h2,h3,h⟩:=nA h
   obtain rfl:=aJ h
   have cw:=hx
   obtain ⟨b,o,he,_⟩:=hx.MT ae h1 h2 h3
   rw[he] at cw
   exact ⟨_,w,I,β,.inl (by simp only[execOp,he];rfl),Le.refl w I β hp,S,cw⟩
 case binOp op t x y yt=>
  have hx:=hs.ev hg t x
  have hy:=hs.ev hg t y
  refine .val (s:=do eqGuard op t x y (a.eval x) (a.eval y);binOp op t (a.eval x) (a.eval y)) rfl ?_
  cases fg:aK P A.aD t sl x<;>cases rz:aK P A.aD t sl y<;>rw[fg,rz] at h<;>rw[fg] at hx<;>rw[rz] at hy<;>first|(simp only[jy] at h;cases h;done)|skip
  ·rw[hx.ew,hy.ew]
   have:=V2 S h
   simpa[VZ] using this
  ·rw[hx.je,hy.je]
   have:=V4 S h
   simpa[V0] using this
  ·obtain ⟨s1,e1,l1⟩:=hx.lC
   obtain ⟨s2,e2,l2⟩:=hy.lC
   rw[e1,e2]
   rw[←l1,←l2] at h
   have:=V5 (t:=t) S h
   simpa[V1] using this
  ·obtain ⟨cs,e1,h1,h2⟩:=hx.j7
   obtain ⟨ds,e2,h3,h4⟩:=hy.j7
   rw[e1,e2]
   exact V6 S h1 h3 h2 h4 h
  ·
   simp only[jy] at h
   obtain ⟨h1,h2⟩:=aF h
   clear h
   simp only[Bool.and_eq_true,Nat.beq_eq] at h1
   obtain ⟨rfl,rfl,rfl⟩:=h1
   obtain ⟨⟨blk,ae,hd⟩,l,h⟩:=u3 h2
   obtain ⟨b,hb,e1⟩:=hx.gB ae hd
   obtain ⟨b',az,e2⟩:=hy.gB ae hd
   rw[hb] at az;cases az
   rw[e1,e2]
   exact C3 S h (by cases op<;>simp[eqGuard]) fun e j he hj=>⟨run_eql_ptr_same w _ he hj,Lib.run_neq_ptr_same w _ he hj⟩
  ·simp only[jy] at h
   obtain ⟨⟨blk,ae,hd⟩,l,h⟩:=u3 h
   obtain ⟨b,_,e1⟩:=hx.gB ae hd
   rw[e1,hy.C2]
   exact C3 S h (by cases op<;>simp[eqGuard]) fun e j he hj=>⟨XG w t e _ he,XH w t e _ he⟩
  ·simp only[jy] at h
   obtain ⟨⟨blk,ae,hd⟩,l,h⟩:=u3 h
   obtain ⟨b,_,e1⟩:=hy.gB ae hd
   rw[e1,hx.C2]
   exact C3 S h (by cases op<;>simp[eqGuard]) fun e j he hj=>⟨XI w t e _ he,XJ w t e _ he⟩
  ·simp only[jy] at h
   rw[hx.C2,hy.C2]
   exact C3 S h (by cases op<;>simp[eqGuard]) fun e j he hj=>⟨XK w t e he,XL w t e he⟩
  ·
   simp only[jy] at h
   obtain ⟨l,h⟩:=run_get h
   split at h
   ·rename_i t2 es ae
    obtain ⟨b,hb⟩:=hx.Xz ae
    rw[hy.HF,hb]
    exact N4 (a:=some b) S x y h
   ·cases h
  ·simp only[jy] at h
   rw[hx.HF,hy.HF]
   exact N4 (a:=none) S x y h
 case unOp op t x=>exact .val rfl (V7 S (hs.ev hg ty x) h)
 case convert src dst x=>
  have hx:=hs.ev hg ty x
  refine .val (s:=convert src dst (a.eval x)) rfl ?_
  cases jd:P.underlying src with
  | none=>rw[jd] at h;cases h
  | some d1=>
   cases ji:P.underlying dst with
   | none=>rw[jd,ji] at h;cases d1<;>cases h
   | some d2=>
    rw[jd,ji] at h
    have gg: ∀{b:Nat} {T:TypeId} {cs:List V} {id:Nat},hp id=some (.var T cs)→β id=some b→w.shape? b=some (T,cs.length):=by
     intro b T cs id ae hb
     have hr:=S.h.rel id _ ae
     rw[hb] at hr
     cases hr with
     | var az hh aZ _ _ _=>cases az;simp[World.shape?,hh,aZ]
    cases d1<;>(try (cases d2<;>cases h;done))
    ·cases d2<;>(try (cases h;done))
     rename_i k1 k2
     cases fg:aK P A.aD ty sl x<;>rw[fg] at h hx<;>simp only at h<;>first|(cases h;done)|skip
     obtain rfl:=aJ h
     rw[hx.ew]
     exact .same S (by simp[convert,run_underlying jd,run_underlying ji,Conv.intToInt]) .int
    ·cases d2<;>(try (cases h;done))
     rename_i u
     cases fg:aK P A.aD ty sl x<;>rw[fg] at h hx<;>simp only at h<;>first|(cases h;done)|skip
     rename_i id i c
     obtain ⟨l,h1⟩:=run_get h
     cases ae:hp id with
     | none=>rw[ae] at h1;cases h1
     | some blk=>
      rw[ae] at h1
      cases blk<;>simp only at h1<;>first|(cases h1;done)|skip
      rename_i T cs
      obtain ⟨h2,h3⟩:=aF h1
      simp only[Bool.and_eq_true,Nat.beq_eq] at h2
      obtain ⟨rfl,h4,h5⟩:=h2
      obtain ⟨b,hb,e1⟩:=hx.gB ae (by simp)
      obtain rfl:=aJ h3
      obtain ⟨j,hj⟩:=Option.isSome_iff_exists.1 h4
      have cw:=hx
      rw[e1] at cw⊢
      exact .same S (Lib.run_from_unsafe w _ jd ji hj (gg ae hb) (by simpa using h5)) cw
    ·cases d2<;>(try (cases h;done))
     rename_i t
     cases fg:aK P A.aD ty sl x<;>rw[fg] at h hx<;>simp only at h<;>first|(cases h;done)|skip
     rename_i id i c
     obtain ⟨l,h1⟩:=run_get h
     cases ae:hp id with
     | none=>rw[ae] at h1;cases h1
     | some blk=>
      rw[ae] at h1
      cases blk<;>simp only at h1<;>first|(cases h1;done)|skip
      rename_i T cs
      obtain ⟨h2,h3⟩:=aF h1
      simp only[Bool.and_eq_true,Nat.beq_eq,Nat.blt_eq] at h2
      obtain ⟨rfl,h4,h5⟩:=h2
      obtain ⟨b,hb,e1⟩:=hx.gB ae (by simp)
      obtain rfl:=aJ h3
      cases hj:P.info? t with
      | none=>rw[hj] at h5;cases h5
      | some j=>
       rw[hj] at h5
       simp only[Bool.not_eq_true'] at h5
       have h6:j.size≠0:=fun e=>by rw[e] at h5;cases h5
       have cw:=hx
       rw[e1] at cw⊢
       exact .same S (Lib.run_to_unsafe w _ jd ji hj h6 (gg ae hb) (by simpa using h4)) cw
    ·rename_i e
     cases d2<;>(try (cases h;done))
     simp only at h
     cases he:P.underlying e with
     | none=>rw[he] at h;cases h
     | some d3=>
      rw[he] at h
      cases d3<;>(try (cases h;done))
      rename_i k
      cases k<;>(try (cases h;done))
      exact XF S jd he ji hx h
 case fieldAddr s x f=>exact .val rfl (V8 S (hs.ev hg ty x) h)
 case field s x f=>exact .val rfl (W8 S (hs.ev hg ty x) h)
 case indexAddr t x y=>exact .val rfl (Xh S (hs.ev hg ty x) (hs.ev hg 0 y) h)
 case index t x y=>
  have hx:=hs.ev hg ty x
  have hy:=hs.ev hg 0 y
  refine .val (s:=Instr.index t (a.eval x) (a.eval y)) rfl ?_
  cases hu:P.underlying t with
  | none=>rw[hu] at h;cases h
  | some d=>
   rw[hu] at h
   cases d<;>(try (cases h;done))
   cases fg:aK P A.aD ty sl x<;>rw[fg] at h hx<;>(try (cases h;done))
   cases rz:aK P A.aD 0 sl y<;>rw[rz] at h hy<;>(try (cases h;done))
   obtain ⟨s,e1,l1⟩:=hx.lC
   rw[e1,hy.ew]
   exact Xa S hu l1 h
 case slice t x lo hi mx=>
  cases mx with
  | some m=>
   simp only at h
   refine .val (s:=Instr.sliceAt t (a.eval x) (lo.map a.eval) (hi.map a.eval) (some (a.eval m))) (by simp[execOp]) (Xf S (hs.ev hg ty x) (fun hy=> ?_) (fun y hy=> ?_) (fun y hy=> ?_) h)
   ·cases lo with
    | none=>rfl
    | some l=>cases hy
   ·cases hi with
    | none=>cases hy
    | some l=>cases hy;exact ⟨_,rfl,hs.ev hg 0 l⟩
   ·cases hy;exact ⟨_,rfl,hs.ev hg 0 m⟩
  | none=>
   simp only at h
   have plain:(B9 P t (aK P A.aD ty sl x) (lo.map (aK P A.aD 0 sl)) (hi.map (aK P A.aD 0 sl))).run C hp=some (r,rd)→oF P ((execOp a.eval ⟨dst,.slice t x lo hi none,ty,pos,after,guard⟩).run P w) w I β hp B M w0 r:=by
    intro h
    refine .val (s:=Instr.sliceAt t (a.eval x) (lo.map a.eval) (hi.map a.eval) none) (by simp[execOp]) (Xe S (hs.ev hg ty x) (fun y hy=> ?_) (fun y hy=> ?_) (fun hy=> ?_) (fun hy=> ?_) h)
    ·cases lo with
     | none=>cases hy
     | some l=>cases hy;exact ⟨_,rfl,hs.ev hg 0 l⟩
    ·cases hi with
     | none=>cases hy
     | some l=>cases hy;exact ⟨_,rfl,hs.ev hg 0 l⟩
    ·cases lo with
     | none=>rfl
     | some l=>cases hy
    ·cases hi with
     | none=>rfl
     | some l=>cases hy
   have tr:(Cc P nb t (aK P A.aD ty sl x) (lo.map (aK P A.aD 0 sl)) (hi.map (aK P A.aD 0 sl))).run C hp=some (r,rd)→oF P ((execOp a.eval ⟨dst,.slice t x lo hi none,ty,pos,after,guard⟩).run P w) w I β hp B M w0 r:=by
    intro h
    refine .val (s:=Instr.sliceAt t (a.eval x) (lo.map a.eval) (hi.map a.eval) none) (by simp[execOp]) (Xk S (hs.ev hg ty x) (fun y hy=> ?_) (fun hy=> ?_) h)
    ·cases hi with
     | none=>cases hy
     | some l=>cases hy;exact ⟨_,rfl,hs.ev hg 0 l⟩
    ·cases lo with
     | none=>rfl
     | some l=>cases hy
   cases dst with
   | none=>exact plain h
   | some d=>
    simp only at h
    cases vo:jw A.uH d with
    | true=>rw[vo] at h;exact tr h
    | false=>rw[vo] at h;exact plain h
 case extract x i=>
  have hx:=hs.ev hg ty x
  cases fg:aK P A.aD ty sl x<;>rw[fg] at h hx<;>simp only at h<;>first|(cases h;done)|skip
  exact .val (s:=Instr.extract (a.eval x) i) rfl (W9 S hx h)
 case makeSlice t l c=>
  have hl:=hs.ev hg 0 l
  have hc:=hs.ev hg 0 c
  refine .val (s:=Instr.makeSlice t (a.eval l) (a.eval c)) rfl ?_
  cases hu:P.underlying t with
  | none=>rw[hu] at h;cases h
  | some d=>
   rw[hu] at h
   cases d<;>(try (cases h;done))
   cases HK:aK P A.aD 0 sl l<;>rw[HK] at h hl<;>(try (cases h;done))
   cases sW:aK P A.aD 0 sl c<;>rw[sW] at h hc<;>(try (cases h;done))
   rw[hl.ew,hc.ew]
   cases dst with
   | none=>exact Ny S hu h
   | some d=>
    simp only at h
    cases hg:jw A.uH d with
    | true=>rw[hg] at h;exact WQ S hu h
    | false=>rw[hg] at h;exact Ny S hu h
 case call c=>
  obtain ⟨callee,args,argTypes⟩:=c
  cases callee with
  | invoke r m=>cases h
  | value f=>
   cases f with
   | func f=>cases HJ
   | tmp f=>cases HJ
   | _=>cases h
  | builtin b=>
   have one: ∀{x:Operand},args.toList=[x]→args= #[x]:=fun h=>by rw[←Array.toArray_toList (xs:=args),h]
   have pW: ∀(s:Array TypeId→TypeId→Array Value→Sem Value),builtin b argTypes ty (args.map fun| .const _=>true|_=>false) (args.map a.eval)=(do Pure.pure (Next.value (←s argTypes ty (args.map a.eval))))→
     execOp a.eval ⟨dst,.call ⟨.builtin b,args,argTypes⟩,ty,pos,after,guard⟩=(do Pure.pure (Next.value (←s argTypes ty (args.map a.eval)))):=by
    intro s hb
    simp only[execOp,resolve,pure_bind,invoke]
    exact hb
   cases b<;>(try (cases h;done))
   case append=>
    simp only at h
    cases ha:args.toList with
    | nil=>rw[ha] at h;cases h
    | cons x l=>
     cases l with
     | nil=>rw[ha] at h;cases h
     | cons y l2=>
      cases l2 with
      | cons _ _=>rw[ha] at h;cases h
      | nil=>
       cases dt:argTypes.toList with
       | nil=>rw[ha,dt] at h;cases h
       | cons t l3=>
        cases l3 with
        | nil=>rw[ha,dt] at h;cases h
        | cons u l4=>
         cases l4 with
         | cons _ _=>rw[ha,dt] at h;cases h
         | nil=>
          rw[ha,dt] at h
          simp only at h
          have e1:args= #[x,y]:=by rw[←Array.toArray_toList (xs:=args),ha]
          have e2:argTypes= #[t,u]:=by rw[←Array.toArray_toList (xs:=argTypes),dt]
          cases hu:P.underlying t with
          | none=>rw[hu] at h;cases h
          | some d=>
           rw[hu] at h
           cases d<;>(try (cases h;done))
           cases hc:Nat.beq t u with
           | true=>
            rw[hc] at h
            rw[Nat.beq_eq] at hc
            subst hc
            have:=WU (ty:=ty) S hu (hs.ev hg t x) (hs.ev hg t y) h
            refine .val (pW Builtin.append_ rfl) ?_
            rw[e1,e2]
            simpa using this
           | false=>
            rw[hc] at h
            simp only[cond_false] at h
            have hy:=hs.ev hg u y
            cases nK:P.underlying u with
            | none=>rw[nK] at h;cases h
            | some du=>
             rw[nK] at h
             cases du<;>(try (cases h;done))
             cases rz:aK P A.aD u sl y<;>rw[rz] at h hy<;>(try (cases h;done))
             simp only at h
             obtain ⟨hb,h⟩:=aF h
             obtain ⟨s1,q1,q2⟩:=hy.lC
             subst q2
             have:=XE (ty:=ty) S hu nK (XN hb) (hs.ev hg t x) h
             refine .val (pW Builtin.append_ rfl) ?_
             rw[e1,e2]
             simpa[q1] using this
   case len=>
    simp only at h
    cases ha:args.toList with
    | nil=>rw[ha] at h;cases h
    | cons x l=>
     cases l with
     | cons _ _=>rw[ha] at h;cases h
     | nil=>
      cases dt:argTypes.toList with
      | nil=>rw[ha,dt] at h;cases h
      | cons t l3=>
       cases l3 with
       | cons _ _=>rw[ha,dt] at h;cases h
       | nil=>
        rw[ha,dt] at h
        simp only at h
        have e1:args= #[x]:=by rw[←Array.toArray_toList (xs:=args),ha]
        have e2:argTypes= #[t]:=by rw[←Array.toArray_toList (xs:=argTypes),dt]
        have hx:=hs.ev hg ty x
        refine .val (pW Builtin.len_ rfl) ?_
        rw[e1,e2]
        cases hu:P.underlying t with
        | none=>rw[hu] at h;cases h
        | some d=>
         rw[hu] at h
         cases d<;>(try (cases h;done))
         ·cases fg:aK P A.aD ty sl x<;>rw[fg] at h hx<;>(try (cases h;done))
          have:=MW (t:=t) (ty:=ty) S hx (fun l hl=>hu) (fun hn=>absurd rfl (hn _)) h
          simpa using this
         ·have h2:(∀l,aK P A.aD ty sl x≠ .str l)∧(B4 P (aK P A.aD ty sl x)).run C hp=some (r,rd):=by
           cases fg:aK P A.aD ty sl x<;>rw[fg] at h<;>first|(cases h;done)|exact ⟨fun l=>by simp,h⟩
          have:=MW (t:=t) (ty:=ty) S hx (fun l hl=>absurd hl (h2.1 l)) (fun _=>⟨_,hu⟩) h2.2
          simpa using this
         ·have h2:(B8 (aK P A.aD ty sl x)).run C hp=some (r,rd):=by
           cases fg:aK P A.aD ty sl x<;>rw[fg] at h<;>exact h
          have:=Xy (t:=t) (ty:=ty) S hu hx h2
          simpa using this
   case unsafeSliceData=>
    simp only at h
    cases ha:args.toList with
    | nil=>rw[ha] at h;cases h
    | cons x l=>
     cases l with
     | cons _ _=>rw[ha] at h;cases h
     | nil=>
      rw[ha] at h
      simp only at h
      have e1:args= #[x]:=by rw[←Array.toArray_toList (xs:=args),ha]
      have hx:=hs.ev hg ty x
      refine .val (pW Builtin.unsafeSliceData_ rfl) ?_
      rw[e1]
      cases fg:aK P A.aD ty sl x<;>rw[fg] at h hx<;>simp only at h<;>first|(cases h;done)|skip
      rename_i e id
      obtain ⟨l2,h1⟩:=run_get h
      cases ae:hp id with
      | none=>rw[ae] at h1;cases h1
      | some blk=>
       rw[ae] at h1
       cases blk<;>simp only at h1<;>first|(cases h1;done)|skip
       rename_i e' es fz
       obtain ⟨h2,h3⟩:=aF h1
       simp only[Bool.and_eq_true,Nat.beq_eq,Nat.blt_eq] at h2
       obtain ⟨rfl,h4⟩:=h2
       obtain rfl:=aJ h3
       have:=XO (ts:=argTypes) (ty:=ty) S hx ae h4
       simpa using this
   case unsafeString=>
    simp only at h
    cases ha:args.toList with
    | nil=>rw[ha] at h;cases h
    | cons x l=>
     cases l with
     | nil=>rw[ha] at h;cases h
     | cons y l2=>
      cases l2 with
      | cons _ _=>rw[ha] at h;cases h
      | nil=>
       cases dt:argTypes.toList with
       | nil=>rw[ha,dt] at h;cases h
       | cons t l3=>
        cases l3 with
        | nil=>rw[ha,dt] at h;cases h
        | cons u l4=>
         cases l4 with
         | cons _ _=>rw[ha,dt] at h;cases h
         | nil=>
          rw[ha,dt] at h
          simp only at h
          have e1:args= #[x,y]:=by rw[←Array.toArray_toList (xs:=args),ha]
          have e2:argTypes= #[t,u]:=by rw[←Array.toArray_toList (xs:=argTypes),dt]
          have hx:=hs.ev hg ty x
          have hy:=hs.ev hg ty y
          cases hu:P.underlying t with
          | none=>rw[hu] at h;cases h
          | some d=>
           rw[hu] at h
           cases d<;>(try (cases h;done))
           rename_i e
           cases fg:aK P A.aD ty sl x<;>rw[fg] at h hx<;>(try (cases h;done))
           cases rz:aK P A.aD ty sl y<;>rw[rz] at h hy<;>(try (cases h;done))
           rename_i id i c k n
           cases k<;>(try (cases h;done))
           simp only at h
           obtain ⟨l2,h1⟩:=run_get h
           cases ae:hp id with
           | none=>rw[ae] at h1;cases h1
           | some blk=>
            rw[ae] at h1
            cases blk<;>simp only at h1<;>first|(cases h1;done)|skip
            rename_i e' es fz
            cases fz<;>simp only at h1<;>first|(cases h1;done)|skip
            obtain ⟨h2,h3⟩:=aF h1
            simp only[Bool.and_eq_true,Nat.beq_eq,Nat.ble_eq,decide_eq_true_eq] at h2
            obtain ⟨rfl,h4,rfl,rfl,h5,h6,h7,h8⟩:=h2
            obtain rfl:=aJ h3
            have:=XP (u:=u) (ty:=ty) S hu h4 hx ae h5 h6 h7 h8
            refine .val (pW Builtin.unsafeString_ rfl) ?_
            rw[e1,e2]
            simpa[hy.ew] using this
   case copy=>
    simp only at h
    cases ha:args.toList with
    | nil=>rw[ha] at h;cases h
    | cons x l=>
     cases l with
     | nil=>rw[ha] at h;cases h
     | cons y l2=>
      cases l2 with
      | cons _ _=>rw[ha] at h;cases h
      | nil=>
       cases dt:argTypes.toList with
       | nil=>rw[ha,dt] at h;cases h
       | cons t l3=>
        cases l3 with
        | nil=>rw[ha,dt] at h;cases h
        | cons u l4=>
         cases l4 with
         | cons _ _=>rw[ha,dt] at h;cases h
         | nil=>
          rw[ha,dt] at h
          simp only at h
          have e1:args= #[x,y]:=by rw[←Array.toArray_toList (xs:=args),ha]
          have e2:argTypes= #[t,u]:=by rw[←Array.toArray_toList (xs:=argTypes),dt]
          cases hu:P.underlying t with
          | none=>rw[hu] at h;cases h
          | some d=>
           rw[hu] at h
           cases d<;>(try (cases h;done))
           have:=W0 (u:=u) (ty:=ty) S hu (hs.ev hg t x) (hs.ev hg u y) h
           refine .val (pW Builtin.copy_ rfl) ?_
           rw[e1,e2]
           simpa using this
   case clear=>
    simp only at h
    cases ha:args.toList with
    | nil=>rw[ha] at h;cases h
    | cons x l=>
     cases l with
     | cons _ _=>rw[ha] at h;cases h
     | nil=>
      cases dt:argTypes.toList with
      | nil=>rw[ha,dt] at h;cases h
      | cons t l3=>
       cases l3 with
       | cons _ _=>rw[ha,dt] at h;cases h
       | nil=>
        rw[ha,dt] at h
        simp only at h
        have e1:args= #[x]:=by rw[←Array.toArray_toList (xs:=args),ha]
        have e2:argTypes= #[t]:=by rw[←Array.toArray_toList (xs:=argTypes),dt]
        cases hu:P.underlying t with
        | none=>rw[hu] at h;cases h
        | some d=>
         rw[hu] at h
         cases d<;>(try (cases h;done))
         have:=W3 (ty:=ty) S hu (hs.ev hg t x) h
         refine .val (pW Builtin.clear_ rfl) ?_
         rw[e1,e2]
         simpa using this
   case max=>
    simp only at h
    cases ha:args.toList with
    | nil=>rw[ha] at h;cases h
    | cons x l=>
     rw[ha] at h
     simp only at h
     have:=Hs S true (vs:=l.map a.eval) (xs:=l.map (aK P A.aD ty sl)) (hs.ev hg ty x) (by simp) (fun j u y hu hy=>by
      simp only[List.getElem?_map] at hu hy
      cases hl:l[j]? with
      | none=>rw[hl] at hu;cases hu
      | some z=>rw[hl] at hu hy;cases hu;cases hy;exact hs.ev hg ty z) h
     refine .val (pW Builtin.max_ rfl) ?_
     simpa[Builtin.max_,ha] using this
   case min=>
    simp only at h
    cases ha:args.toList with
    | nil=>rw[ha] at h;cases h
    | cons x l=>
     rw[ha] at h
     simp only at h
     have:=Hs S false (vs:=l.map a.eval) (xs:=l.map (aK P A.aD ty sl)) (hs.ev hg ty x) (by simp) (fun j u y hu hy=>by
      simp only[List.getElem?_map] at hu hy
      cases hl:l[j]? with
      | none=>rw[hl] at hu;cases hu
      | some z=>rw[hl] at hu hy;cases hu;cases hy;exact hs.ev hg ty z) h
     refine .val (pW Builtin.min_ rfl) ?_
     simpa[Builtin.min_,ha] using this
end
end Go.AM
namespace Go.AM
section
variable {P:Program} {A:cB} {w w':World} {I I' I2:Nat→Prop} {μ β au:Nat→Option Nat} {hp hp':Nat→Option aj} {C:af} {B:Nat} {M:Nat→Prop} {w0:Start}
theorem vp: ∀{l m:List Nat},eD.nt l m=true→l=m
 | [],[],_=>rfl
 | [],_::_,h=>by cases h
 | _::_,[],h=>by cases h
 | a::l,b::m,h=>by
  simp only[eD.nt,Bool.and_eq_true,Nat.beq_eq] at h
  rw[h.1,vp h.2]
@[simp] theorem Ob (n:Nat):jX (dZ n)=n:=by simp[jX,dZ,V.toInt]
theorem C6: ∀(path:List (Nat × Nat)) (rest:List V),xl (path.map (·.2)) ((path.map fun p=>dZ p.1)++rest)=path
 | [],_=>rfl
 | p::l,rest=>by
  simp only[List.map_cons,List.cons_append,xl,V.nth,Ob,List.drop_succ_cons,List.drop_zero,C6 l rest]
theorem C7 {l:LS} {x:V} {ds:List V} (h:eD l x=some ds):ds.length=l.size∧(l= .qR∨∀rest,ig l (ds++rest)=x):=by
 cases l with
 | qR=>simp only[eD,Option.some.injEq] at h;subst h;exact ⟨rfl,.inl rfl⟩
 | int k=>
  cases x<;>simp only[eD] at h<;>first|(cases h;done)|skip
  rename_i k' n
  by_cases hk:k=k'
  ·subst hk
   simp only[decide_true,cond_true,Option.some.injEq] at h
   subst h
   exact ⟨rfl,.inr fun _=>rfl⟩
  ·simp[hk] at h
 | bool=>
  cases x<;>simp only[eD] at h<;>first|(cases h;done)|skip
  cases h
  exact ⟨rfl,.inr fun _=>rfl⟩
 | str=>
  cases x<;>simp only[eD] at h<;>first|(cases h;done)|skip
  cases h
  exact ⟨rfl,.inr fun _=>rfl⟩
 | list e=>
  cases x<;>simp only[eD] at h<;>first|(cases h;done)|skip
  rename_i e' es
  cases hb:Nat.beq e e' with
  | false=>rw[hb] at h;cases h
  | true=>
   rw[hb] at h
   rw[Nat.beq_eq] at hb
   subst hb
   cases h
   exact ⟨rfl,.inr fun _=>rfl⟩
 | whole e j=>
  cases x<;>simp only[eD] at h<;>first|(cases h;done)|skip
  rename_i e' id
  cases hb:(Nat.beq e e'&&Nat.beq j id) with
  | false=>rw[hb] at h;cases h
  | true=>
   rw[hb] at h
   simp only[Bool.and_eq_true,Nat.beq_eq] at hb
   obtain ⟨rfl,rfl⟩:=hb
   cases h
   exact ⟨rfl,.inr fun _=>rfl⟩
 | sub e j=>
  cases x<;>simp only[eD] at h<;>first|(cases h;done)|skip
  rename_i e' id o n
  cases hb:(Nat.beq e e'&&Nat.beq j id) with
  | false=>rw[hb] at h;cases h
  | true=>
   rw[hb] at h
   simp only[Bool.and_eq_true,Nat.beq_eq] at hb
   obtain ⟨rfl,rfl⟩:=hb
   cases h
   exact ⟨rfl,.inr fun _=>by simp[ig,V.nth]⟩
 | ptr j=>
  cases x<;>simp only[eD] at h<;>first|(cases h;done)|skip
  rename_i id i c
  cases hb:(Nat.beq j id) with
  | false=>rw[hb] at h;cases h
  | true=>
   rw[hb] at h
   rw[Nat.beq_eq] at hb
   subst hb
   cases h
   exact ⟨rfl,.inr fun _=>by simp[ig,V.nth]⟩
 | ak j i c=>
  cases x<;>simp only[eD] at h<;>first|(cases h;done)|skip
  rename_i id i' c'
  cases hb:(Nat.beq j id&&(Nat.beq i i'&&Nat.beq c c')) with
  | false=>rw[hb] at h;cases h
  | true=>
   rw[hb] at h
   simp only[Bool.and_eq_true,Nat.beq_eq] at hb
   obtain ⟨rfl,rfl,rfl⟩:=hb
   cases h
   exact ⟨rfl,.inr fun _=>rfl⟩
 | nilS e=>
  cases x<;>simp only[eD] at h<;>first|(cases h;done)|skip
  rename_i e'
  cases hb:Nat.beq e e' with
  | false=>rw[hb] at h;cases h
  | true=>
   rw[hb] at h
   rw[Nat.beq_eq] at hb
   subst hb
   cases h
   exact ⟨rfl,.inr fun _=>rfl⟩
 | dx=>
  cases x<;>simp only[eD] at h<;>first|(cases h;done)|skip
  cases h
  exact ⟨rfl,.inr fun _=>rfl⟩
 | bC e j=>
  cases x<;>simp only[eD] at h<;>first|(cases h;done)|skip
  rename_i e' id
  cases hb:(Nat.beq e e'&&Nat.beq j id) with
  | false=>rw[hb] at h;cases h
  | true=>
   rw[hb] at h
   simp only[Bool.and_eq_true,Nat.beq_eq] at hb
   obtain ⟨rfl,rfl⟩:=hb
   cases h
   exact ⟨rfl,.inr fun _=>rfl⟩
 | dy e=>
  cases x<;>simp only[eD] at h<;>first|(cases h;done)|skip
  rename_i e'
  cases hb:Nat.beq e e' with
  | false=>rw[hb] at h;cases h
  | true=>
   rw[hb] at h
   rw[Nat.beq_eq] at hb
   subst hb
   cases h
   exact ⟨rfl,.inr fun _=>rfl⟩
 | uG k n=>
  cases x<;>simp only[eD] at h<;>first|(cases h;done)|skip
  rename_i k' m
  cases hb:(decide (k=k')&&decide (m=n)) with
  | false=>rw[hb] at h;cases h
  | true=>
   rw[hb] at h
   simp only[Bool.and_eq_true,decide_eq_true_eq] at hb
   obtain ⟨rfl,rfl⟩:=hb
   cases h
   exact ⟨rfl,.inr fun _=>rfl⟩
 | row e j cs=>
  cases x<;>simp only[eD] at h<;>first|(cases h;done)|skip
  rename_i e' id ver path
  cases hb:(Nat.beq e e'&&(Nat.beq j id&&(Nat.beq ver 0&&eD.nt cs (path.map (·.2))))) with
  | false=>rw[hb] at h;cases h
  | true=>
   rw[hb] at h
   simp only[Bool.and_eq_true,Nat.beq_eq] at hb
   obtain ⟨rfl,rfl,rfl,nE⟩:=hb
   have:=vp nE
   subst this
   cases h
   exact ⟨by simp[LS.size],.inr fun rest=>by simp only[ig,C6]⟩
 | cA j cs c=>
  cases x<;>simp only[eD] at h<;>first|(cases h;done)|skip
  rename_i id ver path i c'
  cases hb:(Nat.beq j id&&(Nat.beq ver 0&&(Nat.beq c c'&&eD.nt cs (path.map (·.2))))) with
  | false=>rw[hb] at h;cases h
  | true=>
   rw[hb] at h
   simp only[Bool.and_eq_true,Nat.beq_eq] at hb
   obtain ⟨rfl,rfl,rfl,nE⟩:=hb
   have:=vp nE
   subst this
   cases h
   exact ⟨by simp[LS.size],.inr fun rest=>by simp only[ig,List.cons_append,V.nth,Ob,List.drop_succ_cons,List.drop_zero,C6]⟩
def LS.below (n:Nat) (x:V):Prop:= ∀id∈ep x,id<n
def Oc:V→Prop
 | .agg _=>False
 | .bh _=>False
 | .fn .. =>False
 | .pref .. =>False
 | _=>True
theorem ta {c:Bool} {a d:List V} (h:(bif c then some a else none)=some d):c=true:=by
 cases c with
 | true=>rfl
 | false=>cases h
theorem XS {l:LS} {x:V} {ds:List V} {n:Nat} (h:eD l x=some ds) (hl:l≠ .qR) (ax:l.ok n=true):Oc x∧LS.below n x:=by
 cases l<;>cases x<;>simp only[eD] at h<;>first|(cases h;done)|(exact absurd rfl hl)|skip
 all_goals refine ⟨trivial,fun id ae=> ?_⟩
 all_goals simp only[ep,List.mem_singleton,List.not_mem_nil] at ae
 all_goals subst ae
 all_goals simp only[LS.ok,Nat.blt_eq] at ax
 all_goals
  have hb:=ta h
  simp only[Bool.and_eq_true,Nat.beq_eq] at hb
  omega
theorem an.XT {v:Value} {x:V} (h:an P w I β hp v x) (hx:Oc x) (hs: ∀id∈ep x,hp' id=hp id∧au id=β id):an P w I au hp' v x:=by
 have one: ∀{id},id∈ep x→hp' id=hp id∧au id=β id:=fun h=>hs _ h
 cases h with
 | undef=>exact .undef
 | int=>exact .int
 | bool=>exact .bool
 | str h=>exact .str h
 | list h=>exact .list h
 | nilS=>exact .nilS
 | agg=>exact hx.elim
 | bh=>exact hx.elim
 | dx=>exact .dx
 | fn=>exact hx.elim
 | pref=>exact hx.elim
 | ed h=>exact .ed ((one (by simp[ep])).1.trans h)
 | fV h=>exact .fV ((one (by simp[ep])).1.trans h)
 | jD h=>exact .jD ((one (by simp[ep])).1.trans h)
 | dL h hb=>exact .dL ((one (by simp[ep])).1.trans h) ((one (by simp[ep])).2.trans hb)
 | whole h hb a b c=>exact .whole ((one (by simp[ep])).1.trans h) ((one (by simp[ep])).2.trans hb) a b c
 | eu h hb a b c=>exact .eu ((one (by simp[ep])).1.trans h) ((one (by simp[ep])).2.trans hb) a b c
 | fI h hb=>exact .fI ((one (by simp[ep])).1.trans h) ((one (by simp[ep])).2.trans hb)
 | sub h hb a b c=>exact .sub ((one (by simp[ep])).1.trans h) ((one (by simp[ep])).2.trans hb) a b c
 | ptr h hd hb=>exact .ptr ((one (by simp[ep])).1.trans h) hd ((one (by simp[ep])).2.trans hb)
 | iZ h pS=>exact .iZ ((one (by simp[ep])).1.trans h) pS
 | ja h pS=>exact .ja ((one (by simp[ep])).1.trans h) pS
 | row h hb a b c d=>exact .row ((one (by simp[ep])).1.trans h) ((one (by simp[ep])).2.trans hb) a b c d
 | cA h hb a b c d e=>exact .cA ((one (by simp[ep])).1.trans h) ((one (by simp[ep])).2.trans hb) a b c d e
 | dy=>exact .dy
 | gS h=>exact .gS ((one (by simp[ep])).1.trans h)
 | bC h hb=>exact .bC ((one (by simp[ep])).1.trans h) ((one (by simp[ep])).2.trans hb)
theorem mE {a b:List V} {n:Nat} (h:a.length=n):(a++b).drop n=b:=by subst h;simp
def yg (n:Nat) (β:Nat→Option Nat) (hp:Nat→Option aj) (au:Nat→Option Nat) (hp':Nat→Option aj):Prop:= ∀id,id<n→hp' id=hp id∧au id=β id
theorem Od {l:LS} {x:V} {ds:List V} {n:Nat} {v:Value} (h:eD l x=some ds) (ax:l.ok n=true) (iy:yg n β hp au hp') (hv:an P w I β hp v x) (rest:List V):
  an P w I au hp' v (ig l (ds++rest)):=by
 rcases (C7 h).2 with e|e
 ·subst e;exact .undef
 ·rw[e rest]
  by_cases hu:l= .qR
  ·subst hu
   have:x= .undef:=(e rest).symm
   subst this
   exact .undef
  ·obtain ⟨h1,h2⟩:=XS h hu ax
   exact hv.XT h1 fun id ae=>iy id (h2 id ae)
theorem yh {n:Nat} (iy:yg n β hp au hp'): ∀{ls:List LS} {xs:List V} {ds:List V},oA ls xs=some ds→ls.all (LS.ok n)=true→
  ds.length=jz ls∧(∀rest,(gL ls (ds++rest)).length=xs.length)∧
  ∀(rest:List V) (j:Nat) (v:Value) (y:V),(∀x,xs[j]? =some x→an P w I β hp v x)→(gL ls (ds++rest))[j]? =some y→an P w I au hp' v y
 | [],[],ds,h,_=>by cases h;exact ⟨rfl,fun _=>rfl,fun rest j v y _ hy=>by simp[gL] at hy⟩
 | [],_::_,ds,h,_=>by cases h
 | _::_,[],ds,h,_=>by cases h
 | l::ls,x::xs,ds,h,ax=>by
  simp only[oA] at h
  obtain ⟨a,h1,h⟩:=bind_some h
  obtain ⟨b,h2,h⟩:=bind_some h
  cases h
  simp only[List.all_cons,Bool.and_eq_true] at ax
  obtain ⟨i1,i2,i3⟩:=yh iy h2 ax.2
  have b9:=(C7 h1).1
  have hd: ∀rest,(a++b++rest).drop l.size=b++rest:=fun rest=>by rw[List.append_assoc];exact mE b9
  refine ⟨by simp only[List.length_append,jz];omega,fun rest=>by simp only[gL,List.length_cons,hd,i2],fun rest j v y hv hy=> ?_⟩
  simp only[gL,hd] at hy
  cases j with
  | zero=>
   simp at hy
   subst hy
   exact Od h1 ax.1 iy (hv x rfl) _
  | succ j=>exact i3 rest j v y (fun x hx=>hv x (by simpa using hx)) (by simpa using hy)
theorem HL: ∀{ls:List LS} {xs:List V} {ds:List V},oA ls xs=some ds→ls.all LS.plain=true→ds.length=jz ls∧∀rest,gL ls (ds++rest)=xs
 | [],[],ds,h,_=>by cases h;exact ⟨rfl,fun _=>rfl⟩
 | [],_::_,ds,h,_=>by cases h
 | _::_,[],ds,h,_=>by cases h
 | l::ls,x::xs,ds,h,ax=>by
  simp only[oA] at h
  obtain ⟨a,h1,h⟩:=bind_some h
  obtain ⟨b,h2,h⟩:=bind_some h
  cases h
  simp only[List.all_cons,Bool.and_eq_true] at ax
  obtain ⟨i1,i2⟩:=HL h2 ax.2
  obtain ⟨b9,hm⟩:=C7 h1
  refine ⟨by simp only[List.length_append,jz];omega,fun rest=> ?_⟩
  simp only[gL]
  rw[show (a++b++rest).drop l.size=b++rest by rw[List.append_assoc];exact mE b9,i2,List.append_assoc]
  rcases hm with e|e
  ·subst e;cases ax.1
  ·rw[e]
theorem HM {n:Nat} (iy:yg n β hp au hp') {s:VS} {x:V} {ds:List V} (h:oB s x=some ds) (ax:s.ok n=true):
  ds.length=s.size∧∀(rest:List V) (v:Value),an P w I β hp v x→an P w I au hp' v (jZ s (ds++rest)):=by
 cases s with
 | one l=>exact ⟨(C7 h).1,fun rest v hv=>Od h ax iy hv rest⟩
 | agg ls=>
  cases x<;>simp only[oB] at h<;>first|(cases h;done)|skip
  rename_i xs
  obtain ⟨i1,i2,i3⟩:=yh (P:=P) (w:=w) (I:=I) iy h ax
  refine ⟨i1,fun rest v hv=> ?_⟩
  obtain ⟨cs,rfl,e1,e2⟩:=hv.j7
  exact .agg (by rw[i2];exact e1) fun j v y hj hy=>i3 rest j v y (fun x hx=>e2 j v x hj hx) hy
 | bh ls=>
  cases x<;>simp only[oB] at h<;>first|(cases h;done)|skip
  rename_i xs
  obtain ⟨i1,i2,i3⟩:=yh (P:=P) (w:=w) (I:=I) iy h ax
  refine ⟨i1,fun rest v hv=> ?_⟩
  obtain ⟨cs,rfl,e1,e2⟩:=hv.sM
  exact .bh (by rw[i2];exact e1) fun j v y hj hy=>i3 rest j v y (fun x hx=>e2 j v x hj hx) hy
 | fn f a b=>
  cases x<;>simp only[oB] at h<;>first|(cases h;done)|skip
  rename_i f' xs ys
  cases hb:Nat.beq f f' with
  | false=>rw[hb] at h;cases h
  | true=>
   rw[hb] at h
   rw[Nat.beq_eq] at hb
   subst hb
   simp only[cond_true] at h
   obtain ⟨p,h1,h⟩:=bind_some h
   obtain ⟨q,h2,h⟩:=bind_some h
   cases h
   simp only[VS.ok,Bool.and_eq_true] at ax
   obtain ⟨i1,i2,i3⟩:=yh (P:=P) (w:=w) (I:=I) iy h1 ax.1
   obtain ⟨j1,j2,j3⟩:=yh (P:=P) (w:=w) (I:=I) iy h2 ax.2
   refine ⟨by simp only[List.length_append,VS.size];omega,fun rest v hv=> ?_⟩
   cases hv with
   | fn a1 a2 b1 b2=>
    simp only[jZ]
    rw[show (p++q++rest).drop (jz a)=q++rest by rw[List.append_assoc];exact mE i1,List.append_assoc]
    exact .fn (by rw[i2];exact a1) (fun j v y hj hy=>i3 _ j v y (fun x hx=>a2 j v x hj hx) hy) (by rw[j2];exact b1) (fun j v y hj hy=>j3 _ j v y (fun x hx=>b2 j v x hj hx) hy)
 | pref ts ls=>
  cases x<;>simp only[oB] at h<;>first|(cases h;done)|skip
  rename_i uO xs
  cases hb:eD.nt ts uO with
  | false=>rw[hb] at h;cases h
  | true=>
   rw[hb] at h
   have:=vp hb
   subst this
   simp only[cond_true] at h
   refine ⟨?_,fun rest v hv=> ?_⟩
   ·exact (HL h ax).1
   ·simp only[jZ]
    rw[(HL h ax).2]
    cases hv with
    | pref hl hI hc=>exact .pref hl hI hc
theorem yi {n:Nat} (iy:yg n β hp au hp'): ∀{ls:List VS} {xs:List V} {ds:List V},qQ ls xs=some ds→ls.all (VS.ok n)=true→
  ds.length=q0 ls∧(∀rest,(fp ls (ds++rest)).length=xs.length)∧
  ∀(rest:List V) (j:Nat) (v:Value) (y:V),(∀x,xs[j]? =some x→an P w I β hp v x)→(fp ls (ds++rest))[j]? =some y→an P w I au hp' v y
 | [],[],ds,h,_=>by cases h;exact ⟨rfl,fun _=>rfl,fun rest j v y _ hy=>by simp[fp] at hy⟩
 | [],_::_,ds,h,_=>by cases h
 | _::_,[],ds,h,_=>by cases h
 | l::ls,x::xs,ds,h,ax=>by
  simp only[qQ] at h
  obtain ⟨a,h1,h⟩:=bind_some h
  obtain ⟨b,h2,h⟩:=bind_some h
  cases h
  simp only[List.all_cons,Bool.and_eq_true] at ax
  obtain ⟨i1,i2,i3⟩:=yi iy h2 ax.2
  obtain ⟨b9,vk⟩:=HM (P:=P) (w:=w) (I:=I) iy h1 ax.1
  have hd: ∀rest,(a++b++rest).drop l.size=b++rest:=fun rest=>by rw[List.append_assoc];exact mE b9
  refine ⟨by simp only[List.length_append,q0];omega,fun rest=>by simp only[fp,List.length_cons,hd,i2],fun rest j v y hv hy=> ?_⟩
  simp only[fp,hd] at hy
  cases j with
  | zero=>
   simp at hy
   subst hy
   exact vk _ v (hv x rfl)
  | succ j=>exact i3 rest j v y (fun x hx=>hv x (by simpa using hx)) (by simpa using hy)
end
end Go.AM
namespace Go.AM
section
variable {P:Program} {A:cB} {w w':World} {I I' I2:Nat→Prop} {μ β au:Nat→Option Nat} {hp hp' hp0:Nat→Option aj} {C:af} {B:Nat} {M:Nat→Prop} {w0:Start}
theorem gD: ∀{l:List aj} {j:Nat},iY l j=l[j]?
 | [],j=>by simp[iY]
 | b::l,0=>rfl
 | b::l,j+1=>by simp only[iY,gD,List.getElem?_cons_succ]
theorem HN {sl:Nat→V} {k:Nat} {y:V}: ∀{l:List (Nat × VS)} {ds:List V},xj sl l=some ds→(∀p∈l,∀d,oB p.2 (sl p.1)=some d→d.length=p.2.size)→
  ds.length=nu l∧∀rest,dK (fc l (ds++rest)) k=some y→∃s d fZ,(k,s)∈l∧oB s (sl k)=some d∧y=jZ s (d++fZ)
 | [],ds,h,_=>by cases h;exact ⟨rfl,fun rest h=>by cases h⟩
 | (q,s)::l,ds,h,hz=>by
  simp only[xj] at h
  obtain ⟨a,h1,h⟩:=bind_some h
  obtain ⟨b,h2,h⟩:=bind_some h
  cases h
  obtain ⟨i1,i2⟩:=HN (k:=k) (y:=y) h2 fun p hp=>hz p (List.mem_cons_of_mem _ hp)
  have b9:=hz (q,s) (List.mem_cons_self ..) a h1
  refine ⟨by simp only[List.length_append,nu];simp only at b9;omega,fun rest hl=> ?_⟩
  simp only[fc,dK] at hl
  rw[show (a++b++rest).drop s.size=b++rest by rw[List.append_assoc];exact mE b9] at hl
  cases hb:Nat.beq k q with
  | true=>
   rw[hb] at hl
   rw[Nat.beq_eq] at hb
   subst hb
   cases hl
   exact ⟨s,a,b++rest,List.mem_cons_self ..,h1,by rw[List.append_assoc]⟩
  | false=>
   rw[hb] at hl
   obtain ⟨s',d,fZ,m1,m2,m3⟩:=i2 rest hl
   exact ⟨s',d,fZ,List.mem_cons_of_mem _ m1,m2,m3⟩
theorem HO {α:Type} {c:Bool} {x:Option α} {a:α} (h:(bif c then x else none)=some a):c=true∧x=some a:=by
 cases c with
 | true=>exact ⟨rfl,h⟩
 | false=>cases h
theorem XU {n:Nat} {b:BS} {o:Option aj} {ds:List V} (h:jY b o=some ds) (ax:b.ok n=true):ds.length=b.size:=by
 cases b with
 | dead=>cases o<;>(cases h;rfl)
 | var T0 ls=>
  cases o with
  | none=>cases h
  | some blk=>
   cases blk<;>simp only[jY] at h<;>first|(cases h;done)|skip
   exact (yi (P:=default) (w:=default) (I:=fun _=>False) (β:=fun _=>none) (hp:=fun _=>none) (fun _ _=>⟨rfl,rfl⟩) (HO h).2 ax).1
 | arr e fz=>
  cases o with
  | none=>cases h
  | some blk=>
   cases blk<;>simp only[jY] at h<;>first|(cases h;done)|skip
   rw[ta h] at h
   cases h
   rfl
 | nest e=>
  cases o with
  | none=>cases h
  | some blk=>
   cases blk<;>simp only[jY] at h<;>first|(cases h;done)|skip
   rw[ta h] at h
   cases h
   rfl
 | map t=>
  cases o with
  | none=>cases h
  | some blk=>
   cases blk<;>simp only[jY] at h<;>first|(cases h;done)|skip
   rw[ta h] at h
   cases h
   rfl
theorem Oe {n:Nat}: ∀{l:List BS} {j:Nat} {ds:List V},xk hp j l=some ds→l.all (BS.ok n)=true→
  (∀rest,(eK l (ds++rest)).length=l.length)∧∀(rest:List V) (i:Nat) (blk:aj),(eK l (ds++rest))[i]? =some blk→∃b d fZ,l[i]? =some b∧b.ok n=true∧jY b (hp (j+i))=some d∧blk=fE b (d++fZ)
 | [],j,ds,h,_=>by cases h;exact ⟨fun _=>rfl,fun rest i blk hb=>by simp[eK] at hb⟩
 | b::l,j,ds,h,ax=>by
  simp only[xk] at h
  obtain ⟨a,h1,h⟩:=bind_some h
  obtain ⟨c,h2,h⟩:=bind_some h
  cases h
  simp only[List.all_cons,Bool.and_eq_true] at ax
  obtain ⟨i1,i2⟩:=Oe h2 ax.2
  have b9:=XU h1 ax.1
  have hd: ∀rest,(a++c++rest).drop b.size=c++rest:=fun rest=>by rw[List.append_assoc];exact mE b9
  refine ⟨fun rest=>by simp only[eK,List.length_cons,hd,i1],fun rest i blk hb=> ?_⟩
  simp only[eK,hd] at hb
  cases i with
  | zero=>
   simp at hb
   exact ⟨b,a,c++rest,rfl,ax.1,h1,by rw[←hb]⟩
  | succ i=>
   obtain ⟨b',d,fZ,m1,m2,m3,m4⟩:=i2 rest i blk (by simpa using hb)
   exact ⟨b',d,fZ,by simpa using m1,m2,by rw[show j+(i+1)=j+1+i by omega];exact m3,m4⟩
theorem XV {n:Nat} {b:BS} {blk:aj} {ds rest:List V} (h:jY b (some blk)=some ds) (ax:b.ok n=true):
  blk.le (fE b (ds++rest))∧(fE b (ds++rest)= .dead∨fE b (ds++rest)=blk∨∃T ls cs,b= .var T ls∧blk= .var T cs∧qQ ls cs=some ds∧fE b (ds++rest)= .var T (fp ls (ds++rest))):=by
 cases b with
 | dead=>exact ⟨by cases blk<;>trivial,.inl rfl⟩
 | var T0 ls=>
  cases blk<;>simp only[jY] at h<;>first|(cases h;done)|skip
  obtain ⟨hT,h0⟩:=HO h
  clear h
  rw[Nat.beq_eq] at hT
  subst hT
  exact ⟨rfl,.inr (.inr ⟨_,_,_,rfl,rfl,h0,rfl⟩)⟩
 | arr e fz=>
  cases blk<;>simp only[jY] at h<;>first|(cases h;done)|skip
  rename_i e' es mj
  have hb:=ta h
  simp only[Bool.and_eq_true,Nat.beq_eq,beq_iff_eq] at hb
  obtain ⟨rfl,rfl⟩:=hb
  simp only[Nat.beq_refl,beq_self_eq_true,Bool.and_self,cond_true,Option.some.injEq] at h
  subst h
  exact ⟨⟨rfl,rfl⟩,.inr (.inl rfl)⟩
 | nest e=>
  cases blk<;>simp only[jY] at h<;>first|(cases h;done)|skip
  rename_i e' es ao
  have hb:=ta h
  simp only[Bool.and_eq_true,Nat.beq_eq] at hb
  obtain ⟨rfl,hv⟩:=hb
  have:=vp hv
  subst this
  simp only[Nat.beq_refl,Bool.true_and] at h
  cases h
  exact ⟨⟨rfl,rfl,rfl,fun _=>Nat.le_refl _⟩,.inr (.inl rfl)⟩
 | map t=>
  cases blk<;>simp only[jY] at h<;>first|(cases h;done)|skip
  rename_i t' es
  have hb:=ta h
  rw[Nat.beq_eq] at hb
  subst hb
  simp only[Nat.beq_refl,cond_true,Option.some.injEq] at h
  subst h
  exact ⟨rfl,.inr (.inl rfl)⟩
theorem Of {m:Nat} {S:Shape} {st:St} {ds:List V} (h:ij m S st=some ds):
  S.ok=true∧m≤S.a8.length∧∃a b,xj st.sl S.bI=some a∧xk st.hp 0 S.a8=some b∧ds=a++b:=by
 unfold ij at h
 cases hc:(S.ok&&Nat.ble m S.a8.length) with
 | false=>rw[hc] at h;cases h
 | true=>
  rw[hc] at h
  simp only[cond_true] at h
  simp only[Bool.and_eq_true,Nat.ble_eq] at hc
  obtain ⟨a,h1,h⟩:=bind_some h
  obtain ⟨b,h2,h⟩:=bind_some h
  cases h
  exact ⟨hc.1,hc.2,a,b,h1,h2,rfl⟩
theorem reshape {m:Nat} {S:Shape} {st:St} {ds:List V} (h:ij m S st=some ds) (hS:aE P w I β st.hp B M w0):
  aE P w I β (bq S ds).hp B M w0∧(∀(k:Nat) (v:Value),an P w I β st.hp v (st.sl k)→an P w I β (bq S ds).hp v ((bq S ds).sl k))∧
  (∀(μ:Nat→Option Nat) (hp0:Nat→Option aj),(∀id blk,hp0 id=some blk→id<m)→Le P w0.w w0.I μ hp0 w I β st.hp→Le P w0.w w0.I μ hp0 w I β (bq S ds).hp)∧
  ∀j blk',(bq S ds).hp j=some blk'→blk'≠ .dead→∃blk,st.hp j=some blk∧blk.le blk'∧∀o b,bA P w o blk' b→bA P w o blk b:=by
 obtain ⟨ax,hm,a,b,h1,h2,rfl⟩:=Of h
 unfold Shape.ok at ax
 rw[Bool.and_eq_true] at ax
 obtain ⟨Og,Hu⟩:=ax
 have aZ: ∀p∈S.bI,∀d,oB p.2 (st.sl p.1)=some d→d.length=p.2.size:=fun p hp d hd=>
  (HM (P:=P) (w:=w) (I:=I) (β:=β) (hp:=st.hp) (fun _ _=>⟨rfl,rfl⟩) hd (List.all_eq_true.1 Og p hp)).1
 have b9:a.length=nu S.bI:=(HN (k:=0) (y:= .undef) h1 aZ).1
 have CU:(bq S (a++b)).hp=iY (eK S.a8 (b++[])):=by
  simp only[bq,mk,List.append_nil]
  rw[mE b9]
 obtain ⟨bl,bg⟩:=Oe h2 Hu
 have get: ∀j blk',(bq S (a++b)).hp j=some blk'→j<S.a8.length∧∃bs d fZ,bs.ok S.a8.length=true∧jY bs (st.hp j)=some d∧blk'=fE bs (d++fZ):=by
  intro j blk' hj
  rw[CU,gD] at hj
  obtain ⟨bs,d,fZ,m1,m2,m3,m4⟩:=bg [] j blk' hj
  rw[Nat.zero_add] at m3
  exact ⟨(List.getElem?_eq_some_iff.1 m1).1,bs,d,fZ,m2,m3,m4⟩
 have have': ∀j,j<S.a8.length→∃blk',(bq S (a++b)).hp j=some blk':=by
  intro j hj
  rw[CU,gD]
  exact ⟨_,List.getElem?_eq_getElem (by rw[bl];exact hj)⟩
 generalize gz:(bq S (a++b)).hp=tc at*
 let bx:Nat→Option aj:=fun id=>if id<S.a8.length then tc id else st.hp id
 have back: ∀j blk',tc j=some blk'→blk'≠ .dead→∃blk,st.hp j=some blk∧blk.le blk'∧(blk'=blk∨∃T ls cs d fZ,ls.all (VS.ok S.a8.length)=true∧blk= .var T cs∧qQ ls cs=some d∧blk'= .var T (fp ls (d++fZ))):=by
  intro j blk' hj hd
  obtain ⟨cX,bs,d,fZ,m1,m2,m3⟩:=get j blk' hj
  cases bN:st.hp j with
  | none=>
   rw[bN] at m2
   cases bs<;>simp only[jY] at m2<;>first|(cases m2;done)|skip
   exact absurd m3 hd
  | some blk=>
   rw[bN] at m2
   obtain ⟨n1,n2⟩:=XV (rest:=fZ) m2 m1
   rw[←m3] at n1 n2
   refine ⟨blk,rfl,n1,?_⟩
   rcases n2 with e|e|⟨T,ls,cs,e1,e2,e3,e4⟩
   ·exact absurd e hd
   ·exact .inl e
   ·subst e1
    exact .inr ⟨T,ls,cs,d,fZ,m1,e2,e3,e4⟩
 have XW: ∀j blk,st.hp j=some blk→j<S.a8.length→∃blk',tc j=some blk'∧blk.le blk':=by
  intro j blk hj cX
  obtain ⟨blk',az⟩:=have' j cX
  refine ⟨blk',az,?_⟩
  by_cases hd:blk'= .dead
  ·subst hd;cases blk<;>trivial
  ·obtain ⟨bW,e1,e2,_⟩:=back j blk' az hd
   rw[hj] at e1;cases e1
   exact e2
 have XX: ∀j e es ao e' aI vers',st.hp j=some (.nest e es ao)→tc j=some (.nest e' aI vers')→e'=e∧aI=es∧vers'=ao:=by
  intro j e es ao e' aI vers' hj gj
  obtain ⟨blk,e1,_,e3⟩:=back j _ gj (by simp)
  rw[hj] at e1;cases e1
  rcases e3 with e3|⟨_,_,_,_,_,_,e3,_⟩
  ·cases e3;exact ⟨rfl,rfl,rfl⟩
  ·cases e3
 have hle:Le P w I β st.hp w I β bx:=by
  refine ⟨fun _ h=>h,fun _ _=>rfl,fun id blk ae=> ?_,fun _ _ _ _ _ _ _ _=>rfl,Le.rj (fun _ _ _ _ _ _=>rfl) fun id e es ao e' aI vers' ae bE=> ?_⟩
  ·by_cases hl:id<S.a8.length
   ·obtain ⟨blk',e1,e2⟩:=XW id blk ae hl
    exact ⟨blk',by simp only[bx,if_pos hl];exact e1,e2,fun _=>rfl⟩
   ·exact ⟨blk,by simp only[bx,if_neg hl];exact ae,aj.le_refl _,fun _=>rfl⟩
  ·by_cases hl:id<S.a8.length
   ·simp only[bx,if_pos hl] at bE
    exact XX _ _ _ _ _ _ _ ae bE
   ·simp only[bx,if_neg hl] at bE
    rw[ae] at bE;cases bE
    exact ⟨rfl,rfl,rfl⟩
 have iy:yg S.a8.length β bx β tc:=fun id ae=>⟨by simp only[bx,if_pos ae],rfl⟩
 have vd: ∀j blk' blk o b,tc j=some blk'→st.hp j=some blk→bA P w o blk' b→bA P w o blk b:=by
  intro j blk' blk o b gj hj ho
  obtain ⟨bW,e1,_,e3⟩:=back j blk' gj ho.alive
  rw[hj] at e1;cases e1
  rcases e3 with e3|⟨T,ls,cs,d,fZ,_,e3,_,e5⟩
  ·subst e3;exact ho
  ·subst e3;subst e5
   exact .root (by simp) (ho.flat (by simp))
 refine ⟨⟨⟨fun j blk' hj=> ?_,fun j1 j2 b1 b2 b' e1 e2 o1 o2=> ?_,fun j blk b' hj ho=> ?_,hS.h.jb⟩,hS.b8,hS.size,hS.new,hS.io⟩,fun k v hv=> ?_,fun μ hp0 aR hE=> ?_,fun j blk' hj hd=> ?_⟩
 ·by_cases hd:blk'= .dead
  ·subst hd;exact .dead
  ·obtain ⟨blk,e1,_,e3⟩:=back j blk' hj hd
   have hr:=hS.h.rel j blk e1
   generalize β j=o at hr
   rcases e3 with e3|⟨T0,ls,cs,d,fZ,q1,e3,e4,e5⟩
   ·subst e3
    cases hr with
    | @var xs b' Ca T hb hh hs cO hx fX=>
     obtain ⟨cX,bs,d,fZ,m1,m2,m3⟩:=get j _ hj
     rw[e1] at m2
     cases bs<;>simp only[jY] at m2<;>first|(cases m2;done)|skip
     ·rename_i T0 ls
      simp only[fE] at m3
      obtain ⟨hT,m2⟩:=HO m2
      obtain ⟨i1,i2,i3⟩:=yi (P:=P) (w:=w) (I:=I) iy m2 m1
      injection m3 with m4 m3
      rw[m3]
      exact .var hb hh (by rw[i2];exact hs) cO (fun i v y hi hy=>i3 fZ i v y (fun x cw=>(hx i v x hi cw).mono hle) hy) fX
     ·simp only[fE] at m3
      cases m3
    | dM hb=>exact .dM hb
    | arr a1 a2 a3 a4 a5 a6 a7=>exact .arr a1 a2 a3 a4 a5 a6 a7
    | dead=>exact absurd rfl hd
    | nest a1 a2 a3=>exact .nest a1 a2 a3
    | map a1 a2 a3 a4 a5 a6 a7=>exact .map a1 a2 a3 a4 a5 a6 a7
   ·subst e3
    subst e5
    cases hr with
    | @var xs b' Ca T hb hh hs cO hx fX=>
     obtain ⟨i1,i2,i3⟩:=yi (P:=P) (w:=w) (I:=I) iy e4 q1
     exact .var hb hh (by rw[i2];exact hs) cO (fun i v y hi hy=>i3 fZ i v y (fun x cw=>(hx i v x hi cw).mono hle) hy) fX
 ·obtain ⟨c1,x1,_,_⟩:=back j1 b1 e1 o1.alive
  obtain ⟨c2,x2,_,_⟩:=back j2 b2 e2 o2.alive
  exact hS.h.inj j1 j2 c1 c2 b' x1 x2 (vd _ _ _ _ _ e1 x1 o1) (vd _ _ _ _ _ e2 x2 o2)
 ·obtain ⟨c1,x1,_,_⟩:=back j blk hj ho.alive
  exact hS.h.own j c1 b' x1 (vd _ _ _ _ _ hj x1 ho)
 ·change an P w I β tc v (iJ (fc S.bI (a++b)) k)
  unfold iJ
  cases HP:dK (fc S.bI (a++b)) k with
  | none=>exact .undef
  | some y=>
   obtain ⟨s,d,fZ,n1,n2,n3⟩:=(HN h1 aZ).2 b HP
   simp only[Option.getD_some,n3]
   exact (HM (P:=P) (w:=w) (I:=I) iy n2 (List.all_eq_true.1 Og _ n1)).2 fZ v (hv.mono hle)
 ·have h3:=hE.trans hle
  refine ⟨h3.dr,h3.b8,fun id blk ae=> ?_,fun id blk blk' b' ae bE hd hb=> ?_,fun id e es ao e' aI vers' b2 q i c t v e1 l ae bE=> ?_⟩
  ·have hl:=aR id blk ae
   obtain ⟨blk',k1,k2,k3⟩:=h3.blk id blk ae
   simp only[bx,if_pos (show id<S.a8.length by omega)] at k1
   exact ⟨blk',k1,k2,k3⟩
  ·have hl:=aR id blk ae
   exact h3.size id blk blk' b' ae (by simp only[bx,if_pos (show id<S.a8.length by omega)];exact bE) hd hb
  ·have hl:=aR id _ ae
   exact h3.row id e es ao e' aI vers' b2 q i c t v e1 l ae (by simp only[bx,if_pos (show id<S.a8.length by omega)];exact bE)
 ·obtain ⟨blk,e1,e2,_⟩:=back j blk' hj hd
  exact ⟨blk,e1,e2,fun o b' ho=>vd _ _ _ _ _ hj e1 ho⟩
end
end Go.AM
namespace Go.AM
section
variable {P:Program} {A:cB} {w w':World} {I I' I2:Nat→Prop} {μ β au:Nat→Option Nat} {hp hp' hp0:Nat→Option aj} {C:af} {B:Nat} {M:Nat→Prop} {w0:Start}
inductive dY (P:Program) (w:World) (β:Nat→Option Nat) (hp:Nat→Option aj):Place→Option Nat→aj→Prop
 | var {id:Nat} {T:TypeId} {cs HQ:List V}:hp id=some (.var T cs)→dY P w β hp (.blk id) (β id) (.var T HQ)
 | arr {id:Nat} {e:TypeId} {es:List V}:hp id=some (.arr e es false)→dY P w β hp (.blk id) (β id) (.arr e es false)
 | nest {id:Nat} {e:TypeId} {es:List V} {ao:List Nat}:hp id=some (.nest e es ao)→dY P w β hp (.blk id) (β id) (.nest e es [0,0,0])
 | row {id ver b b':Nat} {path:Path} {e0 e':TypeId} {es l:List V} {ao:List Nat}:hp id=some (.nest e0 es ao)→β id=some b→At P w b e0 es path b' e' l→xi P e'=true→
   0<path.length→path.length≤ao.length→bD ao (path.length-1)=ver→0<l.length→dY P w β hp (.row id ver path) (some b') (.arr e' l false)
 | map {id:Nat} {t:TypeId} {es:List V}:hp id=some (.map t es)→dY P w β hp (.blk id) (β id) (.map t es)
def yj (P:Program) (w:World) (β:Nat→Option Nat) (hp:Nat→Option aj) (ρ:List Place) (μ:Nat→Option Nat) (hp0:Nat→Option aj):Prop:=
 ∀j p,eb ρ j=some p→∃blk,hp0 j=some blk∧dY P w β hp p (μ j) blk
theorem nL: ∀{l m:List Place} {j:Nat} {p:Place},eb l j=some p→eb (l++m) j=some p
 | [],m,j,p,h=>by cases h
 | a::l,m,0,p,h=>h
 | a::l,m,j+1,p,h=>nL (l:=l) h
theorem kO: ∀{l:List Place} {j:Nat},eb l j=l[j]?
 | [],j=>by simp[eb]
 | a::l,0=>rfl
 | a::l,j+1=>by simp only[eb,kO,List.getElem?_cons_succ]
structure Ext (P:Program) (w:World) (I:Nat→Prop) (β:Nat→Option Nat) (hp:Nat→Option aj) (h h':Hand) (d:List V) (u:List (Nat × aj)):Prop where
 ds:h'.ds=h.ds++d
 upd:h'.upd=h.upd++u
 C8: ∀q∈u,xE hp q
 pl: ∃m,h'.pl=h.pl++m
 nodup:(h.pl.map Place.id).Nodup→(h'.pl.map Place.id).Nodup
theorem Ext.refl (h:Hand):Ext P w I β hp h h [] []:=⟨by simp,by simp,by simp,⟨[],by simp⟩,id⟩
theorem Ext.trans {h1 h2 h3:Hand} {d1 d2:List V} {u1 u2:List (Nat × aj)} (a:Ext P w I β hp h1 h2 d1 u1) (b:Ext P w I β hp h2 h3 d2 u2):Ext P w I β hp h1 h3 (d1++d2) (u1++u2):=by
 obtain ⟨m1,e1⟩:=a.pl
 obtain ⟨m2,e2⟩:=b.pl
 exact ⟨by rw[b.ds,a.ds,List.append_assoc],by rw[b.upd,a.upd,List.append_assoc],fun q hq=>(List.mem_append.1 hq).elim (a.C8 q) (b.C8 q),⟨m1++m2,by rw[e2,e1,List.append_assoc]⟩,fun h=>b.nodup (a.nodup h)⟩
theorem Ext.look {h h':Hand} {d:List V} {u:List (Nat × aj)} (a:Ext P w I β hp h h' d u) {j:Nat} {p:Place} (hj:eb h.pl j=some p):eb h'.pl j=some p:=by
 obtain ⟨m,e⟩:=a.pl
 rw[e]
 exact nL hj
theorem Ext.leaf (h:Hand) (x:V):Ext P w I β hp h {h with ds:=h.ds++[x]} [x] []:=⟨rfl,by simp,by simp,⟨[],by simp⟩,id⟩
theorem XY {α:Type} {ρ:List Place} {j:Nat} {p:Place} {k:List Place→Rd α} {r:α} {rd:List Nat} (h:(unify ρ j p k).run C hp=some (r,rd)) (hb: ∃id,p= .blk id∨∃ver path,p= .row id ver path):
  ∃jk,(k jk).run C hp=some (r,rd)∧(∃m,jk=ρ++m)∧eb jk j=some p∧((ρ.map Place.id).Nodup→(jk.map Place.id).Nodup):=by
 unfold unify at h
 cases hc:Nat.blt j ρ.length with
 | true=>
  rw[hc] at h
  obtain ⟨h1,h2⟩:=aF h
  refine ⟨ρ,h2,⟨[],by simp⟩,?_,id⟩
  unfold MK at h1
  split at h1
  ·rename_i a b he
   rw[Nat.beq_eq] at h1
   subst h1
   exact he
  ·cases h1
 | false=>
  rw[hc] at h
  obtain ⟨h1,h2⟩:=aF h
  simp only[Bool.and_eq_true,Nat.beq_eq,Bool.not_eq_true'] at h1
  obtain ⟨rfl,h3⟩:=h1
  refine ⟨ρ++[p],h2,⟨[p],rfl⟩,?_,fun hn=> ?_⟩
  ·rw[kO];simp
  ·rw[List.map_append,List.nodup_append]
   refine ⟨hn,by simp,fun a ha b hb=> ?_⟩
   simp only[List.map_cons,List.map_nil,List.mem_singleton] at hb
   subst hb
   intro e
   subst e
   rw[u9 ha] at h3
   cases h3
theorem td {α:Type} {h:Hand} {j:Nat} {p:Place} {k:List Place→Rd α} {r:α} {rd:List Nat} (hr:(unify h.pl j p k).run C hp=some (r,rd)) (ds:List V):
  ∃jk,(k jk).run C hp=some (r,rd)∧eb jk j=some p∧Ext P w I β hp h {h with pl:=jk,ds:=h.ds++ds} ds []:=by
 obtain ⟨jk,a,b,c,d⟩:=XY hr (by cases p with|blk id=>exact ⟨id,.inl rfl⟩|row id ver path=>exact ⟨id,.inr ⟨ver,path,rfl⟩⟩)
 exact ⟨jk,a,c,⟨rfl,by simp,by simp,b,d⟩⟩
theorem XZ {o:Option Nat} {blk:aj} {e:TypeId} {id j:Nat} {v:Value} (hv:an P w I β hp v (.whole e id)) (hl:dY P w β hp (.blk id) o blk) (hj:hp0 j=some blk) (jl:μ j=o):an P w I' μ hp0 v (.whole e j):=by
 cases hl with
 | var h=>
  cases hv with
  | ed h2=>rw[h] at h2;cases h2
  | dL h2=>rw[h] at h2;cases h2
  | whole h2=>rw[h] at h2;cases h2
  | eu h2=>rw[h] at h2;cases h2
 | arr h=>
  cases hv with
  | ed h2=>rw[h] at h2;cases h2
  | dL h2 hb=>rw[h] at h2;cases h2;exact .dL hj (jl.trans hb)
  | whole h2 hb a b c=>rw[h] at h2;cases h2;exact .whole hj (jl.trans hb) a b c
  | eu h2=>rw[h] at h2;cases h2
 | nest h=>
  cases hv with
  | ed h2=>rw[h] at h2;cases h2
  | dL h2=>rw[h] at h2;cases h2
  | whole h2=>rw[h] at h2;cases h2
  | eu h2 hb a b c=>rw[h] at h2;cases h2;exact .eu hj (jl.trans hb) a b c
 | map h=>
  cases hv with
  | ed h2=>rw[h] at h2;cases h2
  | dL h2=>rw[h] at h2;cases h2
  | whole h2=>rw[h] at h2;cases h2
  | eu h2=>rw[h] at h2;cases h2
theorem X0 {o:Option Nat} {blk:aj} {t:TypeId} {id j:Nat} {v:Value} (hv:an P w I β hp v (.bC t id)) (hl:dY P w β hp (.blk id) o blk) (hj:hp0 j=some blk) (jl:μ j=o):an P w I' μ hp0 v (.bC t j):=by
 cases hv with
 | gS h2=>cases hl<;>(rename_i h;rw[h] at h2;cases h2)
 | bC h2 hb=>
  cases hl<;>(rename_i h;rw[h] at h2;cases h2)
  exact .bC hj (jl.trans hb)
theorem X1 {o:Option Nat} {blk:aj} {e:TypeId} {id off n j:Nat} {v:Value} (hv:an P w I β hp v (.sub e id off n)) (hl:dY P w β hp (.blk id) o blk) (hj:hp0 j=some blk) (jl:μ j=o):an P w I' μ hp0 v (.sub e j off n):=by
 cases hl with
 | var h=>
  cases hv with
  | fV h2=>rw[h] at h2;cases h2
  | fI h2=>rw[h] at h2;cases h2
  | sub h2=>rw[h] at h2;cases h2
 | arr h=>
  cases hv with
  | fV h2=>rw[h] at h2;cases h2
  | fI h2 hb=>rw[h] at h2;cases h2;exact .fI hj (jl.trans hb)
  | sub h2 hb a b c=>rw[h] at h2;cases h2;exact .sub hj (jl.trans hb) a b c
 | nest h=>
  cases hv with
  | fV h2=>rw[h] at h2;cases h2
  | fI h2=>rw[h] at h2;cases h2
  | sub h2=>rw[h] at h2;cases h2
 | map h=>
  cases hv with
  | fV h2=>rw[h] at h2;cases h2
  | fI h2=>rw[h] at h2;cases h2
  | sub h2=>rw[h] at h2;cases h2
theorem Oh {o:Option Nat} {blk:aj} {id i c j:Nat} {v:Value} (hv:an P w I β hp v (.ptr id i c)) (hl:dY P w β hp (.blk id) o blk) (hj:hp0 j=some blk) (jl:μ j=o):an P w I' μ hp0 v (.ptr j i c):=by
 cases hl with
 | @var _ T0 cs HQ h=>
  obtain ⟨b,hb,rfl⟩:=hv.gB h (by simp)
  exact an.ptr (blk:= .var T0 HQ) hj (by simp) (jl.trans hb)
 | @arr _ e es h=>
  obtain ⟨b,hb,rfl⟩:=hv.gB h (by simp)
  exact an.ptr (blk:= .arr e es false) hj (by simp) (jl.trans hb)
 | @nest _ e es ao h=>
  obtain ⟨b,hb,rfl⟩:=hv.gB h (by simp)
  exact an.ptr (blk:= .nest e es [0,0,0]) hj (by simp) (jl.trans hb)
 | @map _ t es h=>
  obtain ⟨b,hb,rfl⟩:=hv.gB h (by simp)
  exact an.ptr (blk:= .map t es) hj (by simp) (jl.trans hb)
theorem X2 (cD: ∀id blk,hp id=some blk→dW P w I β hp (β id) blk) {id b i c:Nat} {e0 t:TypeId} {es l:List V} {ao:List Nat} {q:Path} {e:TypeId} {v:Value} (ae:hp id=some (.nest e0 es ao)) (hb:β id=some b)
  (ht:P.underlying t=some (.slice e)) (hc:ly P w b e0 es q i c t v (.list e l)) (hl:0<l.length): ∃b1 cap,v= .slice (some ⟨b1,0,none⟩) l.length cap∧cap*P.cellsOf e=bsize w b1∧l.length≤cap∧cap≤maxLen∧At P w b e0 es (q++[(i,c)]) b1 e l:=by
 obtain ⟨b2,e1,m,Ca,T,f,x,n1,n2,n3,n4,n5,n6⟩:=hc
 have hr:=cD _ _ ae
 cases hr with
 | nest az hr hn=>
  rw[hb] at az;cases az
  have hR:=hr _ _ _ _ n1
  obtain ⟨xI,c1,c2,c3⟩:=hR.cells
  rw[n2] at c1
  cases c1
  have sL:c<P.cellsOf e1:=by rw[←fu hR.ok];exact (List.getElem?_eq_some_iff.1 n4).1
  obtain ⟨v',d1,d2⟩:=c3 i c x t n3 n4 sL
  rw[n6] at d1
  cases d1
  rw[n5] at d2
  generalize hy:V.list e l=y at d2
  cases d2 with
  | fH a p=>unfold fD at a;rw[ht] at a;cases a
  | emp hu ha=>cases hy;simp at hl
  | row hu lA aZ b6 nB=>
   cases hy
   exact ⟨_,_,rfl,aZ,b6,nB,n1.snoc n2 n3 n4 ht n5 lA n6⟩
theorem X3 (S:aE P w I β hp B M w0) {o:Option Nat} {blk:aj} {e:TypeId} {id ver j:Nat} {path:Path} {v:Value} (hv:an P w I β hp v (.row e id ver path)) (hl:dY P w β hp (.row id ver path) o blk) (hj:hp0 j=some blk) (jl:μ j=o):an P w I' μ hp0 v (.whole e j):=by
 cases hl with
 | row h hb ha hf h1 h2 h3 h4=>
  obtain ⟨b2,q,i,c,t,l2,rfl,iq,ht,hc⟩:=hv.MR h h1 h2 h3
  rw[hb] at iq;cases iq
  obtain ⟨p1,p2⟩:=GS ha
  have jc:=hc
  obtain ⟨b3,e3,m3,Ca,T,f,x,n1,n2,n3,n4,n5,n6⟩:=jc
  obtain ⟨q1,q2⟩:=Cq n1 n3 n4 ht n5
  rw[p1] at q1
  rw[p2] at q2
  cases q1
  cases q2
  obtain ⟨b1,cap,rfl,m1,m2,m4,m5⟩:=X2 S.h.rel h hb ht hc h4
  have:=X4 ha m5
  subst this
  exact .whole hj jl m1 m2 m4
where
 X4 {b b1 b2:Nat} {e e1 e2:TypeId} {es l l2:List V} {q:Path} (h:At P w b e es q b1 e1 l) (h2:At P w b e es q b2 e2 l2):b2=b1:=(h.fun h2).1
theorem Oi (S:aE P w I β hp B M w0) {α:Type} {l:LS} {x:V} {h:Hand} {k:Hand→Rd α} {r:α} {rd:List Nat} {v:Value} (hr:(Ce P l x h k).run C hp=some (r,rd)) (hv:an P w I β hp v x):
  ∃h' eW d u,(k h').run C hp=some (r,eW)∧Ext P w I β hp h h' d u∧d.length=l.size∧
   ∀(I':Nat→Prop) (μ:Nat→Option Nat) (hp0:Nat→Option aj),(∀b,I b→I' b)→(∀q∈u,∀b,rk P w β hp q.1 b→I' b)→∀ρ m,ρ=h'.pl++m→yj P w β hp ρ μ hp0→∀rest,an P w I' μ hp0 v (ig l (d++rest)):=by
 have plain: ∀{x':V} {iQ:List Nat},(k {h with ds:=h.ds++[x']}).run C hp=some (r,iQ)→l.size=1→(∀I' μ hp0 rest,an P w I' μ hp0 v (ig l ([x']++rest)))→∃h' eW d u,(k h').run C hp=some (r,eW)∧Ext P w I β hp h h' d u∧d.length=l.size∧
   ∀(I':Nat→Prop) (μ:Nat→Option Nat) (hp0:Nat→Option aj),(∀b,I b→I' b)→(∀q∈u,∀b,rk P w β hp q.1 b→I' b)→∀ρ m,ρ=h'.pl++m→yj P w β hp ρ μ hp0→∀rest,an P w I' μ hp0 v (ig l (d++rest)):=
  fun hk hs hx=>⟨_,_,_,_,hk,Ext.leaf h _,hs.symm,fun I' μ hp0 _ _ _ _ _ _ rest=>hx I' μ hp0 rest⟩
 have oO: ∀{iQ:List Nat},(k h).run C hp=some (r,iQ)→l.size=0→(∀I' μ hp0 rest,an P w I' μ hp0 v (ig l rest))→∃h' eW d u,(k h').run C hp=some (r,eW)∧Ext P w I β hp h h' d u∧d.length=l.size∧
   ∀(I':Nat→Prop) (μ:Nat→Option Nat) (hp0:Nat→Option aj),(∀b,I b→I' b)→(∀q∈u,∀b,rk P w β hp q.1 b→I' b)→∀ρ m,ρ=h'.pl++m→yj P w β hp ρ μ hp0→∀rest,an P w I' μ hp0 v (ig l (d++rest)):=
  fun hk hs hx=>⟨_,_,_,_,hk,Ext.refl h,by simp[hs],fun I' μ hp0 _ _ _ _ _ _ rest=>hx I' μ hp0 rest⟩
 unfold Ce at hr
 cases l with
 | qR=>exact oO hr rfl fun _ _ _ _=> .undef
 | int kd=>
  cases x<;>simp only at hr<;>first|(cases hr;done)|skip
  obtain ⟨h1,h2⟩:=aF hr
  simp only[decide_eq_true_eq] at h1
  subst h1
  obtain rfl:=hv.ew
  exact plain h2 rfl fun _ _ _ _=> .int
 | bool=>
  cases x<;>simp only at hr<;>first|(cases hr;done)|skip
  obtain rfl:=hv.je
  exact plain hr rfl fun _ _ _ _=> .bool
 | str=>
  cases x<;>simp only at hr<;>first|(cases hr;done)|skip
  obtain ⟨s,rfl,hl⟩:=hv.lC
  exact plain hr rfl fun _ _ _ _=> .str hl
 | nilS e=>
  cases x<;>simp only at hr<;>first|(cases hr;done)|skip
  obtain ⟨h1,h2⟩:=aF hr
  cases hv with
  | nilS=>exact oO h2 rfl fun _ _ _ _=> .nilS
 | dx=>
  cases x<;>simp only at hr<;>first|(cases hr;done)|skip
  cases hv with
  | dx=>exact oO hr rfl fun _ _ _ _=> .dx
 | row e j cs=>
  cases x<;>simp only at hr<;>first|(cases hr;done)|skip
  rename_i e' id ver path
  obtain ⟨e0,es,ao,l0,ae,p1,p2,p3,hr⟩:=nA hr
  obtain ⟨h1,h2⟩:=aF hr
  simp only[Bool.and_eq_true,Nat.beq_eq,Nat.ble_eq] at h1
  obtain ⟨rfl,nE,X5⟩:=h1
  have:=vp nE
  subst this
  obtain ⟨jk,a,b,c⟩:=td (P:=P) (w:=w) (I:=I) (β:=β) h2 (path.map fun p=>dZ p.1)
  refine ⟨_,_,path.map fun p=>dZ p.1,[],a,c,by simp[LS.size],fun I' μ hp0 i1 i2 ρ m dD dh rest=> ?_⟩
  obtain ⟨blk,k1,k2⟩:=dh j _ (by rw[dD];exact nL b)
  obtain ⟨bb,q,i,cc,t,l,rfl,hb,ht,hc⟩:=hv.MR ae p1 p2 p3
  have pJ:blk= .nest e0 es [0,0,0]∧μ j=β id:=by
   generalize μ j=o at k2
   cases k2 with
   | var h=>rw[ae] at h;cases h
   | arr h=>rw[ae] at h;cases h
   | map h=>rw[ae] at h;cases h
   | nest h=>rw[ae] at h;cases h;exact ⟨rfl,rfl⟩
  obtain ⟨rfl,jl⟩:=pJ
  simp only[ig,C6]
  have hq:q.length<3:=by rw[List.length_append,List.length_singleton] at X5;omega
  refine .row k1 (jl.trans hb) (by simpa using hq) ?_ ht hc
  match q.length,hq with
  | 0,_=>rfl
  | 1,_=>rfl
  | 2,_=>rfl
 | cA j cs c=>cases hr
 | uG k n=>cases hr
 | dy t=>
  cases x<;>simp only at hr<;>first|(cases hr;done)|skip
  obtain ⟨h1,h2⟩:=aF hr
  cases hv with
  | dy=>exact oO h2 rfl fun _ _ _ _=> .dy
 | bC t j=>
  cases x<;>simp only at hr<;>first|(cases hr;done)|skip
  rename_i t' id
  obtain ⟨h1,h2⟩:=aF hr
  rw[Nat.beq_eq] at h1
  subst h1
  obtain ⟨jk,a,b,c⟩:=td (P:=P) (w:=w) (I:=I) (β:=β) h2 []
  refine ⟨_,_,[],[],a,by simpa using c,rfl,fun I' μ hp0 i1 i2 ρ m dD dh rest=> ?_⟩
  obtain ⟨blk,k1,k2⟩:=dh j _ (by rw[dD];exact nL b)
  exact X0 hv k2 k1 rfl
 | list e=>
  obtain ⟨⟨y,u⟩,l1,l2,h1,h2⟩:=j6 hr
  cases y<;>simp only at h2<;>first|(cases h2;done)|skip
  rename_i e' es
  obtain ⟨h3,h4⟩:=aF h2
  rw[Nat.beq_eq] at h3
  subst h3
  obtain ⟨p1,p2⟩:=Cr S.h.rel h1 hv
  exact ⟨_,_,[.list e es],u,h4,⟨rfl,rfl,p1,⟨[],by simp⟩,id⟩,rfl,fun I' μ hp0 i1 i2 _ _ _ _ rest=> .list (p2 I' i1 i2)⟩
 | whole e j=>
  cases x<;>simp only at hr<;>first|(cases hr;done)|skip
  ·rename_i e' id
   obtain ⟨h1,h2⟩:=aF hr
   rw[Nat.beq_eq] at h1
   subst h1
   obtain ⟨jk,a,b,c⟩:=td (P:=P) (w:=w) (I:=I) (β:=β) h2 []
   refine ⟨_,_,[],[],a,by simpa using c,rfl,fun I' μ hp0 i1 i2 ρ m dD dh rest=> ?_⟩
   obtain ⟨blk,k1,k2⟩:=dh j _ (by rw[dD];exact nL b)
   exact XZ hv k2 k1 rfl
  ·rename_i e' id ver path
   obtain ⟨h1,h2⟩:=aF hr
   rw[Nat.beq_eq] at h1
   subst h1
   obtain ⟨jk,a,b,c⟩:=td (P:=P) (w:=w) (I:=I) (β:=β) h2 []
   refine ⟨_,_,[],[],a,by simpa using c,rfl,fun I' μ hp0 i1 i2 ρ m dD dh rest=> ?_⟩
   obtain ⟨blk,k1,k2⟩:=dh j _ (by rw[dD];exact nL b)
   exact X3 S hv k2 k1 rfl
 | sub e j=>
  cases x<;>simp only at hr<;>first|(cases hr;done)|skip
  rename_i e' id o n
  obtain ⟨h1,h2⟩:=aF hr
  rw[Nat.beq_eq] at h1
  subst h1
  obtain ⟨jk,a,b,c⟩:=td (P:=P) (w:=w) (I:=I) (β:=β) h2 [dZ o,dZ n]
  refine ⟨_,_,[dZ o,dZ n],[],a,c,rfl,fun I' μ hp0 i1 i2 ρ m dD dh rest=> ?_⟩
  obtain ⟨blk,k1,k2⟩:=dh j _ (by rw[dD];exact nL b)
  simpa[ig,V.nth] using X1 (I':=I') hv k2 k1 rfl
 | ptr j=>
  cases x<;>simp only at hr<;>first|(cases hr;done)|skip
  rename_i id i c
  obtain ⟨jk,a,b,c'⟩:=td (P:=P) (w:=w) (I:=I) (β:=β) hr [dZ i,dZ c]
  refine ⟨_,_,[dZ i,dZ c],[],a,c',rfl,fun I' μ hp0 i1 i2 ρ m dD dh rest=> ?_⟩
  obtain ⟨blk,k1,k2⟩:=dh j _ (by rw[dD];exact nL b)
  simpa[ig,V.nth] using Oh (I':=I') hv k2 k1 rfl
 | ak j i c=>
  cases x<;>simp only at hr<;>first|(cases hr;done)|skip
  rename_i id i' c'
  obtain ⟨h1,h2⟩:=aF hr
  simp only[Bool.and_eq_true,Nat.beq_eq] at h1
  obtain ⟨rfl,rfl⟩:=h1
  obtain ⟨jk,a,b,c'⟩:=td (P:=P) (w:=w) (I:=I) (β:=β) h2 []
  refine ⟨_,_,[],[],a,by simpa using c',rfl,fun I' μ hp0 i1 i2 ρ m dD dh rest=> ?_⟩
  obtain ⟨blk,k1,k2⟩:=dh j _ (by rw[dD];exact nL b)
  exact Oh hv k2 k1 rfl
end
end Go.AM
namespace Go.AM
section
variable {P:Program} {A:cB} {w w':World} {I I' I2:Nat→Prop} {μ β au:Nat→Option Nat} {hp hp' hp0:Nat→Option aj} {C:af} {B:Nat} {M:Nat→Prop} {w0:Start}
def lJ (P:Program) (w:World) (I:Nat→Prop) (β:Nat→Option Nat) (hp:Nat→Option aj) (h':Hand) (u:List (Nat × aj)) (K:(Nat→Prop)→(Nat→Option Nat)→(Nat→Option aj)→Prop):Prop:=
 ∀(I':Nat→Prop) (μ:Nat→Option Nat) (hp0:Nat→Option aj),(∀b,I b→I' b)→(∀q∈u,∀b,rk P w β hp q.1 b→I' b)→∀ρ m,ρ=h'.pl++m→yj P w β hp ρ μ hp0→K I' μ hp0
theorem lJ.later {h h':Hand} {d:List V} {u u':List (Nat × aj)} {K:(Nat→Prop)→(Nat→Option Nat)→(Nat→Option aj)→Prop} (t:lJ P w I β hp h u K) (e:Ext P w I β hp h h' d u'):lJ P w I β hp h' (u++u') K:=by
 obtain ⟨m1,e1⟩:=e.pl
 exact fun I' μ hp0 i1 i2 ρ m dD dh=>t I' μ hp0 i1 (fun q hq=>i2 q (List.mem_append.2 (.inl hq))) ρ (m1++m) (by rw[dD,e1,List.append_assoc]) dh
theorem lJ.more {h:Hand} {u u':List (Nat × aj)} {K:(Nat→Prop)→(Nat→Option Nat)→(Nat→Option aj)→Prop} (t:lJ P w I β hp h u K):lJ P w I β hp h (u'++u) K:=
 fun I' μ hp0 i1 i2 ρ m dD dh=>t I' μ hp0 i1 (fun q hq=>i2 q (List.mem_append.2 (.inr hq))) ρ m dD dh
theorem C9 (S:aE P w I β hp B M w0) {α:Type}: ∀{ls:List LS} {xs:List V} {h:Hand} {k:Hand→Rd α} {r:α} {rd:List Nat} {vs:List Value},(uP P ls xs h k).run C hp=some (r,rd)→vs.length=xs.length→
  (∀(j:Nat) v x,vs[j]? =some v→xs[j]? =some x→an P w I β hp v x)→
  ∃h' eW d u,(k h').run C hp=some (r,eW)∧Ext P w I β hp h h' d u∧d.length=jz ls∧ls.length=xs.length∧
   lJ P w I β hp h' u fun I' μ hp0=> ∀rest,(gL ls (d++rest)).length=xs.length∧∀(j:Nat) v y,vs[j]? =some v→(gL ls (d++rest))[j]? =some y→an P w I' μ hp0 v y
 | [],[],h,k,r,rd,vs,hr,hl,hv=>⟨h,rd,[],[],hr,Ext.refl h,rfl,rfl,fun I' μ hp0 _ _ _ _ _ _ rest=>⟨rfl,fun j v y _ hy=>by simp[gL] at hy⟩⟩
 | [],_::_,h,k,r,rd,vs,hr,hl,hv=>by cases hr
 | _::_,[],h,k,r,rd,vs,hr,hl,hv=>by cases hr
 | l::ls,x::xs,h,k,r,rd,vs,hr,hl,hv=>by
  cases vs with
  | nil=>simp at hl
  | cons v vs=>
   simp only[uP] at hr
   obtain ⟨h1,iQ,d1,u1,a1,a2,a3,a4⟩:=Oi S hr (hv 0 v x rfl rfl)
   obtain ⟨h2,rA,d2,u2,b1,b2,b3,b5,b4⟩:=C9 S a1 (by simpa using hl) (vs:=vs) (fun j v x hj hx=>hv (j+1) v x (by simpa using hj) (by simpa using hx))
   have X6:lJ P w I β hp h1 u1 fun I' μ hp0=> ∀rest,an P w I' μ hp0 v (ig l (d1++rest)):=a4
   refine ⟨h2,rA,d1++d2,u1++u2,b1,a2.trans b2,by simp only[List.length_append,jz];omega,by simp[b5],fun I' μ hp0 i1 i2 ρ m dD dh rest=> ?_⟩
   have k1:=(X6.later b2) I' μ hp0 i1 i2 ρ m dD dh (d2++rest)
   obtain ⟨k2,k3⟩:=b4.more I' μ hp0 i1 i2 ρ m dD dh rest
   simp only[gL]
   rw[show (d1++d2++rest).drop l.size=d2++rest by rw[List.append_assoc];exact mE a3,List.append_assoc]
   refine ⟨by simp[k2],fun j v' y hj hy=> ?_⟩
   cases j with
   | zero=>simp at hj hy;subst hj;subst hy;exact k1
   | succ j=>exact k3 j v' y (by simpa using hj) (by simpa using hy)
theorem X7 (S:aE P w I β hp B M w0) {α:Type} {s:VS} {x:V} {h:Hand} {k:Hand→Rd α} {r:α} {rd:List Nat} {v:Value} (hr:(xm P s x h k).run C hp=some (r,rd)) (hv:an P w I β hp v x):
  ∃h' eW d u,(k h').run C hp=some (r,eW)∧Ext P w I β hp h h' d u∧d.length=s.size∧
   lJ P w I β hp h' u fun I' μ hp0=> ∀rest,an P w I' μ hp0 v (jZ s (d++rest)):=by
 cases s with
 | one l=>
  simp only[xm] at hr
  obtain ⟨h1,iQ,d1,u1,a1,a2,a3,a4⟩:=Oi S hr hv
  exact ⟨h1,iQ,d1,u1,a1,a2,a3,a4⟩
 | agg ls=>
  cases x<;>simp only[xm] at hr<;>first|(cases hr;done)|skip
  rename_i xs
  obtain ⟨cs,rfl,e1,e2⟩:=hv.j7
  obtain ⟨h1,iQ,d1,u1,a1,a2,a3,a5,a4⟩:=C9 S hr (vs:=cs.toList) (by simpa using e1) (fun j v x hj hx=>e2 j v x (by simpa using hj) hx)
  refine ⟨h1,iQ,d1,u1,a1,a2,a3,fun I' μ hp0 i1 i2 ρ m dD dh rest=> ?_⟩
  obtain ⟨k1,k2⟩:=a4 I' μ hp0 i1 i2 ρ m dD dh rest
  exact .agg (by rw[k1];exact e1) fun j v y hj hy=>k2 j v y (by simpa using hj) hy
 | bh ls=>cases x<;>cases hr
 | pref ts ls=>cases x<;>cases hr
 | fn f a b=>
  cases x<;>simp only[xm] at hr<;>first|(cases hr;done)|skip
  rename_i f' xs ys
  obtain ⟨hc,nM⟩:=aF hr
  clear hr
  rw[Nat.beq_eq] at hc
  subst hc
  cases hv with
  | @fn _ fs cs _ _ q1 q2 q3 q4=>
   obtain ⟨h1,iQ,d1,u1,a1,a2,a3,a5,a4⟩:=C9 S nM (vs:=fs.toList) (by simpa using q1) (fun j v x hj hx=>q2 j v x (by simpa using hj) hx)
   obtain ⟨h2,rA,d2,u2,b1,b2,b3,b5,b4⟩:=C9 S a1 (vs:=cs.toList) (by simpa using q3) (fun j v x hj hx=>q4 j v x (by simpa using hj) hx)
   refine ⟨h2,rA,d1++d2,u1++u2,b1,a2.trans b2,by simp only[List.length_append,VS.size];omega,fun I' μ hp0 i1 i2 ρ m dD dh rest=> ?_⟩
   obtain ⟨k1,k2⟩:=(a4.later b2) I' μ hp0 i1 i2 ρ m dD dh (d2++rest)
   obtain ⟨k3,k4⟩:=b4.more I' μ hp0 i1 i2 ρ m dD dh rest
   simp only[jZ]
   rw[show (d1++d2++rest).drop (jz a)=d2++rest by rw[List.append_assoc];exact mE a3,List.append_assoc]
   exact .fn (by rw[k1];exact q1) (fun j v y hj hy=>k2 j v y (by simpa using hj) hy) (by rw[k3];exact q3) (fun j v y hj hy=>k4 j v y (by simpa using hj) hy)
theorem HR (S:aE P w I β hp B M w0) {α:Type}: ∀{ls:List VS} {xs:List V} {h:Hand} {k:Hand→Rd α} {r:α} {rd:List Nat} {vs:List Value},(xn P ls xs h k).run C hp=some (r,rd)→vs.length=xs.length→
  (∀(j:Nat) v x,vs[j]? =some v→xs[j]? =some x→an P w I β hp v x)→
  ∃h' eW d u,(k h').run C hp=some (r,eW)∧Ext P w I β hp h h' d u∧d.length=q0 ls∧ls.length=xs.length∧
   lJ P w I β hp h' u fun I' μ hp0=> ∀rest,(fp ls (d++rest)).length=xs.length∧∀(j:Nat) v y,vs[j]? =some v→(fp ls (d++rest))[j]? =some y→an P w I' μ hp0 v y
 | [],[],h,k,r,rd,vs,hr,hl,hv=>⟨h,rd,[],[],hr,Ext.refl h,rfl,rfl,fun I' μ hp0 _ _ _ _ _ _ rest=>⟨rfl,fun j v y _ hy=>by simp[fp] at hy⟩⟩
 | [],_::_,h,k,r,rd,vs,hr,hl,hv=>by cases hr
 | _::_,[],h,k,r,rd,vs,hr,hl,hv=>by cases hr
 | l::ls,x::xs,h,k,r,rd,vs,hr,hl,hv=>by
  cases vs with
  | nil=>simp at hl
  | cons v vs=>
   simp only[xn] at hr
   obtain ⟨h1,iQ,d1,u1,a1,a2,a3,a4⟩:=X7 S hr (hv 0 v x rfl rfl)
   obtain ⟨h2,rA,d2,u2,b1,b2,b3,b5,b4⟩:=HR S a1 (by simpa using hl) (vs:=vs) (fun j v x hj hx=>hv (j+1) v x (by simpa using hj) (by simpa using hx))
   refine ⟨h2,rA,d1++d2,u1++u2,b1,a2.trans b2,by simp only[List.length_append,q0];omega,by simp[b5],fun I' μ hp0 i1 i2 ρ m dD dh rest=> ?_⟩
   have k1:=(a4.later b2) I' μ hp0 i1 i2 ρ m dD dh (d2++rest)
   obtain ⟨k2,k3⟩:=b4.more I' μ hp0 i1 i2 ρ m dD dh rest
   simp only[fp]
   rw[show (d1++d2++rest).drop l.size=d2++rest by rw[List.append_assoc];exact mE a3,List.append_assoc]
   refine ⟨by simp[k2],fun j v' y hj hy=> ?_⟩
   cases j with
   | zero=>simp at hj hy;subst hj;subst hy;exact k1
   | succ j=>exact k3 j v' y (by simpa using hj) (by simpa using hy)
def Db:List BS→Nat
 | []=>0
 | b::l=>b.size+Db l
theorem Oj: ∀{b:Nat} {e e':TypeId} {es:List V} {v:V},(∀q b' e' m,At P w b e es q b' e' m→iK P w I b' e' m)→∀(path:Path),jx P e path=some e'→ic P e es path=some v→0<v.toList.length→
  ∃b1,At P w b e es path b1 e' v.toList
 | b,e,e',es,v,cg,[],ht,hv,hl=>by
  simp only[jx,Option.some.injEq] at ht
  simp only[ic,Option.some.injEq] at hv
  subst ht;subst hv
  exact ⟨b,.here⟩
 | b,e,e',es,v,cg,(i,c)::q,ht,hv,hl=>by
  simp only[jx] at ht
  simp only[ic] at hv
  obtain ⟨x,hx,hv⟩:=bind_some hv
  cases HS:(jx.xd P e)[c]? with
  | none=>rw[HS] at ht;cases ht
  | some t=>
   rw[HS] at ht
   simp only at ht
   have Dc:(aU P e)[c]? =some t:=HS
   cases hu:P.underlying t with
   | none=>rw[hu] at ht;cases ht
   | some d=>
    rw[hu] at ht
    cases d<;>simp only at ht<;>first|(cases ht;done)|skip
    rename_i e1
    rw[mq Dc] at hv
    have hR:=cg _ _ _ _ .here
    obtain ⟨Ca,c1,c2,c3⟩:=hR.cells
    have sL:c<P.cellsOf e:=by rw[←fu hR.ok];exact (List.getElem?_eq_some_iff.1 Dc).1
    obtain ⟨u,d1,d2⟩:=c3 i c x t hx Dc sL
    rw[d2.rm] at hv
    generalize hy:bJ P e x c=y at d2 hv
    cases d2 with
    | fH a p=>unfold fD at a;rw[hu] at a;cases a
    | @emp e2 a cap oP ha=>
     rw[hu] at oP;cases oP
     simp only at hv
     cases q with
     | nil=>simp only[ic,Option.some.injEq] at hv;subst hv;simp[V.toList] at hl
     | cons a q=>simp[ic] at hv
    | @row e2 bZ b2 cap oP lA aZ b6 nB=>
     rw[hu] at oP;cases oP
     simp only at hv
     have gT: ∀{q b' e' aI},At P w b2 e1 bZ q b' e' aI→At P w b e es ((i,c)::q) b' e' aI:=fun h=> .step c1 hx Dc hu hy lA d1 h
     obtain ⟨b1,kL⟩:=Oj (fun q b' e' m h=>cg _ _ _ _ (gT h)) q ht hv hl
     exact ⟨b1,gT kL⟩
theorem Ol (S:aE P w I β hp B M w0) {α:Type}: ∀{bs:List BS} {j:Nat} {h:Hand} {k:Hand→Rd α} {r:α} {rd:List Nat},(pz P bs j h k).run C hp=some (r,rd)→
  ∃h' eW d u,(k h').run C hp=some (r,eW)∧Ext P w I β hp h h' d u∧d.length=Db bs∧
   ∀rest,(eK bs (d++rest)).length=bs.length∧∃o:Nat→Option Nat,
    (∀(i:Nat) blk,(eK bs (d++rest))[i]? =some blk→∃p,eb h'.pl (j+i)=some p∧dY P w β hp p (o i) blk)∧
    lJ P w I β hp h' u fun I' μ hp0=> ∀(i:Nat) blk,(eK bs (d++rest))[i]? =some blk→(∀b,bA P w (o i) blk b→¬I' b)→dW P w I' μ hp0 (o i) blk
 | [],j,h,k,r,rd,hr=>⟨h,rd,[],[],hr,Ext.refl h,rfl,fun rest=>⟨rfl,fun _=>none,fun i blk hb=>by simp[eK] at hb,fun I' μ hp0 _ _ _ _ _ _ i blk hb=>by simp[eK] at hb⟩⟩
 | b::bs,j,h,k,r,rd,hr=>by
  simp only[pz] at hr
  have fin: ∀{h1:Hand} {iQ:List Nat} {d1:List V} {u1:List (Nat × aj)} {o1:Option Nat} {p:Place},(pz P bs (j+1) h1 k).run C hp=some (r,iQ)→Ext P w I β hp h h1 d1 u1→d1.length=b.size→eb h.pl j=some p→
    (∀rest,dY P w β hp p o1 (fE b (d1++rest)))→(∀rest,lJ P w I β hp h1 u1 fun I' μ hp0=>(∀bb,bA P w o1 (fE b (d1++rest)) bb→¬I' bb)→dW P w I' μ hp0 o1 (fE b (d1++rest)))→
    ∃h' eW d u,(k h').run C hp=some (r,eW)∧Ext P w I β hp h h' d u∧d.length=Db (b::bs)∧
     ∀rest,(eK (b::bs) (d++rest)).length=(b::bs).length∧∃o:Nat→Option Nat,
      (∀(i:Nat) blk,(eK (b::bs) (d++rest))[i]? =some blk→∃p,eb h'.pl (j+i)=some p∧dY P w β hp p (o i) blk)∧
      lJ P w I β hp h' u fun I' μ hp0=> ∀(i:Nat) blk,(eK (b::bs) (d++rest))[i]? =some blk→(∀b,bA P w (o i) blk b→¬I' b)→dW P w I' μ hp0 (o i) blk:=by
   intro h1 iQ d1 u1 o1 p hk he hd bx hl ht
   obtain ⟨h2,rA,d2,u2,b1,b2,b3,b4⟩:=Ol S hk
   refine ⟨h2,rA,d1++d2,u1++u2,b1,he.trans b2,by simp only[List.length_append,Db];omega,fun rest=> ?_⟩
   obtain ⟨c1,o,c2,c3⟩:=b4 rest
   simp only[eK]
   rw[show (d1++d2++rest).drop b.size=d2++rest by rw[List.append_assoc];exact mE hd,List.append_assoc]
   refine ⟨by simp[c1],fun i=>match i with|0=>o1|i+1=>o i,fun i blk hb=> ?_,fun I' μ hp0 i1 i2 ρ m dD dh i blk hb cO=> ?_⟩
   ·cases i with
    | zero=>
     simp at hb
     subst hb
     exact ⟨p,b2.look (he.look bx),hl _⟩
    | succ i=>
     obtain ⟨q,e1,e2⟩:=c2 i blk (by simpa using hb)
     exact ⟨q,by rw[show j+(i+1)=j+1+i by omega];exact e1,e2⟩
   ·cases i with
    | zero=>
     simp at hb
     subst hb
     exact ((ht _).later b2) I' μ hp0 i1 i2 ρ m dD dh cO
    | succ i=>exact c3.more I' μ hp0 i1 i2 ρ m dD dh i blk (by simpa using hb) cO
  cases bx:eb h.pl j with
  | none=>rw[bx] at hr;cases hr
  | some p=>
   rw[bx] at hr
   cases p with
   | blk id=>
    obtain ⟨l1,hr⟩:=run_get hr
    cases ae:hp id with
    | none=>rw[ae] at hr;cases hr
    | some blk=>
     rw[ae] at hr
     cases blk with
     | dead=>cases hr
     | var T0 cs=>
      cases b<;>simp only at hr<;>first|(cases hr;done)|skip
      rename_i T1 ss
      obtain ⟨hT,X8⟩:=aF hr
      clear hr
      rw[Nat.beq_eq] at hT
      subst hT
      have cD:=S.h.rel id _ ae
      generalize ho:β id=o at cD
      cases cD with
      | @var _ bb Ca T hb hh hs hI hx fX=>
       obtain ⟨h1,iQ,d1,u1,a1,a2,a3,a5,a4⟩:=HR S X8 (vs:=Ca.toList) (by simpa using hs) (fun j v x hj cw=>hx j v x (by simpa using hj) cw)
       refine fin (o1:=β id) a1 a2 a3 bx (fun rest=> .var ae) fun rest I' μ hp0 i1 i2 ρ m dD dh cO=> ?_
       obtain ⟨k1,k2⟩:=a4 I' μ hp0 i1 i2 ρ m dD dh rest
       exact .var (ho.trans hb) hh (by rw[k1];exact hs) (cO _ (.root (by simp[fE]) (ho.trans hb))) (fun i v y hi hy=>k2 i v y (by simpa using hi) hy) fX
     | arr e' es fz=>
      cases fz with
      | true=>cases hr
      | false=>
       cases b with
       | arr e fz=>
        cases fz with
        | true=>cases hr
        | false=>
         obtain ⟨hc,nM⟩:=aF hr
         clear hr
         rw[Nat.beq_eq] at hc
         subst hc
         refine fin (d1:=[.list e es]) (o1:=β id) nM (Ext.leaf h _) rfl bx (fun rest=>dY.arr ae) fun rest I' μ hp0 i1 i2 ρ m dD dh cO=> ?_
         change dW P w I' μ hp0 (β id) (.arr e es false)
         have cD:=S.h.rel id _ ae
         generalize ho:β id=o at cD cO⊢
         cases cD with
         | dM hb=>exact .dM hb
         | arr a1 a2 a3 a4 a5 a6 a7=>
          refine .arr a1 a2 a3 a4 (fun h=>by cases h) (fun _=>cO _ (.root (by simp[fE]) a2)) fun i j x t' y1 y2 y3=> ?_
          obtain ⟨v,z1,z2⟩:=a7 i j x t' y1 y2 y3
          exact ⟨v,z1,z2.mono i1 fun _ _=>rfl⟩
       | _=>cases hr
     | nest e' es ao=>
      cases b with
      | nest e=>
       obtain ⟨hc,nM⟩:=aF hr
       clear hr
       rw[Nat.beq_eq] at hc
       subst hc
       refine fin (d1:=[.list e es]) (o1:=β id) nM (Ext.leaf h _) rfl bx (fun rest=>dY.nest ae) fun rest I' μ hp0 i1 i2 ρ m dD dh cO=> ?_
       have Om: ∀bb,bA P w (β id) (.nest e es [0,0,0]) bb→¬I' bb:=cO
       change dW P w I' μ hp0 (β id) (.nest e es [0,0,0])
       have cD:=S.h.rel id _ ae
       generalize ho:β id=o at cD Om⊢
       cases cD with
       | nest hb cg nF=>
        refine .nest hb (fun q b' e1 m1 hq=> ?_) nF
        obtain ⟨ok,⟨Ca,c1,c2,c3⟩,nI⟩:=cg q b' e1 m1 hq
        refine ⟨ok,⟨Ca,c1,c2,fun i j x t' y1 y2 y3=> ?_⟩,Om _ (.row hb hq)⟩
        obtain ⟨v,z1,z2⟩:=c3 i j x t' y1 y2 y3
        exact ⟨v,z1,z2.mono i1 (fun _ _=>rfl) fun _ _ _ _ _=>rfl⟩
      | _=>cases hr
     | map t' es=>
      cases b with
      | map t=>
       obtain ⟨hc,nM⟩:=aF hr
       clear hr
       rw[Nat.beq_eq] at hc
       subst hc
       refine fin (d1:=[.list t es]) (o1:=β id) nM (Ext.leaf h _) rfl bx (fun rest=>dY.map ae) fun rest I' μ hp0 i1 i2 ρ m dD dh cO=> ?_
       change dW P w I' μ hp0 (β id) (.map t es)
       have cD:=S.h.rel id _ ae
       generalize ho:β id=o at cD cO⊢
       cases cD with
       | map a1 a2 a3 a4 a5 a6 a7=>exact .map a1 a2 a3 a4 (cO _ (.root (by simp[fE]) a2)) a6 a7
      | _=>cases hr
   | row id ver path=>
    obtain ⟨e0,es,ao,l1,k1,k2,k3,k4,k5⟩:=nA hr
    obtain ⟨e',vv,m1,m2,m3⟩:=uY k5
    cases b with
    | arr e fz=>
     cases fz with
     | true=>cases m3
     | false=>
      obtain ⟨hc,m4⟩:=aF m3
      clear m3
      simp only[Bool.and_eq_true,Nat.beq_eq,Nat.blt_eq] at hc
      obtain ⟨rfl,yk,lA⟩:=hc
      have cD:=S.h.rel id _ k1
      cases hb:β id with
      | none=>
       rw[hb] at cD
       cases cD with
       | nest az _ _=>cases az
      | some b0=>
       rw[hb] at cD
       cases cD with
       | nest az cg nF=>
        cases az
        obtain ⟨b1,dt⟩:=Oj cg path m1 m2 lA
        refine fin (d1:=[.list e vv.toList]) (o1:=some b1) m4 (Ext.leaf h _) rfl bx (fun rest=>dY.row k1 hb dt yk k2 k3 k4 lA) fun rest I' μ hp0 i1 i2 ρ m dD dh cO=> ?_
        change dW P w I' μ hp0 (some b1) (.arr e vv.toList false)
        obtain ⟨ok,⟨Ca,c1,c2,c3⟩,nI⟩:=cg _ _ _ _ dt
        refine .arr ok rfl c1 c2 (fun h=>by cases h) (fun _=>cO _ (.root (by simp[fE]) rfl)) fun i j x t' y1 y2 y3=> ?_
        obtain ⟨v,z1,z2⟩:=c3 i j x t' y1 y2 y3
        refine ⟨v,z1,?_⟩
        generalize bJ P e x j=y at z2⊢
        cases z2 with
        | fH _ p=>exact p.mono i1 fun _ _=>rfl
        | emp hu _=>exact absurd hu (On yk y2 _)
        | row hu _ _ _ _=>exact absurd hu (On yk y2 _)
    | _=>cases m3
where
 On {e t:TypeId} {j:Nat} (h:xi P e=true) (ht:(aU P e)[j]? =some t) (e':TypeId):P.underlying t≠some (.slice e'):=by
  intro hu
  have h2:=List.all_eq_true.1 h t (List.mem_of_getElem? ht)
  rw[hu] at h2
  cases h2
end
end Go.AM
