/-
  Functions of the program, lifted to plain data.
-/
import Derived.Great.BuildSlice
import Derived.Maps.Keyed
import Derived.WideKeyArr
import Derived.MapKept
import Derived.ChangeMaps4
import Derived.Carry
import Derived.Lib.AppendStr
import Derived.Laws.BytesString
import Derived.Lib.Builder
import Derived.Lib.UnsafeStr
import Derived.Test.YtmcdbnalaobmpaaDoorP1
set_option linter.unusedVariables false
set_option linter.unusedSimpArgs false
namespace Go.AM
section
variable {P:Program} {w w':World} {I I':Nat→Prop} {β ao:Nat→Option Nat} {hp hp':Nat→Option ag} {C:ae} {B:Nat} {M:Nat→Prop} {w0:Start}
theorem ZJ (S:aC P w I β hp B M w0) {t:TypeId} {a v:Value} {xa x:V} {r:R} {rd:List Nat} (ha:ah P w I β hp a xa) (hv:ah P w I β hp v x)
  (h:(Ij P t xa x).run C hp=some (r,rd)):pg P ((Instr.storeAt t a v).run P w) w I β hp B M w0 r:=by
 unfold Ij at h
 obtain ⟨h0,h⟩:=aD h
 simp only[Bool.and_eq_true,Nat.beq_eq] at h0
 obtain ⟨ht,hn⟩:=h0
 cases xa with
 | ptr id i c=>
  obtain ⟨l,h⟩:=run_get h
  cases aa:hp id with
  | none=>rw[aa] at h;cases h
  | some blk=>
   rw[aa] at h
   cases blk with
   | dead=>cases h
   | var T0 cs=>
    obtain ⟨Pr,h⟩:=aD h
    have mu:o5 P T0=true→0<c:=fun bP=>by
     rw[bP] at Pr
     simpa using Pr
    obtain ⟨b,hb,rfl⟩:=ha.gP aa (by simp)
    simp only[ag.sz,Nat.mul_zero,Nat.zero_add]
    cases pe:(yY P t cs&&eJ P t x) with
    | true=>
     dsimp only at h
     rw[pe] at h
     simp only[cond_true] at h
     obtain ⟨hc,h⟩:=aD h
     obtain rfl:=aI h
     simp only[Bool.and_eq_true,Nat.blt_eq] at hc pe
     obtain ⟨o1,o2⟩:=Pk hv pe.2
     have lp:=Zp pe.2
     refine Ph S aa hb ht hn (by rw[o2,lp];rfl) mu (fun j u y hu hy=> ?_) (by rw[o2];simp[o1]) (by rw[lp];simp;omega) (Pg _ _ _ _) (fun j y hy hj u hu=> ?_) (fun j y hy hj u hu=> ?_)
     ·rw[o2] at hu
      rw[lp] at hy
      cases j with
      | zero=>simp at hu hy;subst hu;subst hy;exact hv
      | succ j=>simp at hy
     ·rw[IX] at hy
      cases wO:cs[j]? with
      | none=>rw[wO] at hy;cases hy
      | some y0=>
       rw[wO] at hy
       simp only[Option.map_some,Option.some.injEq] at hy
       rw[lp] at hj
       simp only[List.length_singleton] at hj
       have bN:Nat.beq c (0+j)=false:=by
        cases hq:Nat.beq c (0+j) with
        | false=>rfl
        | true=>rw[Nat.beq_eq] at hq;omega
       rw[bN] at hy
       have:=O4 (c:=false) hv (hu y0 wO)
       rw[←hy]
       simpa using this
     ·rw[lp] at hj hu
      have ZK:j=0:=by simpa using hj
      subst ZK
      rw[IX] at hy
      cases wO:cs[c+0]? with
      | none=>rw[wO] at hy;cases hy
      | some y0=>
       rw[wO] at hy
       simp only[Option.map_some,Option.some.injEq] at hy
       have heq:Nat.beq c (0+(c+0))=true:=by rw[Nat.beq_eq];omega
       rw[heq] at hy
       have h2:ah P w I β hp u x:=hu x rfl
       have:sm true x y0=x:=Zq x y0
       rw[←hy,this]
       exact h2
    | false=>
     dsimp only at h
     rw[pe] at h
     simp only[cond_false] at h
     obtain ⟨hc,h⟩:=aD h
     simp only[Bool.and_eq_true,Nat.ble_eq] at hc
     obtain ⟨e1,e2⟩:=IV hv h
     obtain ⟨h1,l2,h⟩:=D2 h (vs:=v.cells.toList) (by simpa using e1) (fun j u y a b=>e2 j u y (by simpa using a) b)
     obtain rfl:=aI h
     refine Ph S aa hb ht hn e1 mu e2 h1 hc.2 (zG _ _ _ hc.2) (fun j y hy hj u hu=> ?_) (fun j y hy hj u hu=> ?_)
     ·unfold fS at hy
      rw[np _ _ _ _ hc.2] at hy
      rcases hj with hj|hj
      ·rw[if_pos hj] at hy;exact hu y hy
      ·rw[if_neg (by omega),if_neg (by omega)] at hy;exact hu y hy
     ·unfold fS at hy
      rw[np _ _ _ _ hc.2,if_neg (by omega),if_pos (by omega)] at hy
      rw[show c+j-c=j by omega] at hy
      exact hu y hy
   | arr e es fz=>
    cases fz with
    | true=>cases h
    | false=>
    obtain ⟨b,hb,rfl⟩:=ha.gP aa (by simp)
    obtain ⟨aw,h⟩:=aD h
    obtain ⟨⟨ys,fr⟩,l1,l2,bn,h⟩:=kG h
    obtain ⟨hc,h⟩:=aD h
    obtain ⟨x0,qB,h⟩:=ln h
    obtain rfl:=aI h
    simp only[Bool.and_eq_true,Bool.not_eq_true',Nat.ble_eq] at hc
    obtain ⟨dR,ZL,jz⟩:=hc
    have ph:v.cells.size=x.cells.length∧∀(j:Nat) u y,v.cells.toList[j]? =some u→x.cells[j]? =some y→ah P w I β hp u y:=by
     cases x with
     | agg xs=>
      obtain ⟨cs,rfl,h1,h2⟩:=hv.kH
      exact ⟨h1,fun j u y a b=>h2 j u y (by simpa[Value.cells] using a) b⟩
     | _=>
      simp only[V.cells] at bn jz⊢
      simp only[sk] at bn
      obtain ⟨⟨y1,u1⟩,l3,l4,hq,bn⟩:=kG bn
      obtain ⟨q1,q2⟩:=DR S.h.rel hq hv
      obtain ⟨⟨y2,u2⟩,l5,l6,pj,bn⟩:=kG bn
      cases pj
      have:=aI bn
      cases this
      obtain ⟨tl,tg⟩:=ue jz
      have fN:=tg 0 _ y1 (List.getElem?_eq_getElem (by rw[tl];exact Nat.one_pos)) rfl
      have fM:=q2 (iF P w I β hp u1) (fun _ h=> .inl h) (fun p hp b h=> .inr ⟨p,hp,h⟩)
      have ho:=fM.pure fN
      have Jd:v.cells= #[v]:=by cases ho<;>rfl
      rw[Jd]
      refine ⟨rfl,fun j u y hu hy=> ?_⟩
      cases j with
      | zero=>simp at hu hy;subst hu;subst hy;exact hv
      | succ j=>simp at hy
    obtain ⟨k1,k2,k3⟩:=IN S.h.rel bn (vs:=v.cells.toList) (by simpa using ph.1) ph.2
    obtain ⟨qz,S1⟩:=zx S k2
    have zN:bM hp fr id=some (.arr e es false):=by
     rcases tY (hp:=hp) (l:=fr) (id:=id) with h|⟨b',hm,_⟩
     ·exact h.trans aa
     ·exfalso
      have kJ:jT (fr.map (·.1)) id=true:=wG (List.mem_map.2 ⟨_,hm,rfl⟩)
      rw[kJ] at dR;cases dR
    have Ps:=k3 (iF P w I β hp fr) (fun _ h=> .inl h) (fun p hp b h=> .inr ⟨p,hp,h⟩)
    obtain ⟨tl,tg⟩:=ue jz
    have wA:=(j6 aw).1
    have uh:ys.length=v.cells.size:=by rw[k1,ph.1]
    have hcn:c+v.cells.size≤P.cellsOf e:=by rw[ph.1];exact ZL
    have hr:=S1.h.rel id _ zN
    cases hr with
    | dQ ay=>simp at qB
    | @arr _ _ _ b' Ca IU ay hh hs hf eo hx=>
     rw[hb] at ay
     cases ay
     have lq:i<es.length:=(List.getElem?_eq_some_iff.1 qB).1
     have hbound:i*P.cellsOf e+P.cellsOf e≤Ca.size:=by
      have:(i+1)*P.cellsOf e≤es.length*P.cellsOf e:=Nat.mul_le_mul_right _ lq
      rw[Nat.add_mul] at this
      omega
     simp only[ag.sz]
     have sI:i*P.cellsOf e+c+v.cells.size≤Ca.size:=by omega
     have cS: ¬iF P w I β hp fr b:=eo rfl
     have h1: ∀u∈v.cells.toList,u.oneCell'=true:=by
      intro u hu
      obtain ⟨j,hj⟩:=List.getElem?_of_mem hu
      have cZ:j<ys.length:=by rw[uh];simpa using (List.getElem?_eq_some_iff.1 hj).1
      have ow:j<(((flat P e).drop c).take x.cells.length).length:=by rw[tl];exact cZ
      exact (Ps j u ys[j] hj (List.getElem?_eq_getElem cZ)).one (tg j _ ys[j] (List.getElem?_eq_getElem ow) (List.getElem?_eq_getElem cZ))
     have da:=IW (t:=t) (o:=i*P.cellsOf e+c) (v:=v) ht (by rw[ph.1];exact hn.symm) hh sI h1
     have hlen:(Ca.toList.take (i*P.cellsOf e+c)++(v.cells.toList++Ca.toList.drop (i*P.cellsOf e+c+v.cells.toList.length))).length=Ca.size:=by
      rw[zG _ _ _ (by simpa using sI)];simp
     have fM:(parts P e x0).length=P.cellsOf e:=by rw[wD];exact fL aw
     have zH:=D3 S1 (blk':= .arr e (es.set i (ct P e (fS (parts P e x0) c ys))) false)
      (Cb:=(Ca.toList.take (i*P.cellsOf e+c)++(v.cells.toList++Ca.toList.drop (i*P.cellsOf e+c+v.cells.toList.length))).toArray) zN (by simp) ⟨rfl,by simp⟩ hb cS (by simp) hh (by simpa using hlen)
      (fun hle fb=> .arr aw rfl fb (by simp only[List.size_toArray,List.length_set];omega) (fun h=>by cases h) (fun _=>cS) fun i' j z t' hz ow hj=>by
       simp only[List.getElem?_toArray]
       rw[np _ _ _ _ (by simpa using sI)]
       simp only[Array.length_toList]
       rw[List.getElem?_set] at hz
       by_cases iI:i=i'
       ·subst iI
        rw[if_pos rfl,if_pos lq] at hz
        cases hz
        have Eb:j<(parts P e x0).length:=by omega
        have ui:(fS (parts P e x0) c ys)[j]? =if j<c then (parts P e x0)[j]? else if j<c+ys.length then ys[j-c]? else (parts P e x0)[j]? :=by
         unfold fS;exact np _ _ _ _ (by omega)
        by_cases qv:j<c
        ·rw[if_pos (by omega)]
         rw[if_pos qv] at ui
         obtain ⟨u,t2,a1,a2,a3⟩:=DZ hx aw qB (List.getElem?_eq_getElem Eb)
         rw[ow] at a1;cases a1
         refine ⟨u,by simpa using a2,?_⟩
         rw[qw (ui.trans (List.getElem?_eq_getElem Eb)) ow]
         exact a3.mono hle.dp hle.cf
        ·rw[if_neg qv] at ui
         by_cases bZ:j<c+ys.length
         ·rw[if_pos bZ] at ui
          rw[if_neg (by omega),if_pos (by omega)]
          have pk:j-c<ys.length:=by omega
          have Pt:j-c<v.cells.toList.length:=by simp;omega
          have akV:j-c<v.cells.size:=by omega
          refine ⟨v.cells.toList[j-c],?_,?_⟩
          ·rw[show i*P.cellsOf e+j-(i*P.cellsOf e+c)=j-c by omega]
           exact List.getElem?_eq_getElem Pt
          ·rw[qw (ui.trans (List.getElem?_eq_getElem pk)) ow]
           have ZM:(((flat P e).drop c).take x.cells.length)[j-c]? =some t':=by
            rw[List.getElem?_take_of_lt (by omega),List.getElem?_drop,show c+(j-c)=j by omega,←sF]
            exact ow
           exact ((Ps (j-c) _ ys[j-c] (List.getElem?_eq_getElem Pt) (List.getElem?_eq_getElem pk)).pure (tg (j-c) t' ys[j-c] ZM (List.getElem?_eq_getElem pk))).mono hle.dp hle.cf
         ·rw[if_neg bZ] at ui
          rw[if_neg (by omega),if_neg (by omega)]
          obtain ⟨u,t2,a1,a2,a3⟩:=DZ hx aw qB (List.getElem?_eq_getElem Eb)
          rw[ow] at a1;cases a1
          refine ⟨u,by simpa using a2,?_⟩
          rw[qw (ui.trans (List.getElem?_eq_getElem Eb)) ow]
          exact a3.mono hle.dp hle.cf
       ·rw[if_neg iI] at hz
        obtain ⟨u,a2,a3⟩:=hx i' j z t' hz ow hj
        have bN:i'*P.cellsOf e+j<i*P.cellsOf e+c∨i*P.cellsOf e+c+v.cells.size≤i'*P.cellsOf e+j:=by
         rcases Nat.lt_or_ge i' i with aM|po
         ·left
          have:(i'+1)*P.cellsOf e≤i*P.cellsOf e:=Nat.mul_le_mul_right _ aM
          rw[Nat.add_mul] at this
          omega
         ·right
          have:(i+1)*P.cellsOf e≤i'*P.cellsOf e:=Nat.mul_le_mul_right _ (by omega)
          rw[Nat.add_mul] at this
          omega
        refine ⟨u,?_,a3.mono hle.dp hle.cf⟩
        rcases bN with bN|bN
        ·rw[if_pos bN];simpa using a2
        ·rw[if_neg (by omega),if_neg (by omega)];simpa using a2)
     exact ⟨_,_,_,da,qz.trans zH.1,zH.2,rfl⟩
   | map _ _=>cases h
   | nest e es ai=>
    obtain ⟨b,hb,rfl⟩:=ha.gP aa (by simp)
    exact Pq S ht hn hv aa hb .here h
 | cE id ver path i c=>
  obtain ⟨e0,es,ai,l,aa,h1,h2,h3,h⟩:=om h
  obtain ⟨b,b1,e1,l1,hb,dq,rfl⟩:=ha.O1 aa h1 h2 h3
  exact Pq S ht hn hv aa hb dq h
 | _=>cases h
end
section
variable {P:Program} {w w':World} {I I':Nat→Prop} {β ao:Nat→Option Nat} {hp hp':Nat→Option ag} {C:ae} {B:Nat} {M:Nat→Prop} {w0:Start}
theorem Je: ∀{ts:List TypeId} {vs:List Value} {j:Nat} {y:V},(iZ P ts vs)[j]? =some y→∃t v,ts[j]? =some t∧vs[j]? =some v∧y=o4 P t v
 | [],vs,j,y,h=>by simp[iZ] at h
 | _::_,[],j,y,h=>by simp[iZ] at h
 | t::ts,v::vs,0,y,h=>by simp[iZ] at h;exact ⟨t,v,rfl,rfl,h.symm⟩
 | t::ts,v::vs,j+1,y,h=>by
  simp only[iZ,List.getElem?_cons_succ] at h
  obtain ⟨t',v',a,b,c⟩:=Je h
  exact ⟨t',v',by simpa using a,by simpa using b,c⟩
theorem Pu: ∀{ts:List TypeId} {vs:List Value},ts.length=vs.length→(iZ P ts vs).length=vs.length
 | [],[],_=>rfl
 | [],_::_,h=>by simp at h
 | _::_,[],h=>by simp at h
 | t::ts,v::vs,h=>by simp[iZ,Pu (ts:=ts) (vs:=vs) (by simpa using h)]
theorem j8 {e:TypeId} (h:cW P e=true): ∃i z,P.info? e=some i∧i.zero=some z∧i.size=P.cellsOf e∧z.cells.size=P.cellsOf e∧zeroCells P e=iZ P (flat P e) z.cells.toList:=by
 unfold cW at h
 simp only[Bool.and_eq_true,Nat.beq_eq,Nat.blt_eq] at h
 obtain ⟨h1,h2,_,h3⟩:=h
 cases hi:P.info? e with
 | none=>rw[hi] at h3;cases h3
 | some i=>
  rw[hi] at h3
  simp only[Option.bind_some] at h3
  cases hz:i.zero with
  | none=>rw[hz] at h3;cases h3
  | some z=>
   rw[hz] at h3
   simp only[Nat.beq_eq] at h3
   exact ⟨i,z,rfl,hz,by simp[Program.cellsOf,hi],h3,by simp[zeroCells,hi,hz]⟩
theorem Pv {e:TypeId} (h:cW P e=true): ∃i z,P.info? e=some i∧i.zero=some z∧z.cells.size=(zeroCells P e).length∧z.cells.size=P.cellsOf e∧
  ∀(j:Nat) v x,z.cells[j]? =some v→(zeroCells P e)[j]? =some x→ah P w I β hp v x:=by
 obtain ⟨i,z,h1,h2,h3,h4,h5⟩:=j8 h
 have hl:(flat P e).length=z.cells.toList.length:=by rw[(j6 h).1];simpa using h4.symm
 refine ⟨i,z,h1,h2,?_,h4,fun j v x hv hx=> ?_⟩
 ·rw[h5,Pu hl];simp
 ·rw[h5] at hx
  obtain ⟨t,v',_,wE,rfl⟩:=Je hx
  have:v'=v:=by
   have e1:z.cells[j]? =some v':=by simpa using wE
   rw[hv] at e1;exact (Option.some.inj e1).symm
  subst this
  exact ah.const t v'
theorem nr {nb:Nat} {b:ag} {v:V} {upd:List (Nat × ag)} {r:R} {rd:List Nat} (h:(ja nb b v upd).run C hp=some (r,rd)):hp nb=none∧r=⟨v,(nb,b)::upd⟩:=by
 obtain ⟨l,h⟩:=run_get h
 cases hn:hp nb with
 | none=>rw[hn] at h;exact ⟨rfl,(aI h).symm⟩
 | some x=>rw[hn] at h;cases h
theorem Pw (S:aC P w I β hp B M w0) {nb:Nat} {xs:List V} {C0:Array Value} {T:TypeId} (hn:hp nb=none) (hs:C0.size=xs.length)
  (hx: ∀(j:Nat) v x,C0[j]? =some v→xs[j]? =some x→ah P w I β hp v x) (gp:OW P w.heap.size T C0):
  Le P w I β hp (w.alloc (.cells C0 T)) I (aG β nb (some w.heap.size)) (aG hp nb (some (.var T xs)))∧aC P (w.alloc (.cells C0 T)) I (aG β nb (some w.heap.size)) (aG hp nb (some (.var T xs))) B M w0∧
  ah P (w.alloc (.cells C0 T)) I (aG β nb (some w.heap.size)) (aG hp nb (some (.var T xs))) (.pointer (some ⟨w.heap.size,0,none⟩)) (.ptr nb 0 0):=by
 obtain ⟨h1,h2⟩:=IP S (blk:= .var T xs) (c:=C0) (T:=T) hn (fun b' h=>(Option.some.inj (h.flat (by simp))).symm) (fun hle fb cS=> .var rfl fb hs cS (fun j v x a b=>(hx j v x a b).mono hle) gp)
 refine ⟨h1,h2,?_⟩
 have:=ah.ptr (P:=P) (w:=w.alloc (.cells C0 T)) (I:=I) (β:=aG β nb (some w.heap.size)) (hp:=aG hp nb (some (.var T xs))) (i:=0) (c:=0) (blk:= .var T xs) (cY _ _ _) (by simp) (cY _ _ _)
 simpa using this
theorem ZN (S:aC P w I β hp B M w0) {e:TypeId} {nb:Nat} {r:R} {rd:List Nat}
  (h:(Rd.az (cW P e&&(!(o5 P e)||OS (zeroCells P e))) (ja nb (.var e (zeroCells P e)) (.ptr nb 0 0) [])).run C hp=some (r,rd)):dd P ((Instr.alloc e true (.tuple #[])).run P w) w I β hp B M w0 r:=by
 obtain ⟨aw,h⟩:=aD h
 rw[Bool.and_eq_true] at aw
 obtain ⟨aw,mu⟩:=aw
 obtain ⟨hn,rfl⟩:=nr h
 obtain ⟨i,z,h1,h2,h3,h4,h5⟩:=Pv (w:=w) (I:=I) (β:=β) (hp:=hp) aw
 obtain ⟨a,b,c⟩:=Pw S (T:=e) hn h3 h5 fun bP=>by
  rw[bP,Bool.not_true,Bool.false_or] at mu
  cases hz:zeroCells P e with
  | nil=>rw[hz] at mu;cases mu
  | cons y l=>
   rw[hz] at mu h3 h5
   cases y<;>first|(cases mu;done)|skip
   have aM:0<z.cells.size:=by rw[h3];simp
   have:=h5 0 z.cells[0] .dw (Array.getElem?_eq_getElem aM) rfl
   left
   rw[Array.getElem?_eq_getElem aM]
   generalize z.cells[0]=u at this
   cases this;rfl
 exact ⟨_,_,_,_,by simp[Instr.alloc,zeroValue,typeInfo,h1,h2,newVar,newRow],a,b,c⟩
theorem ZO (S:aC P w I β hp B M w0) {e:TypeId} {nb:Nat} {x:V} {v:Value} {r:R} {rd:List Nat} (hv:ah P w I β hp v x)
  (h:(Rd.az (!(o5 P e)) <| lh x.cells (ja nb (.var e x.cells) (.ptr nb 0 0) [])).run C hp=some (r,rd)):dd P ((Instr.box e v).run P w) w I β hp B M w0 r:=by
 obtain ⟨mu,h⟩:=aD h
 obtain ⟨e1,e2⟩:=IV hv h
 obtain ⟨_,l,h⟩:=D2 h (vs:=v.cells.toList) (by simpa using e1) (fun j u y a b=>e2 j u y (by simpa using a) b)
 obtain ⟨hn,rfl⟩:=nr h
 obtain ⟨a,b,c⟩:=Pw S (T:=e) hn e1 e2 fun bP=>by rw[bP] at mu;cases mu
 exact ⟨_,_,_,_,by simp[Instr.box,newVar,newRow],a,b,c⟩
theorem foldl_set (off:Nat): ∀(vs:List Value) (k:Nat) (cs:Array Value) (i:Nat),off+k+vs.length≤cs.size→
  ((vs.zipIdx k).foldl (fun cs p=>cs.setIfInBounds (off+p.2) p.1) cs)[i]? =if i<off+k then cs[i]? else if i<off+k+vs.length then vs[i-(off+k)]? else cs[i]?
 | [],k,cs,i,h=>by simp;intro h1 h2;omega
 | v::vs,k,cs,i,h=>by
  simp only[List.zipIdx_cons,List.foldl_cons]
  simp only[List.length_cons] at h⊢
  rw[foldl_set off vs (k+1) _ i (by simp;omega)]
  by_cases h1:i<off+k
  ·rw[if_pos (by omega),if_pos h1]
   rw[Array.getElem?_setIfInBounds_ne (by omega)]
  ·rw[if_neg h1]
   by_cases h2:i=off+k
   ·subst h2
    rw[if_pos (by omega),if_pos (by omega)]
    rw[Array.getElem?_setIfInBounds_self_of_lt (by omega)]
    simp
   ·rw[if_neg (by omega)]
    by_cases h3:i<off+k+(vs.length+1)
    ·rw[if_pos (by omega),if_pos h3,show i-(off+k)=(i-(off+(k+1)))+1 by omega]
     simp
    ·rw[if_neg (by omega),if_neg h3,Array.getElem?_setIfInBounds_ne (by omega)]
theorem Px (off:Nat): ∀(vs:List Value) (k:Nat) (cs:Array Value),((vs.zipIdx k).foldl (fun cs p=>cs.setIfInBounds (off+p.2) p.1) cs).size=cs.size
 | [],k,cs=>rfl
 | v::vs,k,cs=>by
  simp only[List.zipIdx_cons,List.foldl_cons]
  rw[Px off vs (k+1)]
  simp
theorem Py {cells:Array Value} {off:Nat} {v:Value} (h:off+v.cells.size≤cells.size) (i:Nat):
  (v.cells.zipIdx.foldl (fun cs (p:Value × Nat)=>cs.setIfInBounds (off+p.2) p.1) cells)[i]? =if i<off then cells[i]? else if i<off+v.cells.size then v.cells[i-off]? else cells[i]? :=by
 have:=foldl_set off v.cells.toList 0 cells i (by simpa using h)
 rw[←Array.foldl_toList]
 simpa[Array.toList_zipIdx] using this
theorem Pz {cells:Array Value} {off:Nat} {v:Value}:(v.cells.zipIdx.foldl (fun cs (p:Value × Nat)=>cs.setIfInBounds (off+p.2) p.1) cells).size=cells.size:=by
 have:=Px off v.cells.toList 0 cells
 rw[←Array.foldl_toList]
 simpa[Array.toList_zipIdx] using this
inductive wP (P:Program) (w:World) (I:Nat→Prop) (β:Nat→Option Nat) (hp:Nat→Option ag):List (Nat × Value)→List (Nat × V)→Prop
 | nil:wP P w I β hp [] []
 | cons {i:Nat} {v:Value} {x:V} {vs:List (Nat × Value)} {xs:List (Nat × V)}:v.cells.size=x.cells.length→(∀(j:Nat) u y,v.cells[j]? =some u→x.cells[j]? =some y→ah P w I β hp u y)→
   wP P w I β hp vs xs→wP P w I β hp ((i,v)::vs) ((i,x)::xs)
theorem PA (place:Nat→Option (Nat × Nat)): ∀{vs:List (Nat × Value)} {px:List (Nat × V)} {cells:Array Value} {xs ys:List V},wP P w I β hp vs px→cells.size=xs.length→
  (∀(j:Nat) v x,cells[j]? =some v→xs[j]? =some x→ah P w I β hp v x)→tJ place xs px=some ys→
  ∃pq:Array Value,Instr.fill place cells vs=some pq∧pq.size=ys.length∧∀(j:Nat) v x,pq[j]? =some v→ys[j]? =some x→ah P w I β hp v x
 | _,_,cells,xs,ys,.nil,hs,hx,h=>by
  simp only[tJ,Option.some.injEq] at h
  subst h
  exact ⟨cells,by simp[Instr.fill],hs,hx⟩
 | _,_,cells,xs,ys,@wP.cons _ _ _ _ _ i v x vs px h1 h2 h3,hs,hx,h=>by
  simp only[tJ] at h
  cases fM:place i with
  | none=>rw[fM] at h;cases h
  | some os=>
   obtain ⟨off,size⟩:=os
   rw[fM] at h
   simp only at h
   cases hc:(Nat.beq x.cells.length size&&Nat.ble (off+size) xs.length) with
   | false=>rw[hc] at h;cases h
   | true=>
    rw[hc] at h
    simp only[cond_true] at h
    simp only[Bool.and_eq_true,Nat.beq_eq,Nat.ble_eq] at hc
    have hv:off+v.cells.size≤cells.size:=by omega
    have hb:off+x.cells.length≤xs.length:=by omega
    have hl:(fS xs off x.cells).length=xs.length:=zG _ _ _ hb
    obtain ⟨pq,f1,f2,f3⟩:=PA place (cells:=v.cells.zipIdx.foldl (fun cs (p:Value × Nat)=>cs.setIfInBounds (off+p.2) p.1) cells) (xs:=fS xs off x.cells) h3 (by rw[Pz,hl,hs])
     (fun j u y hu hy=>by
      rw[Py hv] at hu
      unfold fS at hy
      rw[np _ _ _ _ hb] at hy
      by_cases j1:j<off
      ·rw[if_pos j1] at hu hy;exact hx j u y hu hy
      ·rw[if_neg j1] at hu hy
       by_cases j2:j<off+x.cells.length
       ·rw[if_pos (by omega)] at hu
        rw[if_pos j2] at hy
        exact h2 (j-off) u y hu hy
       ·rw[if_neg (by omega)] at hu
        rw[if_neg j2] at hy
        exact hx j u y hu hy) h
    refine ⟨pq,?_,f2,f3⟩
    simp only[Instr.fill,fM]
    rw[if_neg (by simp;omega)]
    exact f1
theorem ZP {t:TypeId} {parts:Array (Nat × Value)} {cells:Array Value} {z:Value} {i:TypeInfo} (hi:P.info? t=some i) (hz:i.zero=some z) (h:Instr.fill (placeOf P t) z.cells parts.toList=some cells) (ha:bE P t=true)
  (fM: ∀fs,P.underlying t=some (.struct fs)→(fs.toList.mapM fun f=>(P.info? f.type).map fun i=>(f.offset,i.size)).isSome=true) (qC: ∀n e,P.underlying t=some (.array n e)→(P.info? e).isSome=true):
  (Instr.build t parts).run P w= .ok (.agg cells) w:=by
 refine run_build w t parts cells ?_
 unfold Program.built
 unfold bE at ha
 rw[hi]
 split at ha
 ·rename_i fs hu
  have:=fM fs hu
  cases hm:fs.toList.mapM fun f=>(P.info? f.type).map fun i=>(f.offset,i.size) with
  | none=>rw[hm] at this;cases this
  | some places=>
   simp only[hu,hz,hm]
   have hq:placeOf P t=fun i=>places[i]? :=by simp[placeOf,hu,hm]
   rw[hq] at h
   simpa using h
 ·rename_i n e hu
  have:=qC n e hu
  cases jD:P.info? e with
  | none=>rw[jD] at this;cases this
  | some ie=>
   simp only[hu,hz,jD]
   have hq:placeOf P t=fun i=>some (i*ie.size,ie.size):=by simp[placeOf,hu,jD]
   rw[hq] at h
   exact h
 ·cases ha
theorem PB {α:Type}: ∀(xs ys:List V) (k:Rd α),lh (xs++ys) k=lh xs (lh ys k)
 | [],_,_=>rfl
 | x::xs,ys,k=>by simp only[List.cons_append,lh,PB xs ys k]
theorem PC {a:Act} {sl:Nat→V} (hs:kF P w I β hp a sl) {G:Nat→V} (hg:gM P G w I) (t:TypeId) {α:Type}: ∀{l:List (Nat × Operand)} {k:Rd α} {r:α} {rd:List Nat},
  (lh ((l.map fun p=>(aJ P G t sl p.2).cells).flatten) k).run C hp=some (r,rd)→
  wP P w I β hp (l.map fun p=>(p.1,a.eval p.2)) (l.map fun p=>(p.1,aJ P G t sl p.2))∧∃fc,k.run C hp=some (r,fc)
 | [],k,r,rd,h=>⟨.nil,rd,h⟩
 | (i,x)::l,k,r,rd,h=>by
  simp only[List.map_cons,List.flatten_cons,PB] at h
  obtain ⟨e1,e2⟩:=IV (hs.ev hg t x) h
  obtain ⟨_,l1,h⟩:=D2 h (vs:=(a.eval x).cells.toList) (by simpa using e1) (fun j u y a b=>e2 j u y (by simpa using a) b)
  obtain ⟨h1,h2⟩:=PC hs hg t h
  exact ⟨.cons e1 e2 h1,h2⟩
theorem ZQ (S:aC P w I β hp B M w0) {a:Act} {sl:Nat→V} (hs:kF P w I β hp a sl) {G:Nat→V} (hg:gM P G w I) {t ty:TypeId} {ps:Array (Nat × Operand)} {r:R} {rd:List Nat}
  (h:(Rd.az (cW P t&&(bE P t&&DD P t)) (lh ((ps.toList.map fun p=>(aJ P G ty sl p.2).cells).flatten)
   (wg (tJ (placeOf P t) (zeroCells P t) (ps.toList.map fun p=>(p.1,aJ P G ty sl p.2))) fun cs=> .ret ⟨.agg cs,[]⟩))).run C hp=some (r,rd)):
  dd P ((Instr.build t (ps.map fun (i,x)=>(i,a.eval x))).run P w) w I β hp B M w0 r:=by
 obtain ⟨aw,h⟩:=aD h
 simp only[Bool.and_eq_true] at aw
 obtain ⟨h1,l,h⟩:=PC hs hg ty h
 cases hf:tJ (placeOf P t) (zeroCells P t) (ps.toList.map fun p=>(p.1,aJ P G ty sl p.2)) with
 | none=>rw[hf] at h;cases h
 | some cs=>
  rw[hf] at h
  obtain rfl:=aI h
  obtain ⟨i,z,hi,hz,h3,h4,h5⟩:=Pv (w:=w) (I:=I) (β:=β) (hp:=hp) aw.1
  obtain ⟨cells,f1,f2,f3⟩:=PA (placeOf P t) h1 h3 h5 hf
  have PD:=aw.2.2
  refine .same S (v:= .agg cells) (ZP hi hz (by simpa using f1) aw.2.1 (fun fs hu=> ?_) (fun n e hu=> ?_)) (.agg f2 f3)
  ·simpa[DD,hu] using PD
  ·simpa[DD,hu] using PD
theorem ZR (cG: ∀id blk,hp id=some blk→dY P w I β hp (β id) blk) {x:V} {v:Value} {ys:List V} {fr:List (Nat × ag)} {rd:List Nat} {ts:List TypeId} (hv:ah P w I β hp v x)
  (h:(sk P x.cells).run C hp=some ((ys,fr),rd)) (ht:qe P ts ys=true):
  v.cells.size=x.cells.length∧∀(j:Nat) u y,v.cells.toList[j]? =some u→x.cells[j]? =some y→ah P w I β hp u y:=by
 cases x with
 | agg xs=>
  obtain ⟨cs,rfl,h1,h2⟩:=hv.kH
  exact ⟨h1,fun j u y a b=>h2 j u y (by simpa[Value.cells] using a) b⟩
 | _=>
  simp only[V.cells] at h⊢
  simp only[sk] at h
  obtain ⟨⟨y1,u1⟩,l3,l4,hq,h⟩:=kG h
  obtain ⟨q1,q2⟩:=DR cG hq hv
  obtain ⟨⟨y2,u2⟩,l5,l6,pj,h⟩:=kG h
  cases pj
  have:=aI h
  cases this
  obtain ⟨tl,tg⟩:=ue ht
  have fN:=tg 0 _ y1 (List.getElem?_eq_getElem (by rw[tl];exact Nat.one_pos)) rfl
  have fM:=q2 (iF P w I β hp u1) (fun _ h=> .inl h) (fun p hp b h=> .inr ⟨p,hp,h⟩)
  have ho:=fM.pure fN
  have Jd:v.cells= #[v]:=by cases ho<;>rfl
  rw[Jd]
  refine ⟨rfl,fun j u y hu hy=> ?_⟩
  cases j with
  | zero=>simp at hu hy;subst hu;subst hy;exact hv
  | succ j=>simp at hy
def wQ (P:Program) (w:World) (I:Nat→Prop) (e:TypeId) (cells:Array Value) (es:List V):Prop:=
 cells.size=es.length*P.cellsOf e∧∀(i j:Nat) (x:V) (t':TypeId),es[i]? =some x→(aO P e)[j]? =some t'→j<P.cellsOf e→∃v,cells[i*P.cellsOf e+j]? =some v∧Pure P w I t' v (bI P e x j)
theorem wQ.set {e:TypeId} {cells:Array Value} {es ys:List V} {i:Nat} {v:Value} (h:wQ P w I e cells es) (hi:i<es.length) (hv:v.cells.size=P.cellsOf e) (hy:ys.length=P.cellsOf e)
  (hr: ∀(j:Nat) (t':TypeId) (u:Value) (y:V),(aO P e)[j]? =some t'→v.cells[j]? =some u→ys[j]? =some y→Pure P w I t' u y):
  wQ P w I e (v.cells.zipIdx.foldl (fun cs (p:Value × Nat)=>cs.setIfInBounds (i*P.cellsOf e+p.2) p.1) cells) (es.set i (ct P e ys)):=by
 obtain ⟨h1,h2⟩:=h
 have hb:i*P.cellsOf e+v.cells.size≤cells.size:=by
  have:(i+1)*P.cellsOf e≤es.length*P.cellsOf e:=Nat.mul_le_mul_right _ hi
  rw[Nat.add_mul] at this
  omega
 refine ⟨by rw[Pz,List.length_set,h1],fun i' j x t' hx ht hj=> ?_⟩
 rw[Py hb]
 rw[List.getElem?_set] at hx
 by_cases iI:i=i'
 ·subst iI
  rw[if_pos rfl,if_pos hi] at hx
  cases hx
  rw[if_neg (by omega),if_pos (by omega),show i*P.cellsOf e+j-i*P.cellsOf e=j by omega]
  have h3:j<v.cells.size:=by omega
  have h4:j<ys.length:=by omega
  refine ⟨v.cells[j],Array.getElem?_eq_getElem h3,?_⟩
  rw[qw (List.getElem?_eq_getElem h4) ht]
  exact hr j t' _ _ ht (Array.getElem?_eq_getElem h3) (List.getElem?_eq_getElem h4)
 ·rw[if_neg iI] at hx
  have bN:i'*P.cellsOf e+j<i*P.cellsOf e∨i*P.cellsOf e+v.cells.size≤i'*P.cellsOf e+j:=by
   rcases Nat.lt_or_ge i' i with aM|po
   ·left
    have:(i'+1)*P.cellsOf e≤i*P.cellsOf e:=Nat.mul_le_mul_right _ aM
    rw[Nat.add_mul] at this
    omega
   ·right
    have:(i+1)*P.cellsOf e≤i'*P.cellsOf e:=Nat.mul_le_mul_right _ (by omega)
    rw[Nat.add_mul] at this
    omega
  rcases bN with bN|bN
  ·rw[if_pos bN];exact h2 i' j x t' hx ht hj
  ·rw[if_neg (by omega),if_neg (by omega)];exact h2 i' j x t' hx ht hj
theorem ZS {t':TypeId} {v:Value} (fN:eJ P t' (v7 (o4 P t' v))=true):Pure P w I t' v (v7 (o4 P t' v)):=by
 have hc:=ah.const (P:=P) (w:=w) (I:=I) (β:=fun _=>none) (hp:=fun _=>none) t' v
 cases uj:o4 P t' v<;>rw[uj] at fN hc<;>simp only[v7] at fN⊢
 case int k n=>rw[hc.eC];exact Plain.pure (v:= .int k n) (y:= .int k n) rfl fN
 case bool b=>rw[hc.jB];exact Plain.pure (v:= .bool b) (y:= .bool b) rfl fN
 case str l=>obtain ⟨s,e1,e2⟩:=hc.mr;rw[e1];exact Plain.pure (v:= .string s) (y:= .str l) ⟨s,rfl,e2⟩ fN
 case nilS e'=>
  cases hc
  exact Plain.pure (y:= .list e' []) (iD.any fun _=>rfl) fN
 case list e' es=>
  cases hc with
  | list hp=>exact Plain.pure (y:= .list e' es) hp fN
 all_goals (unfold eJ at fN;split at fN<;>simp_all)
theorem zO {e:TypeId} (h:mh P e=true): ∃i z,P.info? e=some i∧i.zero=some z∧i.size=P.cellsOf e∧z.cells.size=P.cellsOf e∧
  ∀(j:Nat) (t':TypeId),(aO P e)[j]? =some t'→j<P.cellsOf e→∃v,z.cells[j]? =some v∧Pure P w I t' v (bI P e (ct P e (eQ P e)) j):=by
 unfold mh at h
 simp only[Bool.and_eq_true] at h
 obtain ⟨i,z,h1,h2,h3,h4,h5⟩:=j8 h.1
 refine ⟨i,z,h1,h2,h3,h4,fun j t' ht hj=> ?_⟩
 obtain ⟨tl,tg⟩:=ue h.2
 have cZ:j<(eQ P e).length:=by rw[←tl,(j6 h.1).1];exact hj
 have hz:=List.getElem?_eq_getElem cZ
 have fN:=tg j t' _ (by rw[←sF];exact ht) hz
 refine ⟨z.cells[j],Array.getElem?_eq_getElem (by omega),?_⟩
 rw[qw hz ht]
 have uk:(eQ P e)[j]=v7 (o4 P t' z.cells[j]):=by
  have:(eQ P e)[j]? =((zeroCells P e)[j]?).map v7:=by simp[eQ]
  rw[hz] at this
  cases hc:(zeroCells P e)[j]? with
  | none=>rw[hc] at this;cases this
  | some y=>
   rw[hc] at this
   simp only[Option.map_some,Option.some.injEq] at this
   rw[h5] at hc
   obtain ⟨t2,v2,a1,a2,rfl⟩:=Je hc
   have Jf:t2=t':=by
    rw[←sF,ht] at a1;exact (Option.some.inj a1).symm
   have qn:v2=z.cells[j]:=by
    have ZT:j<z.cells.size:=by omega
    have:z.cells.toList[j]? =some z.cells[j]:=by simp[ZT]
    rw[this] at a2;exact (Option.some.inj a2).symm
   rw[this,Jf,qn]
 rw[uk] at fN⊢
 exact ZS fN
end
section
variable {P:Program} {w w':World} {I I':Nat→Prop} {β ao:Nat→Option Nat} {hp hp':Nat→Option ag} {C:ae} {B:Nat} {M:Nat→Prop} {w0:Start}
theorem wR (S:aC P w I β hp B M w0) {nb cap:Nat} {e:TypeId} {es:List V} {C0:Array Value} (aw:cW P e=true) (hn:hp nb=none) (hs:C0.size=cap*P.cellsOf e) (hl:es.length≤cap) (hm:cap≤maxLen)
  (hx: ∀(i j:Nat) (x:V) (t':TypeId),es[i]? =some x→(aO P e)[j]? =some t'→j<P.cellsOf e→∃v,C0[i*P.cellsOf e+j]? =some v∧Pure P w I t' v (bI P e x j)):
  Le P w I β hp (w.alloc (.cells C0 e)) I (aG β nb (some w.heap.size)) (aG hp nb (some (.arr e es false)))∧aC P (w.alloc (.cells C0 e)) I (aG β nb (some w.heap.size)) (aG hp nb (some (.arr e es false))) B M w0∧
  ah P (w.alloc (.cells C0 e)) I (aG β nb (some w.heap.size)) (aG hp nb (some (.arr e es false))) (.slice (some ⟨w.heap.size,0,none⟩) es.length cap) (.whole e nb):=by
 obtain ⟨h1,h2⟩:=IP S (blk:= .arr e es false) (c:=C0) (T:=e) hn (fun b' h=>(Option.some.inj (h.flat (by simp))).symm) (fun hle fb cS=> .arr aw rfl fb (by rw[hs];exact Nat.mul_le_mul_right _ hl) (fun h=>by cases h) (fun _=>cS) fun i j x t' a b c=>by
  obtain ⟨v,hv,hp⟩:=hx i j x t' a b c
  exact ⟨v,hv,hp.mono hle.dp hle.cf⟩)
 refine ⟨h1,h2,.whole (cY _ _ _) (cY _ _ _) ?_ hl hm⟩
 rw[ng (heap_alloc_new w (.cells C0 e)),hs]
theorem At.only {b b':Nat} {e e':TypeId} {es aH:List V} {q:Path} (hz: ∀(i j:Nat) x t' e1 l,es[i]? =some x→(aO P e)[j]? =some t'→bI P e x j= .list e1 l→l=[])
  (h:At P w b e es q b' e' aH):q=[]∧b'=b∧e'=e∧aH=es:=by
 cases h with
 | here=>exact ⟨rfl,rfl,rfl,rfl⟩
 | step h1 h2 h3 h4 h5 h6=>have:=hz _ _ _ _ _ _ h2 h3 h5;subst this;simp at h6
theorem mn.qm {t:TypeId} {v:Value} {x:V} (h:Pure P w I t v x) (hz: ∀e1 l,x= .list e1 l→l=[]):mn P w I t v x:=by
 cases h with
 | int h=>exact .fX (by unfold fT;rw[h]) (.int h)
 | bool h=>exact .fX (by unfold fT;rw[h]) (.bool h)
 | str h hl=>exact .fX (by unfold fT;rw[h]) (.str h hl)
 | nil h=>exact .emp h fun _=>rfl
 | emp h=>exact .emp h fun h=>by cases h
 | list g hu hl _ _ _ _=>
  have:=hz _ _ rfl
  subst this
  simp at hl
  subst hl
  exact .emp hu fun h=>by cases h
theorem ZU (S:aC P w I β hp B M w0) {nb cap:Nat} {e:TypeId} {es:List V} {C0:Array Value} (aw:cW P e=true) (hn:hp nb=none) (hs:C0.size=cap*P.cellsOf e) (hl:es.length≤cap) (hm:cap≤maxLen)
  (hx: ∀(i j:Nat) (x:V) (t':TypeId),es[i]? =some x→(aO P e)[j]? =some t'→j<P.cellsOf e→∃v,C0[i*P.cellsOf e+j]? =some v∧Pure P w I t' v (bI P e x j))
  (hz: ∀(i j:Nat) x t' e1 l,es[i]? =some x→(aO P e)[j]? =some t'→bI P e x j= .list e1 l→l=[]):
  Le P w I β hp (w.alloc (.cells C0 e)) I (aG β nb (some w.heap.size)) (aG hp nb (some (.nest e es [0,0,0])))∧aC P (w.alloc (.cells C0 e)) I (aG β nb (some w.heap.size)) (aG hp nb (some (.nest e es [0,0,0]))) B M w0∧
  ah P (w.alloc (.cells C0 e)) I (aG β nb (some w.heap.size)) (aG hp nb (some (.nest e es [0,0,0]))) (.slice (some ⟨w.heap.size,0,none⟩) es.length cap) (.whole e nb):=by
 obtain ⟨h1,h2⟩:=IP S (blk:= .nest e es [0,0,0]) (c:=C0) (T:=e) hn (fun b' h=>by
   cases h with
   | root _ h=>exact (Option.some.inj h).symm
   | row h ha=>cases h;exact (At.only hz ha).2.1)
  (fun hle fb cS=> .nest rfl (fun q b' e' aH ha=>by
   obtain ⟨rfl,rfl,rfl,rfl⟩:=At.only hz ha
   refine ⟨aw,⟨C0,fb,by rw[hs];exact Nat.mul_le_mul_right _ hl,fun i j x t' a b c=> ?_⟩,cS⟩
   obtain ⟨v,hv,hp⟩:=hx i j x t' a b c
   exact ⟨v,hv,.qm (hp.mono hle.dp hle.cf) fun e1 l h=>hz i j x t' e1 l a b h⟩)
   fun q1 q2 b' e1 cm e2 cb a1 a2=>(At.only hz a1).1.trans (At.only hz a2).1.symm)
 refine ⟨h1,h2,.eB (cY _ _ _) (cY _ _ _) ?_ hl hm⟩
 rw[ng (heap_alloc_new w (.cells C0 e)),hs]
theorem PE (cG: ∀id blk,hp id=some blk→dY P w I β hp (β id) blk) {a:Act} {sl:Nat→V} (hs:kF P w I β hp a sl) {G:Nat→V} (hg:gM P G w I) {e:TypeId} {len:Nat}: ∀{l:List (Nat × Operand)} {ps:List (Nat × V)} {upd:List (Nat × ag)} {rd:List Nat},
  (y5 P e len (l.map fun p=>(p.1,aJ P G e sl p.2))).run C hp=some ((ps,upd),rd)→cW P e=true→(∀p∈upd,zq hp p)∧∀I':Nat→Prop,(∀b,I b→I' b)→(∀p∈upd,∀b,sE P w β hp p.1 b→I' b)→
   ∀(cells:Array Value) (es:List V),es.length=len→wQ P w I' e cells es→∃pq,Instr.fill (fun i=>some (i*P.cellsOf e,P.cellsOf e)) cells (l.map fun p=>(p.1,a.eval p.2))=some pq∧wQ P w I' e pq (y4 es ps)∧(y4 es ps).length=len
 | [],ps,upd,rd,h,_=>by
  cases h
  exact ⟨by simp,fun I' _ _ cells es hl he=>⟨cells,by simp[Instr.fill],he,hl⟩⟩
 | (i,x)::l,ps,upd,rd,h,aw=>by
  simp only[List.map_cons,y5] at h
  obtain ⟨⟨ys,u1⟩,l1,l2,h1,h⟩:=kG h
  obtain ⟨hc,h⟩:=aD h
  obtain ⟨⟨ps',u2⟩,l3,l4,h2,h⟩:=kG h
  have:=aI h
  cases this
  simp only[Bool.and_eq_true,Nat.blt_eq] at hc
  obtain ⟨hi,fN⟩:=hc
  obtain ⟨tl,tg⟩:=ue fN
  have wF:=hs.ev hg e x
  obtain ⟨v1,v2⟩:=ZR cG wF h1 fN
  obtain ⟨k1,k2,k3⟩:=IN cG h1 (vs:=(a.eval x).cells.toList) (by simpa using v1) v2
  obtain ⟨m1,m2⟩:=PE cG hs hg h2 aw
  refine ⟨fun p hp=> ?_,fun I' i1 i2 cells es hl he=> ?_⟩
  ·rcases List.mem_append.1 hp with h|h
   ·exact k2 p h
   ·exact m1 p h
  ·have fM:=k3 I' i1 (fun p hp=>i2 p (List.mem_append.2 (.inl hp)))
   have aU:=(j6 aw).1
   have uh:ys.length=P.cellsOf e:=by rw[←tl,aU]
   have Pj:(a.eval x).cells.size=P.cellsOf e:=by rw[v1,←k1,uh]
   have um:=he.set (i:=i) (ys:=ys) (by omega) Pj uh (fun j t' u y ht hu hy=>by
    exact (fM j u y (by simpa using hu) hy).pure (tg j t' y (by rw[←sF];exact ht) hy))
   obtain ⟨pq,f1,f2,f3⟩:=m2 I' i1 (fun p hp=>i2 p (List.mem_append.2 (.inr hp))) _ (es.set i (ct P e ys)) (by simpa using hl) um
   refine ⟨pq,?_,f2,f3⟩
   have hb:i*P.cellsOf e+P.cellsOf e≤cells.size:=by
    rw[he.1,hl]
    have:(i+1)*P.cellsOf e≤len*P.cellsOf e:=Nat.mul_le_mul_right _ hi
    rw[Nat.add_mul] at this
    omega
   simp only[List.map_cons,Instr.fill]
   rw[if_neg (by simp;omega)]
   exact f1
theorem PF {z:Array Value} {n k:Nat} (hk:k<n) (hz:0<z.size):((Array.range n).map (z[· %z.size]!))[k]? =z[k %z.size]? :=by
 have hm:k %z.size<z.size:=Nat.mod_lt _ hz
 simp[hk,hm]
theorem Ec {e:TypeId} (h:mh P e=true) {i:TypeInfo} {z:Value} (hi:P.info? e=some i) (hz:i.zero=some z) (n m:Nat) (n9:n≤m):
  ∀(k j:Nat) (x:V) (t':TypeId),(List.replicate n (ct P e (eQ P e)))[k]? =some x→(aO P e)[j]? =some t'→j<P.cellsOf e→
   ∃v,((Array.range (m*P.cellsOf e)).map (z.cells[· %z.cells.size]!))[k*P.cellsOf e+j]? =some v∧Pure P w I t' v (bI P e x j):=by
 intro k j x t' hx ht hj
 obtain ⟨i2,z2,h1,h2,h3,h4,h5⟩:=zO (w:=w) (I:=I) h
 rw[hi] at h1;cases h1
 rw[hz] at h2;cases h2
 rw[List.getElem?_replicate] at hx
 split at hx
 ·rename_i hk
  cases hx
  obtain ⟨v,hv,hp⟩:=h5 j t' ht hj
  refine ⟨v,?_,hp⟩
  have hb:k*P.cellsOf e+j<m*P.cellsOf e:=by
   have:(k+1)*P.cellsOf e≤m*P.cellsOf e:=Nat.mul_le_mul_right _ (by omega)
   rw[Nat.add_mul] at this
   omega
  rw[PF hb (by omega),h4,show (k*P.cellsOf e+j) %P.cellsOf e=j by rw[Nat.mul_comm,Nat.mul_add_mod];exact Nat.mod_eq_of_lt hj]
  exact hv
 ·cases hx
theorem ZV {P:Program} (w:World) (t e:TypeId) (len:Nat) (parts:Array (Nat × Value)) (cells:Array Value) (ie:TypeInfo) (z:Value)
  (hu:P.underlying t=some (.slice e)) (jD:P.info? e=some ie) (hz:ie.zero=some z) (ZW: ¬len*ie.size>2^24)
  (h:Instr.fill (fun i=>some (i*ie.size,ie.size)) ((Array.range (len*ie.size)).map (z.cells[· %z.cells.size]!)) parts.toList=some cells):
  (Instr.buildSlice t len parts).run P w= .ok (.slice (some ⟨w.heap.size,0,none⟩) len len) (w.alloc (.cells cells e)):=by
 by_cases n9:len*ie.size=0
 ·have h0: ∀g:Nat→Value,(Array.range (len*ie.size)).map g= #[]:=by intro g;exact Array.eq_empty_of_size_eq_zero (by simp[n9])
  have hp: ∀(u:Array Value),(Pure.pure u:Sem (Array Value)).run P w= .ok u w:=fun _=>rfl
  rw[h0] at h
  simp only[Instr.buildSlice,Sem.run_bind,run_underlying hu,Result.andThen_ok,sizeOf,typeInfo,jD]
  have h1:(Array.range (len*ie.size)).map (fun _:Nat=>(default:Value))= #[]:=h0 _
  have hs: ¬16777216<len*ie.size:=by omega
  simp[jD,hs,n9]
  simp only[n9] at h1
  simp[h1,h,newRow]
 ·exact run_buildSlice w t e len parts cells ie z hu jD hz ZW n9 h
theorem ZX (S:aC P w I β hp B M w0) {a:Act} {sl:Nat→V} (hs:kF P w I β hp a sl) {G:Nat→V} (hg:gM P G w I) {t e:TypeId} {len nb:Nat} {ps:Array (Nat × Operand)} {r:R} {rd:List Nat} (hu:P.underlying t=some (.slice e))
  (h:(Rd.az (mh P e&&Nat.ble (len*P.cellsOf e) (2^24)) ((y5 P e len (ps.toList.map fun p=>(p.1,aJ P G e sl p.2))).bind fun r=>
    ja nb (.arr e (y4 (List.replicate len (ct P e (eQ P e))) r.1) false) (.whole e nb) r.2)).run C hp=some (r,rd)):
  dd P ((Instr.buildSlice t len (ps.map fun (i,x)=>(i,a.eval x))).run P w) w I β hp B M w0 r:=by
 obtain ⟨hc,h⟩:=aD h
 simp only[Bool.and_eq_true,Nat.ble_eq] at hc
 obtain ⟨cX,wu⟩:=hc
 have aw:cW P e=true:=by
  unfold mh at cX;simp only[Bool.and_eq_true] at cX;exact cX.1
 obtain ⟨⟨pv,upd⟩,l1,l2,h1,h⟩:=kG h
 obtain ⟨hn,rfl⟩:=nr h
 obtain ⟨m1,m2⟩:=PE S.h.rel hs hg h1 aw
 obtain ⟨qz,S1⟩:=zx S m1
 obtain ⟨i,z,hi,hz,h3,h4,_⟩:=zO (w:=w) (I:=I) cX
 have iE:=(j6 aw).2
 have h0:wQ P w (iF P w I β hp upd) e ((Array.range (len*P.cellsOf e)).map (z.cells[· %z.cells.size]!)) (List.replicate len (ct P e (eQ P e))):=
  ⟨by simp,Ec cX hi hz len len (Nat.le_refl _)⟩
 obtain ⟨cells,f1,f2,f3⟩:=m2 (iF P w I β hp upd) (fun _ h=> .inl h) (fun p hp b h=> .inr ⟨p,hp,h⟩) _ _ (by simp) h0
 have j9:bM hp upd nb=none:=by
  rcases tY (hp:=hp) (l:=upd) (id:=nb) with h|⟨b',hm,_⟩
  ·exact h.trans hn
  ·obtain ⟨e1,cm,_,h5⟩:=m1 _ hm
   simp only[hn] at h5
   rcases h5 with ⟨_,h5⟩|⟨_,h5⟩<;>cases h5
 have oo:len≤maxLen:=by
  have:len*1≤len*P.cellsOf e:=Nat.mul_le_mul_left _ iE
  simp only[maxLen]
  omega
 obtain ⟨n1,n2,n3⟩:=wR S1 (cap:=len) aw j9 (by rw[f2.1,f3]) (by rw[f3];exact Nat.le_refl _) oo f2.2
 have da:=ZV w t e len (ps.map fun (i,x)=>(i,a.eval x)) cells i z hu hi hz (by rw[h3];omega) (by rw[h3];simpa using f1)
 refine ⟨_,_,_,_,da,qz.trans n1,n2,?_⟩
 rw[f3] at n3
 exact n3
theorem PH (S:aC P w I β hp B M w0) {t e:TypeId} {nb:Nat} {kl kc:IntKind} {n m:Int} {r:R} {rd:List Nat} (hu:P.underlying t=some (.slice e))
  (h:(Rd.az (mh P e&&(decide (0≤n)&&(decide (n≤m)&&Nat.ble (m.toNat*P.bytesOf e) bH)))
    (ja nb (.arr e (List.replicate n.toNat (ct P e (eQ P e))) false) (.whole e nb) [])).run C hp=some (r,rd)):
  dd P ((Instr.makeSlice t (.int kl n) (.int kc m)).run P w) w I β hp B M w0 r:=by
 obtain ⟨hc,h⟩:=aD h
 simp only[Bool.and_eq_true,Nat.ble_eq,decide_eq_true_eq] at hc
 obtain ⟨cX,h0,n9,eM⟩:=hc
 have aw:cW P e=true:=by
  unfold mh at cX;simp only[Bool.and_eq_true] at cX;exact cX.1
 obtain ⟨hn,rfl⟩:=nr h
 obtain ⟨i,z,hi,hz,h3,h4,_⟩:=zO (w:=w) (I:=I) cX
 have mz:P.bytesOf e=i.bytes:=by simp[Program.bytesOf,hi]
 have Jg:m≤9223372036854775807:=by
  have h1:m.toNat*1≤m.toNat*P.bytesOf e:=Nat.mul_le_mul_left _ (wx aw)
  simp only[bH] at eM
  omega
 have da:=run_make (P:=P) w t e i z hu hi hz kl kc n m h0 n9 (by
  rw[mz] at eM
  simp only[bH] at eM
  have:(i.bytes:Int)*m=((m.toNat*i.bytes:Nat):Int):=by
   rw[Int.natCast_mul,Int.toNat_of_nonneg (by omega),Int.mul_comm]
  rw[this]
  omega) Jg
 have hlen:(List.replicate n.toNat (ct P e (eQ P e))).length=n.toNat:=by simp
 obtain ⟨n1,n2,n3⟩:=wR S (cap:=m.toNat) (es:=List.replicate n.toNat (ct P e (eQ P e))) (C0:=madeCells z.cells (m.toNat*i.size)) aw hn (by rw[size_madeCells,h3]) (by rw[hlen];omega) (by simp only[maxLen];omega)
  (by rw[h3];exact Ec cX hi hz n.toNat m.toNat (by omega))
 refine ⟨_,_,_,_,da,n1,n2,?_⟩
 rw[hlen] at n3
 exact n3
theorem Jh: ∀{l:List V} {j:Nat} {e1:TypeId} {k:List V},ze l=true→V.nth l j= .list e1 k→k=[]
 | [],j,e1,k,_,h=>by cases j<;>cases h
 | x::l,0,e1,k,hn,h=>by
  simp only[V.nth] at h
  subst h
  cases k with
  | nil=>rfl
  | cons _ _=>cases hn
 | x::l,j+1,e1,k,hn,h=>by
  refine Jh (l:=l) (j:=j) ?_ h
  cases x with
  | list e2 k2=>
   cases k2 with
   | nil=>exact hn
   | cons _ _=>cases hn
  | _=>exact hn
theorem ZY {e:TypeId} {n:Nat} (aw:cW P e=true) (h:ze (eQ P e)=true):
  ∀(i j:Nat) x t' e1 l,(List.replicate n (ct P e (eQ P e)))[i]? =some x→(aO P e)[j]? =some t'→bI P e x j= .list e1 l→l=[]:=by
 intro i j x t' e1 l hx ht hl
 have:=List.eq_of_mem_replicate (List.mem_of_getElem? hx)
 subst this
 unfold bI ct at hl
 cases ha:bE P e with
 | true=>rw[ha] at hl;exact Jh h hl
 | false=>rw[ha] at hl;exact Jh h hl
theorem ZZ (S:aC P w I β hp B M w0) {t e:TypeId} {nb:Nat} {kl kc:IntKind} {n m:Int} {r:R} {rd:List Nat} (hu:P.underlying t=some (.slice e))
  (h:(Rd.az (mh P e&&(decide (0≤n)&&(decide (n≤m)&&Nat.ble (m.toNat*P.bytesOf e) bH)))
    (Rd.az (ze (eQ P e)) (ja nb (.nest e (List.replicate n.toNat (ct P e (eQ P e))) [0,0,0]) (.whole e nb) []))).run C hp=some (r,rd)):
  dd P ((Instr.makeSlice t (.int kl n) (.int kc m)).run P w) w I β hp B M w0 r:=by
 obtain ⟨hc,h⟩:=aD h
 simp only[Bool.and_eq_true,Nat.ble_eq,decide_eq_true_eq] at hc
 obtain ⟨cX,h0,n9,eM⟩:=hc
 have aw:cW P e=true:=by
  unfold mh at cX;simp only[Bool.and_eq_true] at cX;exact cX.1
 obtain ⟨Z0,h⟩:=aD h
 obtain ⟨hn,rfl⟩:=nr h
 obtain ⟨i,z,hi,hz,h3,h4,_⟩:=zO (w:=w) (I:=I) cX
 have mz:P.bytesOf e=i.bytes:=by simp[Program.bytesOf,hi]
 have Jg:m≤9223372036854775807:=by
  have h1:m.toNat*1≤m.toNat*P.bytesOf e:=Nat.mul_le_mul_left _ (wx aw)
  simp only[bH] at eM
  omega
 have da:=run_make (P:=P) w t e i z hu hi hz kl kc n m h0 n9 (by
  rw[mz] at eM
  simp only[bH] at eM
  have:(i.bytes:Int)*m=((m.toNat*i.bytes:Nat):Int):=by
   rw[Int.natCast_mul,Int.toNat_of_nonneg (by omega),Int.mul_comm]
  rw[this]
  omega) Jg
 have hlen:(List.replicate n.toNat (ct P e (eQ P e))).length=n.toNat:=by simp
 obtain ⟨n1,n2,n3⟩:=ZU S (cap:=m.toNat) (es:=List.replicate n.toNat (ct P e (eQ P e))) (C0:=madeCells z.cells (m.toNat*i.size)) aw hn (by rw[size_madeCells,h3]) (by rw[hlen];omega) (by simp only[maxLen];omega)
  (by rw[h3];exact Ec cX hi hz n.toNat m.toNat (by omega))
  (ZY aw Z0)
 refine ⟨_,_,_,_,da,n1,n2,?_⟩
 rw[hlen] at n3
 exact n3
theorem Pure.one {t:TypeId} {v:Value} {x:V} (h:Pure P w I t v x):v.oneCell'=true:=by cases h<;>rfl
structure Row (P:Program) (w:World) (I:Nat→Prop) (e:TypeId) (v:Value) (xs:List V) (a:Addr) (c:Nat) (news:List Value):Prop where
 val:v= .slice (some a) xs.length c
 len:news.length=xs.length*P.cellsOf e
 cell: ∀(j:Nat) u,news[j]? =some u→w.cell? (a.add j)=some u
 el: ∀(i j:Nat) (x:V) (t':TypeId),xs[i]? =some x→(aO P e)[j]? =some t'→j<P.cellsOf e→∃u,news[i*P.cellsOf e+j]? =some u∧Pure P w I t' u (bI P e x j)
theorem Row.one {e:TypeId} {v:Value} {xs:List V} {a:Addr} {c:Nat} {news:List Value} (h:Row P w I e v xs a c news) (aw:cW P e=true): ∀u∈news,u.oneCell'=true:=by
 intro u hu
 obtain ⟨k,hk⟩:=List.getElem?_of_mem hu
 have lu:=(List.getElem?_eq_some_iff.1 hk).1
 have iE:=(j6 aw).2
 rw[h.len] at lu
 have hi:k/P.cellsOf e<xs.length:=Nat.div_lt_of_lt_mul (by rw[Nat.mul_comm];exact lu)
 have hj:k %P.cellsOf e<P.cellsOf e:=Nat.mod_lt _ iE
 have gA:k %P.cellsOf e<(aO P e).length:=by rw[fL aw];exact hj
 obtain ⟨u',ga,hp⟩:=h.el (k/P.cellsOf e) (k %P.cellsOf e) _ _ (List.getElem?_eq_getElem hi) (List.getElem?_eq_getElem gA) hj
 rw[Nat.div_add_mod'] at ga
 rw[hk] at ga
 cases ga
 exact hp.one
theorem PJ {e:TypeId} {es:List V} {b:Nat} {Ca:Array Value} {off len cap o:Nat} (hh:w.heap[b]? =some (.cells Ca e (0,0))) (hs:es.length*P.cellsOf e≤Ca.size)
  (hx: ∀(i j:Nat) (x:V) (t':TypeId),es[i]? =some x→(aO P e)[j]? =some t'→j<P.cellsOf e→∃v,Ca[i*P.cellsOf e+j]? =some v∧Pure P w I t' v (bI P e x j))
  (jf:off+len≤es.length) (ho:0<len→o=off*P.cellsOf e):
  Row P w I e (.slice (some ⟨b,o,none⟩) len cap) ((es.drop off).take len) ⟨b,o,none⟩ cap ((Ca.toList.drop (off*P.cellsOf e)).take (len*P.cellsOf e)):=by
 have hlen:((es.drop off).take len).length=len:=by simp;omega
 have hb:(off+len)*P.cellsOf e≤Ca.size:=Nat.le_trans (Nat.mul_le_mul_right _ jf) hs
 rw[Nat.add_mul] at hb
 refine ⟨by rw[hlen],by rw[hlen];simp;omega,fun j u hj=> ?_,fun i j x t' gy ht hj=> ?_⟩
 ·have cZ:=(List.getElem?_eq_some_iff.1 hj).1
  have Ji:j<len*P.cellsOf e:=by
   rw[List.length_take] at cZ;omega
  have mo:0<len:=by
   rcases Nat.eq_zero_or_pos len with h|h
   ·rw[h] at Ji;simp at Ji
   ·exact h
  rw[List.getElem?_take_of_lt Ji,List.getElem?_drop] at hj
  rw[nn,cell?_cells hh,ho mo]
  simpa using hj
 ·have hi:i<len:=by rw[←hlen];exact (List.getElem?_eq_some_iff.1 gy).1
  rw[List.getElem?_take_of_lt hi,List.getElem?_drop] at gy
  obtain ⟨u,hu,hp⟩:=hx (off+i) j x t' gy ht hj
  refine ⟨u,?_,hp⟩
  have:i*P.cellsOf e+j<len*P.cellsOf e:=by
   have:(i+1)*P.cellsOf e≤len*P.cellsOf e:=Nat.mul_le_mul_right _ hi
   rw[Nat.add_mul] at this
   omega
  rw[List.getElem?_take_of_lt this,List.getElem?_drop]
  rw[Nat.add_mul] at hu
  rw[←Nat.add_assoc]
  simpa using hu
theorem Ee (cG: ∀id blk,hp id=some blk→dY P w I β hp (β id) blk) {e:TypeId} {v:Value} {x:V} {k:List V→Rd R} {r:R} {rd:List Nat} (aw:cW P e=true) (hv:ah P w I β hp v x)
  (h:(sr e x k).run C hp=some (r,rd)): ∃xs,(((∃a,v= .slice a 0 0)∧xs=[])∨∃a c news,Row P w I e v xs a c news)∧∃l,(k xs).run C hp=some (r,l):=by
 cases hv with
 | list hp'=>
  obtain ⟨hc,h2⟩:=aD h
  clear h
  rw[Nat.beq_eq] at hc
  subst hc
  cases hp' with
  | nil=>exact ⟨[],.inl ⟨⟨_,rfl⟩,rfl⟩,rd,h2⟩
  | @emp a cap=>exact ⟨[],.inr ⟨a,cap,[],⟨rfl,by simp,fun j u hj=>by simp at hj,fun i j x t' hx _ _=>by simp at hx⟩⟩,rd,h2⟩
  | @list b o len cap es g hl cd hI gn hx=>
   refine ⟨_,.inr ⟨⟨b,o,none⟩,cap,(List.range (len*P.cellsOf e)).map fun k=>g (k/P.cellsOf e) (k %P.cellsOf e),⟨by rw[hl],by rw[hl];simp,fun j u hj=> ?_,fun i j x t' gy ht hj=> ?_⟩⟩,rd,h2⟩
   ·obtain ⟨cZ,ic⟩:=List.getElem?_eq_some_iff.1 hj
    simp at cZ ic
    have iE:=(j6 aw).2
    have hi:j/P.cellsOf e<len:=Nat.div_lt_of_lt_mul (by rw[Nat.mul_comm];exact cZ)
    have bZ:j %P.cellsOf e<P.cellsOf e:=Nat.mod_lt _ iE
    rw[nn,←ic]
    have:=gn (j/P.cellsOf e) (j %P.cellsOf e) hi bZ
    rwa [Nat.div_add_mod'] at this
   ·have hi:i<len:=by rw[←hl];exact (List.getElem?_eq_some_iff.1 gy).1
    have hb:i*P.cellsOf e+j<len*P.cellsOf e:=by
     have:(i+1)*P.cellsOf e≤len*P.cellsOf e:=Nat.mul_le_mul_right _ hi
     rw[Nat.add_mul] at this
     omega
    refine ⟨g i j,?_,hx i j x t' gy ht⟩
    have e1:(i*P.cellsOf e+j)/P.cellsOf e=i:=by
     rw[Nat.mul_comm,Nat.mul_add_div (j6 aw).2,Nat.div_eq_of_lt hj,Nat.add_zero]
    have e2:(i*P.cellsOf e+j) %P.cellsOf e=j:=by
     rw[Nat.mul_comm,Nat.mul_add_mod];exact Nat.mod_eq_of_lt hj
    simp[hb,e1,e2]
 | nilS=>
  obtain ⟨hc,h⟩:=aD h
  exact ⟨[],.inl ⟨⟨_,rfl⟩,rfl⟩,rd,h⟩
 | dP aa hb=>
  obtain ⟨l,h⟩:=run_get h
  simp only[aa] at h
  obtain ⟨hc,h⟩:=aD h
  exact ⟨[],.inl ⟨⟨_,rfl⟩,rfl⟩,l,h⟩
 | @whole e' id es fz b cap aa hb aU cd hm=>
  obtain ⟨l,h⟩:=run_get h
  simp only[aa] at h
  obtain ⟨hc,h2⟩:=aD h
  clear h
  simp only[Bool.and_eq_true,Nat.beq_eq] at hc
  obtain ⟨rfl,_⟩:=hc
  have hr:=cG _ _ aa
  cases hr with
  | dQ ay=>rw[ay] at hb;cases hb
  | arr IU ay hh hs hf eo hx=>
   rw[hb] at ay;cases ay
   have:=PJ (cap:=cap) (off:=0) (len:=es.length) (o:=0) hh hs hx (by omega) (fun _=>by simp)
   exact ⟨es,.inr ⟨_,_,_,by simpa using this⟩,l,h2⟩
 | fY aa hb=>
  obtain ⟨l,h⟩:=run_get h
  simp only[aa] at h
  obtain ⟨hc,h⟩:=aD h
  exact ⟨[],.inl ⟨⟨_,rfl⟩,rfl⟩,l,by simpa using h⟩
 | @sub e' id off len es fz b o cap aa hb jf cd ho=>
  obtain ⟨l,h⟩:=run_get h
  simp only[aa] at h
  obtain ⟨hc,h2⟩:=aD h
  clear h
  simp only[Bool.and_eq_true,Nat.beq_eq] at hc
  obtain ⟨rfl,_⟩:=hc
  have hr:=cG _ _ aa
  cases hr with
  | dQ ay=>rw[ay] at hb;cases hb
  | arr IU ay hh hs hf eo hx=>
   rw[hb] at ay;cases ay
   exact ⟨_,.inr ⟨_,_,_,PJ (cap:=cap) hh hs hx jf ho⟩,l,h2⟩
 | ej aa=>
  obtain ⟨l,h⟩:=run_get h
  simp only[aa] at h
  cases h
 | gm aa=>
  obtain ⟨l,h⟩:=run_get h
  simp only[aa] at h
  cases h
 | undef=>cases h
 | int=>cases h
 | bool=>cases h
 | str=>cases h
 | agg=>cases h
 | a8=>cases h
 | dw=>cases h
 | fn=>cases h
 | pref=>cases h
 | j4=>cases h
 | ptr=>cases h
 | jw=>cases h
 | jx=>cases h
 | row=>cases h
 | cE=>cases h
 | dm=>cases h
 | ib=>cases h
 | bL=>cases h
 | eB aa=>
  obtain ⟨l,h⟩:=run_get h
  simp only[aa] at h
  cases h
theorem PK {t ty e:TypeId} {i:TypeInfo} (ht:P.underlying t=some (.slice e)) (hi:P.info? e=some i) (a:Option Addr) (n cap:Nat) (x:Value) (hx: ∃a c,x= .slice a 0 c) (hn:n≤cap):
  (Builtin.append_ #[t,t] ty #[.slice a n cap,x]).run P w= .ok (.slice a n cap) w:=by
 obtain ⟨a',c,rfl⟩:=hx
 cases a' with
 | none=>cases a<;>simp[Builtin.append_,run_underlying ht,sizeOf,typeInfo,hi,Builtin.lenOf,Builtin.firstCells,hn,storeCells]
 | some a'=>cases a<;>simp[Builtin.append_,run_underlying ht,sizeOf,typeInfo,hi,Builtin.lenOf,Builtin.firstCells,hn,storeCells,loadCells,loadCellsFrom]
theorem Ef {e:TypeId} {es xs:List V} {n:Nat} {c:List Value} {news:List Value} (hn:es.length=n)
  (h1: ∀(i j:Nat) (x:V) (t':TypeId),es[i]? =some x→(aO P e)[j]? =some t'→j<P.cellsOf e→∃v,c[i*P.cellsOf e+j]? =some v∧Pure P w I t' v (bI P e x j))
  (h2: ∀(i j:Nat) (x:V) (t':TypeId),xs[i]? =some x→(aO P e)[j]? =some t'→j<P.cellsOf e→∃v,news[i*P.cellsOf e+j]? =some v∧Pure P w I t' v (bI P e x j))
  (hb:n*P.cellsOf e≤c.length) (rest:List Value):
  ∀(i j:Nat) (x:V) (t':TypeId),(es++xs)[i]? =some x→(aO P e)[j]? =some t'→j<P.cellsOf e→∃v,(c.take (n*P.cellsOf e)++news++rest)[i*P.cellsOf e+j]? =some v∧Pure P w I t' v (bI P e x j):=by
 intro i j x t' hx ht hj
 have hl:(c.take (n*P.cellsOf e)).length=n*P.cellsOf e:=by simp;omega
 by_cases hi:i<n
 ·rw[List.getElem?_append_left (by omega)] at hx
  obtain ⟨v,hv,hp⟩:=h1 i j x t' hx ht hj
  have:i*P.cellsOf e+j<n*P.cellsOf e:=by
   have:(i+1)*P.cellsOf e≤n*P.cellsOf e:=Nat.mul_le_mul_right _ hi
   rw[Nat.add_mul] at this
   omega
  exact ⟨v,by rw[List.append_assoc,List.getElem?_append_left (by omega),List.getElem?_take_of_lt this];exact hv,hp⟩
 ·rw[List.getElem?_append_right (by omega),hn] at hx
  obtain ⟨v,hv,hp⟩:=h2 (i-n) j x t' hx ht hj
  have kK:i-n<xs.length:=(List.getElem?_eq_some_iff.1 hx).1
  have e1:i*P.cellsOf e+j-n*P.cellsOf e=(i-n)*P.cellsOf e+j:=by
   rw[Nat.sub_mul]
   have:n*P.cellsOf e≤i*P.cellsOf e:=Nat.mul_le_mul_right _ (by omega)
   omega
  have h3:(i-n)*P.cellsOf e+j<news.length:=(List.getElem?_eq_some_iff.1 hv).1
  refine ⟨v,?_,hp⟩
  have h4:n*P.cellsOf e≤i*P.cellsOf e+j:=by
   have:n*P.cellsOf e≤i*P.cellsOf e:=Nat.mul_le_mul_right _ (by omega)
   omega
  rw[List.append_assoc,List.getElem?_append_right (by omega),hl,e1,List.getElem?_append_left h3]
  exact hv
theorem Pure.drew {t:TypeId} {v:Value} {x:V} (h:Pure P w I t v x):Pure P w.drew I t v x:=Pure.mono (w:=w) (w':=w.drew) (fun _ h=>h) (fun _ _=>rfl) h
theorem Z1 (w:World) (t ty e:TypeId) (i:TypeInfo) (z:Value) (ht:P.underlying t=some (.slice e)) (hi:P.info? e=some i) (hz:i.zero=some z)
  (a0:Option Addr) (a:Addr) (n c:Nat) (news:List Value) (hl:news.length=n*i.size) (Eg: ∀j v,news[j]? =some v→w.cell? (a.add j)=some v)
  (h0:0<n) (Eh:(n:Int)≤9223372036854775807) (Ei:n*i.bytes≤281474976710656):
  (Builtin.append_ #[t,t] ty #[.slice a0 0 0,.slice (some a) n c]).run P w=
   .ok (.slice (some ⟨w.heap.size,0,none⟩) n (grownCap w n 0 e)) (w.drew.alloc (.cells (news.toArray++Builtin.zeroCells z.cells (grownCap w n 0 e-n)) e)):=by
 cases a0 with
 | none=>exact run_append_nil w t ty e i z ht hi hz a n c news hl Eg h0 Eh Ei
 | some b=>
  have:=run_append_grow (P:=P) w t ty e i z ht hi hz b 0 0 [] (by simp) (by simp) a n c news hl Eg (by omega) (by omega) (by rw[Nat.zero_add,nextslicecap_zero h0];omega)
  simpa using this
theorem Jj (S:aC P w I β hp B M w0) {t ty e:TypeId} {nb:Nat} {x:Value} {xs:List V} (hu:P.underlying t=some (.slice e)) (aw:cW P e=true) (hn:hp nb=none)
  (eM:xs.length*P.bytesOf e≤bH) {a0:Option Addr} (hx:((∃a,x= .slice a 0 0)∧xs=[])∨∃a c news,Row P w I e x xs a c news):
  ∃v w' ao,(Builtin.append_ #[t,t] ty #[.slice a0 0 0,x]).run P w= .ok v w'∧Le P w I β hp w' I ao (aG hp nb (some (.arr e xs false)))∧aC P w' I ao (aG hp nb (some (.arr e xs false))) B M w0∧
   ah P w' I ao (aG hp nb (some (.arr e xs false))) v (.whole e nb):=by
 obtain ⟨i,z,hi,hz,h3,h4,_⟩:=j8 aw
 have uo:=wx aw
 have mz:P.bytesOf e=i.bytes:=by simp[Program.bytesOf,hi]
 have hlen:xs.length≤2^45:=by
  have:xs.length*1≤xs.length*P.bytesOf e:=Nat.mul_le_mul_left _ uo
  simp only[bH] at eM
  omega
 have empty:xs=[]→(∃a c,x= .slice a 0 c)→∃v w' ao,(Builtin.append_ #[t,t] ty #[.slice a0 0 0,x]).run P w= .ok v w'∧Le P w I β hp w' I ao (aG hp nb (some (.arr e xs false)))∧aC P w' I ao (aG hp nb (some (.arr e xs false))) B M w0∧
   ah P w' I ao (aG hp nb (some (.arr e xs false))) v (.whole e nb):=by
  intro gB Jk
  subst gB
  obtain ⟨a1,a2⟩:=DS S e hn
  exact ⟨_,_,_,PK hu hi a0 0 0 x Jk (Nat.le_refl _),a1,a2,.dP (cY _ _ _) (cY _ _ _)⟩
 rcases hx with ⟨⟨_,rfl⟩,rfl⟩|⟨a,c,news,hr⟩
 ·exact empty rfl ⟨_,_,rfl⟩
 ·by_cases h0:xs.length=0
  ·have gB:xs=[]:=List.eq_nil_of_length_eq_zero h0
   refine empty gB ⟨some a,c,?_⟩
   rw[hr.val,h0]
  ·have da:=Z1 (P:=P) w t ty e i z hu hi hz a0 a xs.length c news (by rw[hr.len,h3]) hr.cell (by omega) (by omega) (by rw[←mz];simp only[bH] at eM;omega)
   have po:=grownCap_ge w xs.length 0 e
   have uq:grownCap w xs.length 0 e≤maxLen:=grownCap_le_maxLen w xs.length 0 e (by simp only[maxLen];omega)
   obtain ⟨n1,n2,n3⟩:=wR S.drew (nb:=nb) (cap:=grownCap w xs.length 0 e) (es:=xs) (C0:=news.toArray++Builtin.zeroCells z.cells (grownCap w xs.length 0 e-xs.length)) aw hn
    (by simp only[Array.size_append,List.size_toArray,size_zeroCells,h4,hr.len,←Nat.add_mul];congr 1;omega) po uq
    (fun i' j y t' hy ht hj=>by
     obtain ⟨u,ga,hp⟩:=hr.el i' j y t' hy ht hj
     have aM:=(List.getElem?_eq_some_iff.1 ga).1
     refine ⟨u,?_,Pure.drew hp⟩
     rw[Array.getElem?_append_left (by simpa using aM)]
     simpa using ga)
   rw[hr.val]
   exact ⟨_,_,_,da,(Le.drew w I β hp).trans n1,n2,n3⟩
theorem Z2 (S:aC P w I β hp B M w0) {t ty e:TypeId} {nb:Nat} {s x:Value} {sv xv:V} {r:R} {rd:List Nat} (hu:P.underlying t=some (.slice e)) (hs:ah P w I β hp s sv) (hx:ah P w I β hp x xv)
  (h:(we P nb e sv xv).run C hp=some (r,rd)):dd P ((Builtin.append_ #[t,t] ty #[s,x]).run P w) w I β hp B M w0 r:=by
 unfold we at h
 obtain ⟨aw,h⟩:=aD h
 obtain ⟨xs,lx,l0,h⟩:=Ee S.h.rel aw hx h
 cases sv with
 | nilS e'=>
  obtain ⟨hc,h⟩:=aD h
  simp only[Bool.and_eq_true,Nat.beq_eq,Nat.ble_eq] at hc
  obtain ⟨hn,rfl⟩:=nr h
  obtain ⟨a0,rfl⟩: ∃a0,s= .slice a0 0 0:=by cases hs;exact ⟨_,rfl⟩
  obtain ⟨v,w',ao,a1,a2,a3,a4⟩:=Jj (ty:=ty) S hu aw hn hc.2 lx
  exact ⟨v,w',I,ao,a1,a2,a3,a4⟩
 | whole e' id=>
  obtain ⟨l,h⟩:=run_get h
  cases aa:hp id with
  | none=>rw[aa] at h;cases h
  | some blk=>
   rw[aa] at h
   cases blk with
   | dead=>cases h
   | var _=>cases h
   | nest _ _ _=>cases h
   | map _ _=>cases h
   | arr dN es fz=>
    cases fz with
    | true=>cases h
    | false=>
     obtain ⟨hc,h⟩:=aD h
     obtain ⟨hn,rfl⟩:=nr h
     simp only[Bool.and_eq_true,Nat.beq_eq,Nat.ble_eq] at hc
     obtain ⟨Jl,Jm,eM⟩:=hc
     subst Jl
     subst Jm
     have bN:nb≠id:=fun e=>by rw[e,aa] at hn;cases hn
     obtain ⟨k1,k2⟩:=DT S aa
     have j9:aG hp id (some ag.dead) nb=none:=by rw[ep _ _ bN];exact hn
     cases hs with
     | ej hd=>rw[aa] at hd;cases hd
     | eB hd=>rw[aa] at hd;cases hd
     | dP hd hb=>
      rw[aa] at hd
      cases hd
      simp only[List.length_nil,Nat.zero_add] at eM
      have Z3:((∃a,x= .slice a 0 0)∧xs=[])∨∃a c news,Row P w I e x xs a c news:=lx
      obtain ⟨v,w',ao,a1,a2,a3,a4⟩:=Jj (ty:=ty) k2 hu aw j9 eM Z3
      exact ⟨v,w',I,ao,a1,k1.trans a2,a3,a4⟩
     | @whole _ _ aH nc b cap hd hb aU cd hm=>
      rw[aa] at hd
      cases hd
      have hr:=S.h.rel id _ aa
      cases hr with
      | dQ ay=>rw[ay] at hb;cases hb
      | @arr _ _ _ b' Ca _ ay hh pr hf eo mA=>
       rw[hb] at ay
       cases ay
       obtain ⟨i,z,hi,hz,h3,h4,_⟩:=j8 aw
       have uo:=wx aw
       have mz:P.bytesOf e=i.bytes:=by simp[Program.bytesOf,hi]
       have hlen:es.length+xs.length≤2^45:=by
        have:(es.length+xs.length)*1≤(es.length+xs.length)*P.bytesOf e:=Nat.mul_le_mul_left _ uo
        simp only[bH] at eM
        omega
       rw[ng hh] at aU
       have qs: ∀aA blk',aG hp id (some ag.dead) aA=some blk'→¬bt P w (β aA) blk' b:=by
        intro aA blk' h1 h2
        by_cases iI:aA=id
        ·subst iI;rw[cY] at h1;cases h1;exact h2.alive rfl
        ·rw[ep _ _ iI] at h1
         exact iI (S.h.inj aA id blk' _ b h1 aa h2 (.root (by simp) hb))
       have Jn:=S.h.sC id _ b aa (by simp) hb
       have room: ∀(C':Array Value) (w':World) (ys:List V),w'.heap[b]? =some (.cells C' e (0,0))→C'.size=Ca.size→(∀b',b'≠b→w'.heap[b']? =w.heap[b']?)→w.heap.size≤w'.heap.size→(w'.os=w.os∧w'.output=w.output)→ys.length≤cap→
         (∀(i j:Nat) (y:V) (t':TypeId),ys[i]? =some y→(aO P e)[j]? =some t'→j<P.cellsOf e→∃v,C'[i*P.cellsOf e+j]? =some v∧Pure P w I t' v (bI P e y j))→
         Le P w I β hp w' I (aG β nb (some b)) (aG (aG hp id (some .dead)) nb (some (.arr e ys false)))∧aC P w' I (aG β nb (some b)) (aG (aG hp id (some .dead)) nb (some (.arr e ys false))) B M w0∧
         ah P w' I (aG β nb (some b)) (aG (aG hp id (some .dead)) nb (some (.arr e ys false))) (.slice (some ⟨b,0,none⟩) ys.length cap) (.whole e nb):=by
        intro C' w' ys hC ox jE Z4 Z5 uh hy
        obtain ⟨a1,a2⟩:=zz k2 (blk:= .arr e ys false) (w':=w') j9 qs (eo rfl) (fun b' h _=>jE b' h) Z4 Z5 Jn
         (fun b' h=>(Option.some.inj (h.flat (by simp))).symm) (fun hle=> .arr aw rfl hC (by rw[ox,←aU];exact Nat.mul_le_mul_right _ uh) (fun h=>by cases h) (fun _=>eo rfl) fun i j y t' a b c=>by
          obtain ⟨v,hv,hp⟩:=hy i j y t' a b c
          exact ⟨v,hv,hp.mono hle.dp hle.cf⟩)
        refine ⟨k1.trans a1,a2,.whole (cY _ _ _) (cY _ _ _) ?_ uh hm⟩
        rw[ng hC,ox,aU]
       have same:xs=[]→(∃a c,x= .slice a 0 c)→dd P ((Builtin.append_ #[t,t] ty #[.slice (some ⟨b,0,none⟩) es.length cap,x]).run P w) w I β hp B M w0 ⟨.whole e nb,[(nb,.arr e (es++xs) false),(id,.dead)]⟩:=by
        intro gB Jk
        subst gB
        rw[List.append_nil]
        obtain ⟨a1,a2,a3⟩:=room Ca w es hh rfl (fun _ _=>rfl) (Nat.le_refl _) ⟨rfl,rfl⟩ cd mA
        exact ⟨_,_,_,_,PK hu hi _ _ _ x Jk cd,a1,a2,a3⟩
       rcases lx with ⟨⟨_,rfl⟩,rfl⟩|⟨a,c,news,cq⟩
       ·exact same rfl ⟨_,_,rfl⟩
       ·have h1:=cq.one aw
        have lr:es.length*P.cellsOf e≤Ca.toList.length:=by simpa using pr
        by_cases sM:es.length+xs.length≤cap
        ·have zP:es.length*P.cellsOf e+news.length≤Ca.size:=by rw[cq.len,←Nat.add_mul,←aU];exact Nat.mul_le_mul_right _ sM
         have da:=run_append_room (P:=P) w t ty e i hu hi b es.length cap Ca hh a xs.length c news (by rw[cq.len,h3]) cq.cell h1 sM (by rw[h3];exact zP)
         rw[h3] at da
         have cX:=Ef (P:=P) (w:=w) (I:=I) (n:=es.length) (c:=Ca.toList) rfl (fun i j y t' a b c=>by
          obtain ⟨v,hv,hp⟩:=mA i j y t' a b c
          exact ⟨v,by simpa using hv,hp⟩) cq.el lr (Ca.toList.drop (es.length*P.cellsOf e+news.length))
         obtain ⟨a1,a2,a3⟩:=room (Ca.toList.take (es.length*P.cellsOf e)++news++Ca.toList.drop (es.length*P.cellsOf e+news.length)).toArray (w.setRow b _) (es++xs)
          (setRow_heap w b Ca _ e _ hh) (by simp;omega) (fun b' ay=>setRow_other w b b' _ ay) (by simp) ⟨rfl,rfl⟩ (by simpa using sM)
          (fun i j y t' a b c=>by
           obtain ⟨v,hv,hp⟩:=cX i j y t' a b c
           exact ⟨v,by simpa using hv,hp⟩)
         rw[cq.val]
         rw[List.length_append] at a3
         exact ⟨_,_,_,_,da,a1,a2,a3⟩
        ·have hold: ∀(j:Nat) v,(Ca.toList.take (es.length*P.cellsOf e))[j]? =some v→w.cell? ((⟨b,0,none⟩:Addr).add j)=some v:=by
          intro j v hj
          have cZ:=(List.getElem?_eq_some_iff.1 hj).1
          have bZ:j<es.length*P.cellsOf e:=by rw[List.length_take] at cZ;omega
          rw[List.getElem?_take_of_lt bZ] at hj
          rw[nn,cell?_cells hh,Nat.zero_add]
          simpa using hj
         have da:=run_append_grow (P:=P) w t ty e i z hu hi hz ⟨b,0,none⟩ es.length cap (Ca.toList.take (es.length*P.cellsOf e)) (by rw[h3];simp;omega) hold a xs.length c news (by rw[cq.len,h3]) cq.cell (by omega) (by omega)
          (growslice_fits (by omega) (by rw[←mz];simp only[bH] at eM;omega))
         have po:=grownCap_ge w (es.length+xs.length) cap e
         have uq:grownCap w (es.length+xs.length) cap e≤maxLen:=grownCap_le_maxLen w _ cap e (by simp only[maxLen];omega)
         have cX:=Ef (P:=P) (w:=w) (I:=I) (n:=es.length) (c:=Ca.toList) rfl (fun i j y t' a b c=>by
          obtain ⟨v,hv,hp⟩:=mA i j y t' a b c
          exact ⟨v,by simpa using hv,hp⟩) cq.el lr (Builtin.zeroCells z.cells (grownCap w (es.length+xs.length) cap e-(es.length+xs.length))).toList
         obtain ⟨n1,n2,n3⟩:=wR k2.drew (nb:=nb) (cap:=grownCap w (es.length+xs.length) cap e) (es:=es++xs)
          (C0:=(Ca.toList.take (es.length*P.cellsOf e)).toArray++news.toArray++Builtin.zeroCells z.cells (grownCap w (es.length+xs.length) cap e-(es.length+xs.length))) aw j9
          (by
           have e1:(Ca.toList.take (es.length*P.cellsOf e)).length=es.length*P.cellsOf e:=by simp;omega
           simp only[Array.size_append,List.size_toArray,size_zeroCells,h4,cq.len,e1,←Nat.add_mul];congr 1;omega) (by simpa using po) uq
          (fun i j y t' a b c=>by
           obtain ⟨v,hv,hp⟩:=cX i j y t' a b c
           refine ⟨v,?_,Pure.drew hp⟩
           rw[←Array.getElem?_toList]
           simpa using hv)
         rw[cq.val]
         rw[List.length_append] at n3
         exact ⟨_,_,_,_,da,(k1.trans (Le.drew w I β _)).trans n1,n2,n3⟩
 | _=>cases h
end
section
variable {P:Program} {w w':World} {I I':Nat→Prop} {β ao:Nat→Option Nat} {hp hp':Nat→Option ag} {C:ae} {B:Nat} {M:Nat→Prop} {w0:Start}
theorem run_copy_none (w:World) {dT sT ty elem:TypeId} {i:TypeInfo} (a0:Option Addr) (PL Z6:Nat) (a1:Option Addr) (PM Z7:Nat) (hu:P.underlying dT=some (.slice elem)) (hi:P.info? elem=some i) (h0:Nat.min PM PL=0):
  (Builtin.copy_ #[dT,sT] ty #[.slice a0 PL Z6,.slice a1 PM Z7]).run P w= .ok (goInt 0) w:=by
 cases a0<;>cases a1<;>simp[Builtin.copy_,run_underlying hu,Builtin.lenOf,Builtin.firstCells,sizeOf,typeInfo,hi,h0,storeCells,loadCells,loadCellsFrom]
theorem Z8 (S:aC P w I β hp B M w0) {t u ty e:TypeId} {s x:Value} {sv xv:V} {r:R} {rd:List Nat} (hu:P.underlying t=some (.slice e)) (hs:ah P w I β hp s sv) (hx:ah P w I β hp x xv)
  (h:(Iq P e sv xv).run C hp=some (r,rd)):dd P ((Builtin.copy_ #[t,u] ty #[s,x]).run P w) w I β hp B M w0 r:=by
 unfold Iq at h
 obtain ⟨aw,h'⟩:=aD h
 clear h
 simp only[Bool.and_eq_true,Nat.beq_eq] at aw
 obtain ⟨aw,h1⟩:=aw
 obtain ⟨xs,lx,l0,h⟩:=Ee S.h.rel aw hx h'
 obtain ⟨i,z,hi,hz,aU,_⟩:=j8 aw
 cases sv<;>simp only at h<;>first|(cases h;done)|skip
 rename_i e' id
 obtain ⟨l,h2⟩:=run_get h
 clear h
 cases aa:hp id with
 | none=>rw[aa] at h2;cases h2
 | some blk=>
  rw[aa] at h2
  cases blk<;>simp only at h2<;>first|(cases h2;done)|skip
  rename_i e2 es fz
  cases fz with
  | true=>cases h2
  | false=>
  obtain ⟨hc,h3⟩:=aD h2
  simp only[Bool.and_eq_true,Nat.beq_eq] at hc
  obtain ⟨rfl,rfl⟩:=hc
  obtain rfl:=aI h3
  have pt:min xs.length es.length=0→(Builtin.copy_ #[t,u] ty #[s,x]).run P w= .ok (goInt 0) w→dd P ((Builtin.copy_ #[t,u] ty #[s,x]).run P w) w I β hp B M w0 ⟨.int .i64 (min xs.length es.length:Nat),[(id,.arr e (xs.take es.length++es.drop xs.length) false)]⟩:=by
   intro h0 hr
   have he:xs.take es.length++es.drop xs.length=es:=by
    rcases Nat.le_total xs.length es.length with hl|hl
    ·have:xs=[]:=List.eq_nil_of_length_eq_zero (by omega)
     simp[this]
    ·have:es=[]:=List.eq_nil_of_length_eq_zero (by omega)
     simp[this]
   have gp:bM hp [(id,.arr e (xs.take es.length++es.drop xs.length) false)]=hp:=by
    rw[he];exact IB hp id _ aa
   refine ⟨goInt 0,w,I,β,hr,?_⟩
   simp only[gp,h0]
   exact ⟨Le.refl w I β hp,S,.int⟩
  cases hs with
  | ej hd=>rw[aa] at hd;cases hd
  | eB hd=>rw[aa] at hd;cases hd
  | @dP _ _ fz a hd hb=>
   rw[aa] at hd
   cases hd
   refine pt (by simp) ?_
   rcases lx with ⟨⟨a',rfl⟩,rfl⟩|⟨a',c,news,cq⟩
   ·exact run_copy_none w _ _ _ _ _ _ hu hi (by simp)
   ·rw[cq.val];exact run_copy_none w _ _ _ _ _ _ hu hi (by simp)
  | @whole _ _ aH nc b cap hd hb zQ cd hm=>
   have eS:=hd
   rw[aa] at hd
   cases hd
   rcases lx with ⟨⟨a',rfl⟩,rfl⟩|⟨a',c,news,cq⟩
   ·exact pt (by simp) (run_copy_none w _ _ _ _ _ _ hu hi (by simp))
   have hr:=S.h.rel id _ aa
   cases hr with
   | dQ ay=>rw[ay] at hb;cases hb
   | @arr _ _ _ b' Ca _ ay hh pr hf eo mA=>
    rw[hb] at ay
    cases ay
    have mw:news.length=xs.length:=by rw[cq.len,h1,Nat.mul_one]
    rw[h1,Nat.mul_one] at pr
    have ka:(news.take es.length).length=Nat.min xs.length es.length:=by
     rw[List.length_take,mw,Nat.min_comm]
    have PN:Nat.min xs.length es.length=min xs.length es.length:=rfl
    have da:=run_copy_row (P:=P) w t u ty e b 0 es.length cap a' xs.length c Ca e (news.take es.length) hu (by rw[hi];simp[aU,h1]) hh ka
     (fun j v hj=>cq.cell j v (by
      have:=(List.getElem?_eq_some_iff.1 hj).1
      rw[List.length_take] at this
      rwa [List.getElem?_take_of_lt (by omega)] at hj)) (by rw[ka,PN];omega) (fun v hv=>cq.one aw v (List.mem_of_mem_take hv))
    rw[cq.val]
    have hq:(goInt (news.take es.length).length)= .int .i64 ((min xs.length es.length:Nat):Int):=by rw[ka];rfl
    have jh:(xs.take es.length++es.drop xs.length).length=es.length:=by simp;omega
    have ox:(Ca.toList.take 0++news.take es.length++Ca.toList.drop (0+(news.take es.length).length)).toArray.size=Ca.size:=by
     simp only[List.size_toArray,List.length_append,List.length_drop,List.length_take,ka,PN]
     simp
     omega
    obtain ⟨a1,a2⟩:=D3 S (blk':= .arr e (xs.take es.length++es.drop xs.length) false) (Cb:=(Ca.toList.take 0++news.take es.length++Ca.toList.drop (0+(news.take es.length).length)).toArray) aa (by simp) ⟨rfl,jh.symm⟩ hb (eo rfl) (by simp) hh ox
     (fun hle fb=> .arr aw rfl fb (by rw[ox,jh,h1,Nat.mul_one];exact pr) (fun h=>by cases h) (fun _=>eo rfl) fun i j y t' hy ht hj=>by
      rw[h1] at hj⊢
      obtain rfl:j=0:=by omega
      rw[Nat.mul_one,Nat.add_zero]
      have qD:=(List.getElem?_eq_some_iff.1 hy).1
      rw[jh] at qD
      by_cases zR:i<xs.length
      ·rw[List.getElem?_append_left (by rw[List.length_take];omega),List.getElem?_take_of_lt qD] at hy
       obtain ⟨u',k1,k2⟩:=cq.el i 0 y t' hy ht (by omega)
       rw[h1,Nat.mul_one,Nat.add_zero] at k1
       refine ⟨u',?_,k2.mono hle.dp hle.cf⟩
       simp only[List.take_zero,List.nil_append,List.getElem?_toArray]
       rw[List.getElem?_append_left (by rw[List.length_take];omega),List.getElem?_take_of_lt qD]
       exact k1
      ·have e1:(xs.take es.length).length=xs.length:=by rw[List.length_take];omega
       rw[List.getElem?_append_right (by omega),e1,List.getElem?_drop,show xs.length+(i-xs.length)=i by omega] at hy
       obtain ⟨u',k1,k2⟩:=mA i 0 y t' hy ht (by omega)
       rw[h1,Nat.mul_one,Nat.add_zero] at k1
       refine ⟨u',?_,k2.mono hle.dp hle.cf⟩
       simp only[List.take_zero,List.nil_append,List.getElem?_toArray,Nat.zero_add]
       have e2:(news.take es.length).length=xs.length:=by rw[List.length_take];omega
       rw[List.getElem?_append_right (by omega),e2,List.getElem?_drop,show xs.length+(i-xs.length)=i by omega]
       simpa using k1)
    exact ⟨_,_,_,_,da,a1,a2,by rw[hq];exact .int⟩
theorem Z9 (S:aC P w I β hp B M w0) {t ty e:TypeId} {x:Value} {xv:V} {r:R} {rd:List Nat} (hu:P.underlying t=some (.slice e)) (hx:ah P w I β hp x xv)
  (h:(Ip P e xv).run C hp=some (r,rd)):dd P ((Builtin.clear_ #[t] ty #[x]).run P w) w I β hp B M w0 r:=by
 unfold Ip at h
 obtain ⟨cX,h'⟩:=aD h
 clear h
 have aw:cW P e=true:=by
  unfold mh at cX;simp only[Bool.and_eq_true] at cX;exact cX.1
 obtain ⟨i,z,hi,hz,aU,zS,hzp⟩:=zO (w:=w) (I:=I) cX
 have iE:=(j6 aw).2
 cases xv<;>simp only at h'<;>first|(cases h';done)|skip
 rename_i e' id off len
 obtain ⟨l,h2⟩:=run_get h'
 clear h'
 cases aa:hp id with
 | none=>rw[aa] at h2;cases h2
 | some blk=>
  rw[aa] at h2
  cases blk<;>simp only at h2<;>first|(cases h2;done)|skip
  rename_i e2 es fz
  cases fz with
  | true=>cases h2
  | false=>
  obtain ⟨hc,h3⟩:=aD h2
  simp only[Bool.and_eq_true,Nat.beq_eq] at hc
  obtain ⟨rfl,rfl⟩:=hc
  obtain rfl:=aI h3
  have pt:len=0→(Builtin.clear_ #[t] ty #[x]).run P w= .ok (.tuple #[]) w→dd P ((Builtin.clear_ #[t] ty #[x]).run P w) w I β hp B M w0 ⟨.a8 [],[(id,.arr e (es.take off++(List.replicate len (ct P e (eQ P e))++es.drop (off+len))) false)]⟩:=by
   intro h0 hr
   subst h0
   have gp:bM hp [(id,.arr e (es.take off++(List.replicate 0 (ct P e (eQ P e))++es.drop (off+0))) false)]=hp:=by
    simp only[List.replicate_zero,List.nil_append,Nat.add_zero,List.take_append_drop]
    exact IB hp id _ aa
   refine ⟨.tuple #[],w,I,β,hr,?_⟩
   simp only[gp]
   exact ⟨Le.refl w I β hp,S,.a8 rfl fun j v x hj hx=>by simp at hx⟩
  cases hx with
  | gm hd=>rw[aa] at hd;cases hd
  | @fY _ _ _ a0 hd hb=>exact pt rfl (by cases a0<;>simp[Builtin.clear_,run_underlying hu])
  | @sub _ _ _ _ aH nc b o cap hd hb jf cd ho=>
   by_cases hlen:len=0
   ·refine pt hlen ?_
    subst hlen
    simp[Builtin.clear_,run_underlying hu]
   have aaa:0<len:=by omega
   have eS:=hd
   rw[aa] at hd
   cases hd
   have hr:=S.h.rel id _ aa
   cases hr with
   | dQ ay=>rw[ay] at hb;cases hb
   | @arr _ _ _ b' Ca _ ay hh pr hf eo mA=>
    rw[hb] at ay
    cases ay
    have ho:=ho aaa
    subst ho
    have uk:(Builtin.zeroCells z.cells len).toList.length=len*P.cellsOf e:=by rw[Array.length_toList,size_zeroCells,zS]
    have hmul:off*P.cellsOf e+len*P.cellsOf e≤es.length*P.cellsOf e:=by rw[←Nat.add_mul];exact Nat.mul_le_mul_right _ jf
    have qA: ∀v∈(Builtin.zeroCells z.cells len).toList,v.oneCell'=true:=by
     intro v hv
     obtain ⟨k,hk⟩:=List.getElem?_of_mem hv
     have lu:=(List.getElem?_eq_some_iff.1 hk).1
     rw[uk] at lu
     have hzg:(Builtin.zeroCells z.cells len)[k]? =z.cells[k %z.cells.size]? :=PF (z:=z.cells) (n:=len*z.cells.size) (by rw[zS];exact lu) (by rw[zS];exact iE)
     rw[Array.getElem?_toList,hzg] at hk
     have hm:k %z.cells.size<P.cellsOf e:=by rw[zS];exact Nat.mod_lt _ iE
     have htl:k %z.cells.size<(aO P e).length:=by rw[fL aw];exact hm
     obtain ⟨v',wE,hp'⟩:=hzp (k %z.cells.size) _ (List.getElem?_eq_getElem htl) hm
     rw[hk] at wE
     cases wE
     generalize bI P e (ct P e (eQ P e)) (k %z.cells.size)=y at hp'
     cases hp'<;>rfl
    have bP:=run_storeCells_at P b (off*P.cellsOf e) e (Builtin.zeroCells z.cells len).toList 0 Ca w hh (by rw[uk];omega) qA
    simp only[Nat.add_zero] at bP
    have da:(Builtin.clear_ #[t] ty #[.slice (some ⟨b,off*P.cellsOf e,none⟩) len cap]).run P w= .ok (.tuple #[]) (w.setRow b (Ca.toList.take (off*P.cellsOf e)++(Builtin.zeroCells z.cells len).toList++Ca.toList.drop (off*P.cellsOf e+(Builtin.zeroCells z.cells len).toList.length)).toArray):=by
     obtain ⟨n,rfl⟩: ∃n,len=n+1:=⟨len-1,by omega⟩
     simp[Builtin.clear_,run_underlying hu,zeroValue,typeInfo,hi,hz,bP]
    have jh:(es.take off++(List.replicate len (ct P e (eQ P e))++es.drop (off+len))).length=es.length:=by simp;omega
    have ox:(Ca.toList.take (off*P.cellsOf e)++(Builtin.zeroCells z.cells len).toList++Ca.toList.drop (off*P.cellsOf e+(Builtin.zeroCells z.cells len).toList.length)).toArray.size=Ca.size:=by
     simp only[List.size_toArray,List.length_append,List.length_drop,List.length_take,uk,Array.length_toList]
     omega
    obtain ⟨a1,a2⟩:=D3 S (blk':= .arr e (es.take off++(List.replicate len (ct P e (eQ P e))++es.drop (off+len))) false) aa (by simp) ⟨rfl,jh.symm⟩ hb (eo rfl) (by simp) hh ox
     (fun hle fb=> .arr aw rfl fb (by rw[ox,jh];exact pr) (fun h=>by cases h) (fun _=>eo rfl) fun i' j y t' hy ht hj=>by
      have kL:=np es (List.replicate len (ct P e (eQ P e))) off i' (by simp;omega)
      rw[List.length_replicate] at kL
      rw[kL] at hy
      have hC:(Ca.toList.take (off*P.cellsOf e)++(Builtin.zeroCells z.cells len).toList++Ca.toList.drop (off*P.cellsOf e+(Builtin.zeroCells z.cells len).toList.length)).toArray[i'*P.cellsOf e+j]? =
        if i'*P.cellsOf e+j<off*P.cellsOf e then Ca.toList[i'*P.cellsOf e+j]? else if i'*P.cellsOf e+j<off*P.cellsOf e+len*P.cellsOf e then (Builtin.zeroCells z.cells len).toList[i'*P.cellsOf e+j-off*P.cellsOf e]? else Ca.toList[i'*P.cellsOf e+j]? :=by
       have:=np Ca.toList (Builtin.zeroCells z.cells len).toList (off*P.cellsOf e) (i'*P.cellsOf e+j) (by rw[uk,Array.length_toList];omega)
       rw[List.getElem?_toArray,List.append_assoc,this,uk]
      by_cases gr:i'<off
      ·rw[if_pos gr] at hy
       have:(i'+1)*P.cellsOf e≤off*P.cellsOf e:=Nat.mul_le_mul_right _ gr
       rw[Nat.add_mul] at this
       rw[if_pos (by omega)] at hC
       obtain ⟨u,k1,k2⟩:=mA i' j y t' hy ht hj
       exact ⟨u,hC.trans (by simpa using k1),k2.mono hle.dp hle.cf⟩
      ·rw[if_neg gr] at hy
       have h1:off*P.cellsOf e≤i'*P.cellsOf e:=Nat.mul_le_mul_right _ (by omega)
       rw[if_neg (by omega)] at hC
       by_cases kK:i'<off+len
       ·rw[if_pos kK] at hy
        have:(i'+1)*P.cellsOf e≤(off+len)*P.cellsOf e:=Nat.mul_le_mul_right _ kK
        rw[Nat.add_mul,Nat.add_mul] at this
        rw[if_pos (by omega)] at hC
        obtain ⟨v,k1,k2⟩:=Ec (w:=w) (I:=I) cX hi hz len len (Nat.le_refl _) (i'-off) j y t' hy ht hj
        refine ⟨v,hC.trans ?_,k2.mono hle.dp hle.cf⟩
        rw[show i'*P.cellsOf e+j-off*P.cellsOf e=(i'-off)*P.cellsOf e+j by rw[Nat.sub_mul];omega,Array.getElem?_toList]
        unfold Builtin.zeroCells
        rw[zS] at k1⊢
        exact k1
       ·rw[if_neg kK] at hy
        have:(off+len)*P.cellsOf e≤i'*P.cellsOf e:=Nat.mul_le_mul_right _ (by omega)
        rw[Nat.add_mul] at this
        rw[if_neg (by omega)] at hC
        obtain ⟨u,k1,k2⟩:=mA i' j y t' hy ht hj
        exact ⟨u,hC.trans (by simpa using k1),k2.mono hle.dp hle.cf⟩)
    exact ⟨_,_,_,_,da,a1,a2,.a8 rfl fun j v x hj hx=>by simp at hx⟩
end
section
variable {P:Program} {w w':World} {I I':Nat→Prop} {β ao:Nat→Option Nat} {hp hp':Nat→Option ag} {C:ae} {B:Nat} {M:Nat→Prop} {w0:Start}
theorem aab (S:aC P w I β hp B M w0) {s:TypeId} {f:Nat} {v:Value} {x:V} {r:R} {rd:List Nat} (hv:ah P w I β hp v x)
  (h:(It P s f x).run C hp=some (r,rd)):dd P ((Instr.field s v f).run P w) w I β hp B M w0 r:=by
 unfold It Dv at h
 split at h
 ·rename_i fs hu
  cases hf:fs[f]? with
  | none=>rw[hf] at h;cases h
  | some fd=>
   rw[hf] at h
   simp only[wg] at h
   obtain ⟨ht,h⟩:=aD h
   obtain ⟨d,ur⟩:=zF ht
   obtain ⟨i,hi⟩:=wC ur
   have aU:i.size=P.cellsOf fd.type:=by simp[Program.cellsOf,hi]
   cases x with
   | agg xs=>
    obtain ⟨cs,rfl,h1,h2⟩:=hv.kH
    dsimp only at h
    cases ha:bE P fd.type with
    | true=>
     rw[ha] at h
     simp only[cond_true] at h
     obtain ⟨hc,h⟩:=aD h
     obtain rfl:=aI h
     rw[Nat.ble_eq] at hc
     refine .same S (v:= .agg (cs.extract fd.offset (fd.offset+P.cellsOf fd.type))) ?_ (.agg (by simp;omega) fun j u y ga hy=> ?_)
     ·simp[Instr.field,run_underlying hu,hf,part,IS ur,ha,asAgg,sizeOf,typeInfo,hi,aU]
     ·have hj:j<P.cellsOf fd.type:=by
       have:=(Array.getElem?_eq_some_iff.1 ga).1
       simp at this;omega
      rw[List.getElem?_take_of_lt hj,List.getElem?_drop] at hy
      refine h2 (fd.offset+j) u y ?_ hy
      rw[Array.getElem?_extract] at ga
      split at ga
      ·exact ga
      ·cases ga
    | false=>
     rw[ha] at h
     simp only[cond_false] at h
     obtain ⟨y,hy,h⟩:=ln h
     obtain rfl:=aI h
     have aM:fd.offset<cs.size:=by rw[h1];exact (List.getElem?_eq_some_iff.1 hy).1
     refine .same S (v:=cs[fd.offset]) ?_ (h2 _ _ _ (Array.getElem?_eq_getElem aM) hy)
     simp[Instr.field,run_underlying hu,hf,part,IS ur,ha,asAgg,aM]
   | _=>cases h
 ·cases h
theorem aac (S:aC P w I β hp B M w0) {i:Nat} {v:Value} {xs:List V} {r:R} {rd:List Nat} (hv:ah P w I β hp v (.a8 xs))
  (h:(Rd.opt xs[i]? fun v=> .ret ⟨v,[]⟩).run C hp=some (r,rd)):dd P ((Instr.extract v i).run P w) w I β hp B M w0 r:=by
 obtain ⟨cs,rfl,h1,h2⟩:=hv.ub
 obtain ⟨y,hy,h⟩:=ln h
 obtain rfl:=aI h
 have aM:i<cs.size:=by rw[h1];exact (List.getElem?_eq_some_iff.1 hy).1
 exact .same S (v:=cs[i]) (by simp[Instr.extract,aM]) (h2 _ _ _ (Array.getElem?_eq_getElem aM) hy)
theorem aad (S:aC P w I β hp B M w0) {t:TypeId} {s:ByteArray} {l:List UInt8} {k:IntKind} {i:Int} {r:R} {rd:List Nat} (hu:P.underlying t=some .string) (hs:s.data.toList=l)
  (h:(Rd.opt (bif decide (0≤i) then (l[i.toNat]?).map fun b=>V.int .u8 b.toNat else none) fun v=> .ret ⟨.int .u8 v.toInt,[]⟩).run C hp=some (r,rd)):
  dd P ((Instr.index t (.string s) (.int k i)).run P w) w I β hp B M w0 r:=by
 obtain ⟨v,hv,h⟩:=ln h
 obtain rfl:=aI h
 cases hc:decide (0≤i) with
 | false=>rw[hc] at hv;cases hv
 | true=>
  rw[hc] at hv
  simp only[cond_true] at hv
  have h0:0≤i:=by simpa using hc
  cases hb:l[i.toNat]? with
  | none=>rw[hb] at hv;cases hv
  | some b=>
   rw[hb] at hv
   simp only[Option.map_some,Option.some.injEq] at hv
   subst hv
   have Jo:s[i.toNat]? =some b:=by
    subst hs
    obtain ⟨aM,he⟩:=List.getElem?_eq_some_iff.1 hb
    have Jp:i.toNat<s.size:=by simpa using aM
    rw[getElem?_pos s i.toNat Jp]
    congr 1
   refine .same S (v:= .int .u8 b.toNat) ?_ .int
   simp[Instr.index,asIntOf,run_underlying hu,h0,Jo]
theorem Jq (S:aC P w I β hp B M w0) (mx:Bool): ∀{vs:List Value} {xs:List V} {v:Value} {x:V} {r:R} {rd:List Nat},ah P w I β hp v x→vs.length=xs.length→
  (∀(j:Nat) u y,vs[j]? =some u→xs[j]? =some y→ah P w I β hp u y)→(wh mx x xs).run C hp=some (r,rd)→
  dd P ((vs.foldlM (if mx then Builtin.max2 else Builtin.min2) v).run P w) w I β hp B M w0 r
 | [],[],v,x,r,rd,hv,_,_,h=>by
  have:r=⟨x,[]⟩:=by
   cases x<;>(simp only[wh] at h;exact (aI h).symm)
  subst this
  exact .same S (by simp) hv
 | [],_::_,v,x,r,rd,hv,hl,_,h=>by simp at hl
 | _::_,[],v,x,r,rd,hv,hl,_,h=>by simp at hl
 | u::vs,y::xs,v,x,r,rd,hv,hl,hx,h=>by
  cases x<;>cases y<;>simp only[wh] at h<;>first|(cases h;done)|skip
  rename_i k a k' b
  obtain ⟨hc,h4⟩:=aD h
  clear h
  obtain rfl:k=k':=by simpa using hc
  have hu:=hx 0 u _ rfl rfl
  rw[hv.eC,hu.eC]
  have ih:=Jq S mx (vs:=vs) (xs:=xs) (v:= .int k (bif mx then (if b>a then b else a) else (if b<a then b else a))) .int (by simpa using hl)
   (fun j u y h1 h2=>hx (j+1) u y (by simpa using h1) (by simpa using h2)) h4
  cases mx with
  | true=>simpa[List.foldlM_cons,Builtin.max2] using ih
  | false=>simpa[List.foldlM_cons,Builtin.min2] using ih
theorem qE {n cap:Nat} {isS:Bool} {lo hi:Option V} {lov hiv:Option Value} {k:Nat→Nat→Rd R} {r:R} {rd:List Nat} (hn:n≤cap)
  (iJ: ∀x,lo=some x→∃v,lov=some v∧ah P w I β hp v x) (gQ: ∀x,hi=some x→∃v,hiv=some v∧ah P w I β hp v x) (nt:lo=none→lov=none) (oy:hi=none→hiv=none)
  (h:(su n lo hi k).run C hp=some (r,rd)): ∃l u,l≤u∧u≤n∧(Instr.sliceBounds isS n cap lov hiv none).run P w= .ok (l,u,cap) w∧(k l u).run C hp=some (r,rd):=by
 have ok: ∀(kk:IntKind) (i:Int) (y:Nat) (c:BoundsCode),0≤i→i≤y→(Instr.sliceBound (.int kk i) y c).run P w= .ok i.toNat w:=by
  intro kk i y c h1 h2
  simp[Instr.sliceBound,asIntOf,h1,h2]
 unfold su at h
 cases lo with
 | none=>
  rw[nt rfl]
  cases hi with
  | none=>
   rw[oy rfl]
   exact ⟨0,n,Nat.zero_le _,Nat.le_refl _,by simp[Instr.sliceBounds],h⟩
  | some x=>
   obtain ⟨v,rfl,hv⟩:=gQ x rfl
   cases x<;>simp only at h<;>first|(cases h;done)|skip
   rename_i kk u
   obtain ⟨hc,h⟩:=aD h
   simp only[Bool.and_eq_true,decide_eq_true_eq] at hc
   rw[hv.eC]
   have:=ok kk u cap (if isS then .sliceAcap else .sliceAlen) hc.1 (by omega)
   exact ⟨0,u.toNat,Nat.zero_le _,by omega,by simp[Instr.sliceBounds,this],h⟩
 | some x=>
  obtain ⟨v,rfl,hv⟩:=iJ x rfl
  cases hi with
  | none=>
   rw[oy rfl]
   cases x<;>simp only at h<;>first|(cases h;done)|skip
   rename_i kk l
   obtain ⟨hc,h⟩:=aD h
   simp only[Bool.and_eq_true,decide_eq_true_eq] at hc
   rw[hv.eC]
   have:=ok kk l n .sliceB hc.1 (by omega)
   exact ⟨l.toNat,n,by omega,Nat.le_refl _,by simp[Instr.sliceBounds,this],h⟩
  | some y=>
   obtain ⟨v2,rfl,qn⟩:=gQ y rfl
   cases x<;>cases y<;>simp only at h<;>first|(cases h;done)|skip
   rename_i kk l kk2 u
   obtain ⟨hc,h⟩:=aD h
   simp only[Bool.and_eq_true,decide_eq_true_eq] at hc
   rw[hv.eC,qn.eC]
   have h1:=ok kk2 u cap (if isS then .sliceAcap else .sliceAlen) (by omega) (by omega)
   have h2:=ok kk l u.toNat .sliceB hc.1 (by omega)
   exact ⟨l.toNat,u.toNat,by omega,by omega,by simp[Instr.sliceBounds,h1,h2],h⟩
theorem Ej {a:Option Addr} {t e:TypeId} {i:TypeInfo} (hu:P.underlying t=some (.slice e)) (hi:P.info? e=some i) {lov hiv:Option Value}
  (hb:(Instr.sliceBounds true 0 0 lov hiv none).run P w= .ok (0,0,0) w):(Instr.sliceAt t (.slice a 0 0) lov hiv none).run P w= .ok (.slice a 0 0) w:=by
 cases a<;>simp[Instr.sliceAt,Instr.slice,run_underlying hu,hb,sizeOf,typeInfo,hi]
theorem Jr {t e:TypeId} {i:TypeInfo} {b o len cap l u:Nat} (hu:P.underlying t=some (.slice e)) (hi:P.info? e=some i) {lov hiv:Option Value} (huc:u≤cap)
  (hb:(Instr.sliceBounds true len cap lov hiv none).run P w= .ok (l,u,cap) w): ∃o',(0<u-l→o'=o+l*i.size)∧(Instr.sliceAt t (.slice (some ⟨b,o,none⟩) len cap) lov hiv none).run P w= .ok (.slice (some ⟨b,o',none⟩) (u-l) (cap-l)) w:=by
 by_cases hc:cap=l
 ·subst hc
  refine ⟨o,fun h=>by omega,?_⟩
  ·simp[Instr.sliceAt,Instr.slice,run_underlying hu,hb,sizeOf,typeInfo,hi]
 ·refine ⟨o+l*i.size,fun _=>rfl,?_⟩
  simp[Instr.sliceAt,Instr.slice,run_underlying hu,hb,sizeOf,typeInfo,hi,hc,nn]
theorem aae (s:ByteArray) (l:List UInt8) (h:s.data.toList=l) (a b:Nat):(s.extract a b).data.toList=(l.drop a).take (b-a):=by
 subst h
 simp[ByteArray.data_extract]
theorem aaf (S:aC P w I β hp B M w0) {t:TypeId} {v:Value} {x:V} {lo hi:Option V} {lov hiv:Option Value} {r:R} {rd:List Nat} (hv:ah P w I β hp v x)
  (iJ: ∀x,lo=some x→∃v,lov=some v∧ah P w I β hp v x) (gQ: ∀x,hi=some x→∃v,hiv=some v∧ah P w I β hp v x) (nt:lo=none→lov=none) (oy:hi=none→hiv=none)
  (h:(DB P t x lo hi).run C hp=some (r,rd)):dd P ((Instr.sliceAt t v lov hiv none).run P w) w I β hp B M w0 r:=by
 unfold DB at h
 cases hu:P.underlying t with
 | none=>rw[hu] at h;cases h
 | some d=>
  rw[hu] at h
  cases d<;>simp only at h<;>first|(cases h;done)|skip
  case string=>
   cases x<;>simp only at h<;>first|(cases h;done)|skip
   rename_i l
   obtain ⟨s,rfl,hs⟩:=hv.mr
   have aU:l.length=s.size:=by rw[←hs];simp
   obtain ⟨a,u,h1,h2,h3,h4⟩:=qE (isS:=false) (cap:=s.size) (by omega) iJ gQ nt oy h
   obtain rfl:=aI h4
   rw[aU] at h3
   refine .same S (v:= .string (s.extract a u)) ?_ (.str (aae s l hs a u))
   simp[Instr.sliceAt,Instr.slice,run_underlying hu,h3]
  case slice e=>
   cases x<;>simp only at h<;>first|(cases h;done)|skip
   case list e' es=>
    obtain ⟨hc,h⟩:=aD h
    simp only[Bool.and_eq_true,Nat.beq_eq] at hc
    obtain ⟨dR,aw⟩:=hc
    obtain ⟨i,z,dZ,_,aU,_⟩:=j8 aw
    cases hv with
    | list hp'=>
     cases hp' with
     | nil=>
      obtain ⟨a,u,h1,h2,h3,h4⟩:=qE (n:=0) (isS:=true) (cap:=0) (Nat.le_refl _) iJ gQ nt oy h
      obtain rfl:=aI h4
      obtain rfl:u=0:=by omega
      obtain rfl:a=0:=by omega
      exact .same S (Ej hu dZ h3) (by simpa using ah.list iD.nil)
     | @emp ad cap=>
      obtain ⟨a,u,h1,h2,h3,h4⟩:=qE (n:=0) (isS:=true) (cap:=cap) (Nat.zero_le _) iJ gQ nt oy h
      obtain rfl:=aI h4
      obtain rfl:u=0:=by omega
      obtain rfl:a=0:=by omega
      refine .same S (v:= .slice (some ad) 0 cap) ?_ (by simpa using ah.list iD.emp)
      by_cases hc:cap=0
      ·subst hc
       simp[Instr.sliceAt,Instr.slice,run_underlying hu,h3,sizeOf,typeInfo,dZ]
      ·simp[Instr.sliceAt,Instr.slice,run_underlying hu,h3,sizeOf,typeInfo,dZ,hc,Addr.add]
     | @list b o len cap _ g hl cd hI gn hx=>
      obtain ⟨a,u,h1,h2,h3,h4⟩:=qE (isS:=true) (cap:=cap) (by omega) iJ gQ nt oy h
      obtain rfl:=aI h4
      rw[hl] at h2 h3
      obtain ⟨o',mq,da⟩:=Jr (b:=b) (o:=o) hu dZ (by omega) h3
      have gC:e=e':=dR
      refine .same S da (.list ?_)
      rw[←gC]
      rw[←gC] at gn hx hI
      have hlen:((es.drop a).take (u-a)).length=u-a:=by simp;omega
      refine .list (fun i j=>g (a+i) j) hlen (by omega) (fun h=>hI (Nat.lt_of_lt_of_le h (Nat.mul_le_mul_right _ (by omega)))) (fun i j hi hj=> ?_) (fun i j y t' hy ht=> ?_)
      ·have:=gn (a+i) j (by omega) hj
       rw[Nat.add_mul,Nat.add_assoc,←Nat.add_assoc o] at this
       rw[mq (by omega),aU]
       exact this
      ·have hi:i<u-a:=by rw[←hlen];exact (List.getElem?_eq_some_iff.1 hy).1
       rw[List.getElem?_take_of_lt hi,List.getElem?_drop] at hy
       exact hx (a+i) j y t' hy ht
   case whole e' id=>
    obtain ⟨l,h⟩:=run_get h
    cases aa:hp id with
    | none=>rw[aa] at h;cases h
    | some blk=>
     rw[aa] at h
     cases blk<;>simp only at h<;>first|(cases h;done)|skip
     rename_i dN es fz
     obtain ⟨hc,h9⟩:=aD h
     clear h
     simp only[Bool.and_eq_true,Nat.beq_eq] at hc
     obtain ⟨dR,jz,aw⟩:=hc
     obtain ⟨i,z,dZ,_,aU,_⟩:=j8 aw
     cases hv with
     | ej hd=>rw[aa] at hd;cases hd
     | eB hd=>rw[aa] at hd;cases hd
     | dP hd hb=>
      rw[aa] at hd
      cases hd
      obtain ⟨a,u,h1,h2,h3,h4⟩:=qE (n:=0) (isS:=true) (cap:=0) (Nat.le_refl _) iJ gQ nt oy h9
      obtain rfl:=aI h4
      obtain rfl:u=0:=by omega
      obtain rfl:a=0:=by omega
      exact .same S (Ej hu dZ h3) (.fY aa hb)
     | @whole _ _ aH nc b cap hd hb zQ cd hm=>
      have eS:=hd
      rw[aa] at hd
      cases hd
      obtain ⟨a,u,h1,h2,h3,h4⟩:=qE (isS:=true) (cap:=cap) cd iJ gQ nt oy h9
      obtain rfl:=aI h4
      obtain ⟨o',mq,da⟩:=Jr (b:=b) (o:=0) hu dZ (by omega) h3
      have gC:e=e':=dR
      exact .same S da (.sub eS hb (by omega) (by omega) (fun h=>by rw[mq h,aU,gC,Nat.zero_add]))
   case sub e' id off len=>
    obtain ⟨l,h⟩:=run_get h
    cases aa:hp id with
    | none=>rw[aa] at h;cases h
    | some blk=>
     rw[aa] at h
     cases blk<;>simp only at h<;>first|(cases h;done)|skip
     rename_i dN es fz
     obtain ⟨hc,h⟩:=aD h
     simp only[Bool.and_eq_true,Nat.beq_eq] at hc
     obtain ⟨dR,jz,aw⟩:=hc
     obtain ⟨i,z,dZ,_,aU,_⟩:=j8 aw
     cases hv with
     | gm hd=>rw[aa] at hd;cases hd
     | fY hd hb=>
      have eS:=hd
      obtain ⟨a,u,h1,h2,h3,h4⟩:=qE (isS:=true) (cap:=0) (Nat.le_refl _) iJ gQ nt oy h
      obtain rfl:=aI h4
      obtain rfl:u=0:=by omega
      obtain rfl:a=0:=by omega
      exact .same S (Ej hu dZ h3) (.fY eS hb)
     | @sub _ _ _ _ aH nc b o cap hd hb jf cd ho=>
      have eS:=hd
      obtain ⟨a,u,h1,h2,h3,h4⟩:=qE (isS:=true) (cap:=cap) cd iJ gQ nt oy h
      obtain rfl:=aI h4
      obtain ⟨o',mq,da⟩:=Jr (b:=b) (o:=o) hu dZ (by omega) h3
      have gC:e=e':=dR
      exact .same S da (.sub eS hb (by omega) (by omega) (fun h=>by rw[mq h,aU,ho (by omega),gC,Nat.add_mul]))
theorem aag (S:aC P w I β hp B M w0) {t:TypeId} {v:Value} {x:V} {lo hi mx:Option V} {lov hiv PO:Option Value} {r:R} {rd:List Nat} (hv:ah P w I β hp v x)
  (iJ:lo=none→lov=none) (gQ: ∀y,hi=some y→∃u,hiv=some u∧ah P w I β hp u y) (oo: ∀y,mx=some y→∃u,PO=some u∧ah P w I β hp u y)
  (h:(Ir P t x lo hi mx).run C hp=some (r,rd)):dd P ((Instr.sliceAt t v lov hiv PO).run P w) w I β hp B M w0 r:=by
 unfold Ir at h
 cases hu:P.underlying t with
 | none=>rw[hu] at h;cases h
 | some d=>
  rw[hu] at h
  cases d<;>(try (cases h;done))
  rename_i e
  cases lo<;>(try (cases h;done))
  cases hi<;>(try (cases h;done))
  rename_i wS
  cases wS<;>(try (cases h;done))
  cases mx<;>(try (cases h;done))
  rename_i mv1
  cases mv1<;>(try (cases h;done))
  obtain ⟨hc,h9⟩:=aD h
  clear h
  have h:=h9
  clear h9
  simp only[Bool.and_eq_true,decide_eq_true_eq] at hc
  obtain ⟨rfl,rfl,aw⟩:=hc
  obtain ⟨i,z,dZ,_,_,_⟩:=j8 aw
  obtain ⟨u1,rfl,k1⟩:=gQ _ rfl
  obtain ⟨u2,rfl,k2⟩:=oo _ rfl
  rw[k1.eC,k2.eC,iJ rfl]
  have run: ∀{k k2:IntKind} (a:Option Addr) (len cap:Nat),(Instr.sliceAt t (.slice a len cap) none (some (.int k 0)) (some (.int k2 0))).run P w= .ok (.slice a 0 0) w:=by
   intro k k2 a len cap
   cases a<;>simp[Instr.sliceAt,Instr.slice,Instr.sliceBounds,Instr.sliceBound,asIntOf,run_underlying hu,sizeOf,typeInfo,dZ]
  cases x<;>(try (cases h;done))
  ·simp only at h
   obtain rfl:=aI h
   cases hv with
   | list hp'=>cases hp'<;>exact .same S (run _ _ _) .nilS
  ·simp only at h
   obtain rfl:=aI h
   cases hv
   exact .same S (run _ _ _) .nilS
  ·rename_i e' id
   simp only at h
   obtain ⟨l,h⟩:=run_get h
   cases aa:hp id with
   | none=>rw[aa] at h;cases h
   | some blk=>
    rw[aa] at h
    cases blk<;>simp only at h<;>first|(cases h;done)|skip
    all_goals
     obtain rfl:=aI h
     cases hv with
     | ej hd=>rw[aa] at hd;cases hd
     | eB hd=>exact .same S (run _ _ _) .nilS
     | dP hd hb=>exact .same S (run _ _ _) .nilS
     | whole hd=>exact .same S (run _ _ _) .nilS
theorem aah (S:aC P w I β hp B M w0) {t:TypeId} {v ix:Value} {x y:V} {r:R} {rd:List Nat} (hv:ah P w I β hp v x) (hy:ah P w I β hp ix y)
  (h:(Iu P t x y).run C hp=some (r,rd)):dd P ((Instr.indexAt t v ix).run P w) w I β hp B M w0 r:=by
 unfold Iu at h
 cases hu:P.underlying t with
 | none=>rw[hu] at h;cases h
 | some d=>
  rw[hu] at h
  cases y<;>(try (cases d<;>cases h;done))
  rename_i k i
  rw[hy.eC]
  cases d<;>simp only at h<;>first|(cases h;done)|skip
  case slice e=>
   have run: ∀(b o len cap:Nat) (ie:TypeInfo),P.info? e=some ie→0≤i→i<(len:Int)→(Instr.indexAt t (.slice (some ⟨b,o,none⟩) len cap) (.int k i)).run P w= .ok (.pointer (some ⟨b,o+i.toNat*ie.size,none⟩)) w:=by
    intro b o len cap ie jD h0 h1
    simp[Instr.indexAt,asIntOf,run_underlying hu,h0,h1,sizeOf,typeInfo,jD,nn]
   cases x<;>simp only at h<;>first|(cases h;done)|skip
   case list e' es=>
    obtain ⟨hc,h⟩:=aD h
    simp only[Bool.and_eq_true,Nat.beq_eq] at hc
    obtain ⟨dR,aw⟩:=hc
    have gC:e=e':=dR
    obtain ⟨ie,z,dZ,_,aU,_⟩:=j8 aw
    obtain ⟨el,cX,h⟩:=ln h
    obtain rfl:=aI h
    unfold idx at cX
    cases h0:decide (0≤i) with
    | false=>rw[h0] at cX;cases cX
    | true=>
     rw[h0] at cX
     simp only[cond_true] at cX
     have h0':0≤i:=by simpa using h0
     have aM:i.toNat<es.length:=(List.getElem?_eq_some_iff.1 cX).1
     cases hv with
     | list hp'=>
      cases hp' with
      | nil=>simp at aM
      | emp=>simp at aM
      | @list b o len cap _ g hl cd hI gn hx=>
       rw[←gC] at gn hx hI
       refine .same S (run b o len cap ie dZ h0' (by omega)) ?_
       have fM:=wD (P:=P) e el
       have Js:=fL aw
       have PQ:(bif bE P e then flat P e else [e])=aO P e:=rfl
       rw[PQ]
       refine .pref (by rw[fM]) (fun _=>hI ?_) (fun j t' y' ht zA=> ?_)
       ·have:=Nat.mul_pos (show 0<len by omega) (j6 aw).2
        exact this
       ·obtain ⟨t2,a1,a2⟩:=IT zA
        rw[ht] at a1;cases a1
        have hj:j<P.cellsOf e:=by rw[←Js];exact (List.getElem?_eq_some_iff.1 ht).1
        have gN:=hx i.toNat j el t' cX ht
        refine ⟨g i.toNat j,?_,?_⟩
        ·rw[aU,Nat.add_assoc];exact gn i.toNat j (by omega) hj
        ·rw[a2,gN.sG];exact gN
   case whole e' id=>
    obtain ⟨l,h⟩:=run_get h
    cases aa:hp id with
    | none=>rw[aa] at h;cases h
    | some blk=>
     rw[aa] at h
     cases blk<;>simp only at h<;>first|(cases h;done)|skip
     rename_i dN es fz
     obtain ⟨hc,h⟩:=aD h
     simp only[Bool.and_eq_true,Nat.beq_eq] at hc
     obtain ⟨dR,jz⟩:=hc
     obtain ⟨eT,h⟩:=aD h
     simp only[Bool.and_eq_true,decide_eq_true_eq] at eT
     obtain rfl:=aI h
     cases hv with
     | ej hd=>rw[aa] at hd;cases hd
     | eB hd=>rw[aa] at hd;cases hd
     | dP hd hb=>rw[aa] at hd;cases hd;simp at eT;omega
     | @whole _ _ aH nc b cap hd hb zQ cd hm=>
      have eS:=hd
      rw[aa] at hd
      cases hd
      have hr:=S.h.rel id _ aa
      cases hr with
      | dQ ay=>rw[ay] at hb;cases hb
      | arr aw ay hh hs hf eo hx=>
       have gC:e=e':=dR
       obtain ⟨ie,z,dZ,_,aU,_⟩:=j8 aw
       rw[←gC] at dZ aU
       refine .same S (run b 0 _ cap ie dZ eT.1 eT.2) ?_
       have:=ah.ptr (P:=P) (w:=w) (I:=I) (i:=i.toNat) (c:=0) eS (by simp) hb
       simp only[ag.sz] at this
       rw[Nat.zero_add,aU,gC]
       simpa using this
     rename_i dN es ai
     obtain ⟨hc,h⟩:=aD h
     simp only[Bool.and_eq_true,Nat.beq_eq] at hc
     obtain ⟨dR,jz⟩:=hc
     obtain ⟨eT,h⟩:=aD h
     simp only[Bool.and_eq_true,decide_eq_true_eq] at eT
     obtain rfl:=aI h
     cases hv with
     | ej hd=>rw[aa] at hd;cases hd
     | dP hd hb=>rw[aa] at hd;cases hd
     | whole hd=>rw[aa] at hd;cases hd
     | @eB _ _ aH vers' b cap hd hb zQ cd hm=>
      have eS:=hd
      rw[aa] at hd
      cases hd
      have aw:=(S.rows eS hb .here).ok
      have gC:e=e':=dR
      obtain ⟨ie,z,dZ,_,aU,_⟩:=j8 aw
      rw[←gC] at dZ aU
      refine .same S (run b 0 _ cap ie dZ eT.1 eT.2) ?_
      have:=ah.ptr (P:=P) (w:=w) (I:=I) (i:=i.toNat) (c:=0) eS (by simp) hb
      simp only[ag.sz] at this
      rw[Nat.zero_add,aU,gC]
      simpa using this
   case row e' id ver path=>
    obtain ⟨e0,es,ai,l,aa,h1,h2,h3,h⟩:=om h
    obtain ⟨e2,v',k1,k2,h⟩:=wy h
    obtain ⟨hc,h⟩:=aD h
    simp only[Bool.and_eq_true,Nat.beq_eq] at hc
    obtain ⟨dR,jz⟩:=hc
    obtain ⟨eT,h⟩:=aD h
    simp only[Bool.and_eq_true,decide_eq_true_eq] at eT
    obtain rfl:=aI h
    cases hv with
    | jw hd hp'=>rw[aa] at hd;cases hd;exact absurd hp' (wz h1 h2 h3)
    | @row v _ e0 t1 _ ver b i1 c1 q es l1 ai hd hb hq I9 ht gn=>
     have aai:=gn
     obtain ⟨b',e3,aH,Ca,T,f,x,m1,m2,m3,m4,m5,m6⟩:=gn
     have nk:=hd
     rw[aa] at nk
     cases nk
     obtain ⟨n1,n2⟩:=DQ m1 m3 m4 ht m5
     rw[n2] at k2
     cases k2
     simp only[V.toList] at eT
     have hR:=S.rows hd hb m1
     obtain ⟨C1,c2,c3,c4⟩:=hR.cells
     rw[m2] at c2
     cases c2
     have hj:c1<P.cellsOf e3:=by
      rw[←fL hR.ok];exact (List.getElem?_eq_some_iff.1 m4).1
     obtain ⟨v2,d1,d2⟩:=c4 _ _ _ _ m3 m4 hj
     rw[m6] at d1
     cases d1
     rw[m5] at d2
     cases d2 with
     | fX a _=>unfold fT at a;rw[ht] at a;cases a
     | emp _ _=>simp at eT;omega
     | @row _ _ b1 cap _ hl _ _ _=>
      have aw:=(S.rows hd hb (m1.snoc m2 m3 m4 ht m5 hl m6)).ok
      have gC:e=e':=dR
      obtain ⟨ie,z,dZ,_,aU,_⟩:=j8 aw
      rw[←gC] at dZ aU
      refine .same S (run b1 0 _ cap ie dZ eT.1 eT.2) ?_
      have:=ah.cE (P:=P) (I:=I) (i:=i.toNat) (c:=0) hd hb hq I9 ht hl aai
      rw[Nat.zero_add,aU,gC]
      simpa using this
   case sub e' id off len=>
    obtain ⟨l,h⟩:=run_get h
    cases aa:hp id with
    | none=>rw[aa] at h;cases h
    | some blk=>
     rw[aa] at h
     cases blk<;>simp only at h<;>first|(cases h;done)|skip
     rename_i dN es fz
     obtain ⟨hc,h⟩:=aD h
     simp only[Bool.and_eq_true,Nat.beq_eq] at hc
     obtain ⟨dR,jz⟩:=hc
     obtain ⟨eT,h⟩:=aD h
     simp only[Bool.and_eq_true,decide_eq_true_eq] at eT
     obtain rfl:=aI h
     cases hv with
     | gm hd=>rw[aa] at hd;cases hd
     | fY hd hb=>simp at eT;omega
     | @sub _ _ _ _ aH nc b o cap hd hb jf cd ho=>
      have eS:=hd
      rw[aa] at hd
      cases hd
      have hr:=S.h.rel id _ aa
      cases hr with
      | dQ ay=>rw[ay] at hb;cases hb
      | arr aw ay hh hs hf eo hx=>
       have gC:e=e':=dR
       obtain ⟨ie,z,dZ,_,aU,_⟩:=j8 aw
       rw[←gC] at dZ aU
       refine .same S (run b o _ cap ie dZ eT.1 eT.2) ?_
       have:=ah.ptr (P:=P) (w:=w) (I:=I) (i:=off+i.toNat) (c:=0) eS (by simp) hb
       simp only[ag.sz] at this
       rw[ho (by omega),aU,gC,←Nat.add_mul]
       simpa using this
  case array n e=>
   have run: ∀(b o:Nat) (ie:TypeInfo),P.info? e=some ie→0≤i→i<(n:Int)→(Instr.indexAt t (.pointer (some ⟨b,o,none⟩)) (.int k i)).run P w= .ok (.pointer (some ⟨b,o+i.toNat*ie.size,none⟩)) w:=by
    intro b o ie jD h0 h1
    simp[Instr.indexAt,asIntOf,run_underlying hu,h0,h1,sizeOf,typeInfo,jD,nn,Instr.sureAddr]
   cases x<;>simp only at h<;>first|(cases h;done)|skip
   case ptr id j c=>
    obtain ⟨⟨blk,aa,hd⟩,l,h⟩:=wB h
    obtain ⟨eT,h⟩:=aD h
    simp only[Bool.and_eq_true,decide_eq_true_eq] at eT
    obtain rfl:=aI h
    obtain ⟨b,hb,rfl⟩:=hv.gP aa hd
    obtain ⟨d,ur⟩:=zF eT.1
    obtain ⟨ie,jD⟩:=wC ur
    have aU:ie.size=P.cellsOf e:=by simp[Program.cellsOf,jD]
    refine .same S (run b _ ie jD eT.2.1 eT.2.2) ?_
    rw[aU,Nat.add_assoc]
    exact .ptr aa hd hb
   case pref ts cs=>
    obtain ⟨eT,h⟩:=aD h
    simp only[Bool.and_eq_true,decide_eq_true_eq] at eT
    obtain rfl:=aI h
    obtain ⟨b,o,rfl,h1,h2,h3⟩:=hv.DX
    obtain ⟨d,ur⟩:=zF eT.1
    obtain ⟨ie,jD⟩:=wC ur
    have aU:ie.size=P.cellsOf e:=by simp[Program.cellsOf,jD]
    refine .same S (run b _ ie jD eT.2.1 eT.2.2) ?_
    rw[aU]
    exact ah.O6 h1 h2 h3
end
end Go.AM
namespace Go.AM
open Go.Maps
section
variable {P:Program} {w w':World} {I I':Nat→Prop} {β ao:Nat→Option Nat} {hp hp':Nat→Option ag} {C:ae} {B:Nat} {M:Nat→Prop} {w0:Start}
theorem aaj (S:aC P w I β hp B M w0) {nb:Nat} {t:TypeId} {v:Value} {x:V} {lo hi:Option V} {lov hiv:Option Value} {r:R} {rd:List Nat} (hv:ah P w I β hp v x)
  (gQ: ∀x,hi=some x→∃v,hiv=some v∧ah P w I β hp v x) (nt:lo=none→lov=none)
  (h:(DC P nb t x lo hi).run C hp=some (r,rd)):dd P ((Instr.sliceAt t v lov hiv none).run P w) w I β hp B M w0 r:=by
 unfold DC at h
 split at h
 case h_2=>cases h
 rename_i e e' id k hh hu
 obtain ⟨l,h1⟩:=run_get h
 cases aa:hp id with
 | none=>rw[aa] at h1;cases h1
 | some blk=>
  rw[aa] at h1
  cases blk<;>simp only at h1<;>first|(cases h1;done)|skip
  rename_i e2 es fz
  cases fz with
  | true=>cases h1
  | false=>
  obtain ⟨hc,h2⟩:=aD h1
  simp only[Bool.and_eq_true,Nat.beq_eq,decide_eq_true_eq] at hc
  obtain ⟨rfl,rfl,aw,PR,PS⟩:=hc
  obtain ⟨hn,rfl⟩:=nr h2
  have iJ:=nt rfl
  subst iJ
  obtain ⟨Jt,rfl,hhv⟩:=gQ _ rfl
  obtain rfl:=hhv.eC
  obtain ⟨i,z,dZ,_,aU,_⟩:=j8 aw
  have bN:nb≠id:=fun e=>by rw[e,aa] at hn;cases hn
  obtain ⟨k1,k2⟩:=DT S aa
  have j9:aG hp id (some ag.dead) nb=none:=by rw[ep _ _ bN];exact hn
  have PT: ∀cap,es.length≤cap→(Instr.sliceBounds true es.length cap none (some (.int k hh)) none).run P w= .ok (0,hh.toNat,cap) w:=by
   intro cap cd
   have hb:(su es.length none (some (.int k hh)) fun l u=> .az (decide (l=0∧u=hh.toNat)) (.ret (⟨.undef,[]⟩:R))).run C hp=some (⟨.undef,[]⟩,[]):=by
    simp[su,Rd.run,PR,PS]
   obtain ⟨l,u,b1,b2,b3,b4⟩:=qE (P:=P) (w:=w) (I:=I) (β:=β) (hp:=hp) (n:=es.length) (isS:=true) (cap:=cap) (lov:=none) (hiv:=some (.int k hh)) cd (by simp) (fun x hx=>by cases hx;exact ⟨_,rfl,.int⟩) (fun _=>rfl) (by simp) hb
   obtain ⟨b5,_⟩:=aD b4
   simp only[decide_eq_true_eq] at b5
   obtain ⟨rfl,rfl⟩:=b5
   exact b3
  cases hv with
  | ej hd=>rw[aa] at hd;cases hd
  | eB hd=>rw[aa] at hd;cases hd
  | @dP _ _ _ a0 hd hb=>
   rw[aa] at hd
   cases hd
   have IZ:hh=0:=by simpa using Int.le_antisymm PS PR
   subst IZ
   have ay:=PT 0 (Nat.le_refl _)
   obtain ⟨a1,a2⟩:=DS k2 e j9
   refine ⟨_,w,I,_,Ej hu dZ ay,k1.trans a1,a2,.dP (cY _ _ _) (cY _ _ _)⟩
  | @whole _ _ aH nc b cap hd hb zQ cd hm=>
   have eS:=hd
   rw[aa] at hd
   cases hd
   have hr:=S.h.rel id _ aa
   cases hr with
   | dQ ay=>rw[ay] at hb;cases hb
   | @arr _ _ _ b' Ca _ ay Ek pr hf eo mA=>
    rw[hb] at ay
    cases ay
    have jh:(es.take hh.toNat).length=hh.toNat:=by rw[List.length_take];omega
    have da:(Instr.sliceAt t (.slice (some ⟨b,0,none⟩) es.length cap) none (some (.int k hh)) none).run P w= .ok (.slice (some ⟨b,0,none⟩) hh.toNat cap) w:=by
     have ay:=PT cap cd
     by_cases El:cap=0
     ·subst El
      simp[Instr.sliceAt,Instr.slice,run_underlying hu,ay,sizeOf,typeInfo,dZ]
     ·simp[Instr.sliceAt,Instr.slice,run_underlying hu,ay,sizeOf,typeInfo,dZ,El,nn]
    have qs: ∀aA blk',aG hp id (some ag.dead) aA=some blk'→¬bt P w (β aA) blk' b:=by
     intro aA blk' h1 h2
     by_cases iI:aA=id
     ·subst iI;rw[cY] at h1;cases h1;exact h2.alive rfl
     ·rw[ep _ _ iI] at h1
      exact iI (S.h.inj aA id blk' _ b h1 aa h2 (.root (by simp) hb))
    obtain ⟨a1,a2⟩:=zz k2 (blk:= .arr e (es.take hh.toNat) false) (w':=w) j9 qs (eo rfl) (fun _ _ _=>rfl) (Nat.le_refl _) ⟨rfl,rfl⟩ (S.h.sC id _ b aa (by simp) hb)
     (fun b' h=>(Option.some.inj (h.flat (by simp))).symm) (fun hle=> .arr aw rfl Ek (by rw[jh];exact Nat.le_trans (Nat.mul_le_mul_right _ (by omega)) pr) (fun h=>by cases h) (fun _=>eo rfl) fun i j y t' hy ht hj=>by
      have qD:=(List.getElem?_eq_some_iff.1 hy).1
      rw[jh] at qD
      rw[List.getElem?_take_of_lt qD] at hy
      obtain ⟨v,hv,hp⟩:=mA i j y t' hy ht hj
      exact ⟨v,hv,hp.mono hle.dp hle.cf⟩)
    refine ⟨_,w,I,_,da,k1.trans a1,a2,?_⟩
    have:=ah.whole (P:=P) (w:=w) (I:=I) (β:=aG β nb (some b)) (hp:=aG (aG hp id (some .dead)) nb (some (.arr e (es.take hh.toNat) false))) (cap:=cap) (cY _ _ _) (cY _ _ _) zQ (by rw[jh];omega) hm
    rw[jh] at this
    exact this
theorem qG {t:TypeId} {x:V} (h:o6 P t x=true):
  (∃q n,P.underlying t=some (.int q)∧x= .int q n∧cK q n=true)∨(∃b,P.underlying t=some .bool∧x= .bool b)∨(∃s,P.underlying t=some .string∧x= .str s∧s.length≤maxLen):=by
 unfold o6 at h
 split at h
 ·rename_i q q' n hu
  simp only[Bool.and_eq_true,decide_eq_true_eq] at h
  obtain ⟨rfl,h⟩:=h
  exact .inl ⟨_,_,hu,rfl,h⟩
 ·rename_i b hu
  exact .inr (.inl ⟨_,hu,rfl⟩)
 ·rename_i s hu
  exact .inr (.inr ⟨_,hu,rfl,by simpa using h⟩)
 ·cases h
theorem size_data (s:ByteArray):s.data.toList.length=s.size:=by simp
theorem aak {q:IntKind} {n:Int} (h:cK q n=true):(Lit.int q n).wf=true:=h
theorem PU {t:TypeId} {x:V} {v:Value} (h:o6 P t x=true) (hv:je v x): ∃l,mapKey P t v=some l∧∀d,P.keyLits (d+1) t [v]=some [l]:=by
 rcases qG h with ⟨q,n,hu,rfl,hn⟩|⟨b,hu,rfl⟩|⟨s,hu,rfl,hs⟩
 ·obtain rfl:v= .int q n:=hv
  have hw:=aak hn
  exact ⟨.int q n,by simp[mapKey,hu,hw],fun d=>by simp[Program.keyLits,hu,hw]⟩
 ·obtain rfl:v= .bool b:=hv
  exact ⟨.bool b,by simp[mapKey,hu],fun d=>by simp[Program.keyLits,hu]⟩
 ·obtain ⟨s',rfl,sN⟩:=hv
  have:s'.size≤maxLen:=by rw[←size_data,sN];exact hs
  exact ⟨.string s'.data.toList,by simp[mapKey,hu,this],fun d=>by simp[Program.keyLits,hu,this]⟩
theorem Ju {t:TypeId}: ∀{xs:List V} {j:Nat} {x:V},qg P t xs=true→xs[j]? =some x→o6 P t x=true
 | [],j,x,_,h=>by simp at h
 | y::ys,0,x,h,hx=>by
  simp only[qg,Bool.and_eq_true] at h
  simp at hx;subst hx;exact h.1
 | y::ys,j+1,x,h,hx=>by
  simp only[qg,Bool.and_eq_true] at h
  exact Ju (j:=j) h.2 (by simpa using hx)
theorem mapM_some {α β:Type} {f:α→Option β}: ∀{l:List α},(∀a∈l,∃b,f a=some b)→∃bs,l.mapM f=some bs
 | [],_=>⟨[],rfl⟩
 | a::l,h=>by
  obtain ⟨b,hb⟩:=h a (List.mem_cons_self ..)
  obtain ⟨bs,gO⟩:=mapM_some (l:=l) fun x hx=>h x (List.mem_cons_of_mem _ hx)
  exact ⟨b::bs,by simp[List.mapM_cons,hb,gO]⟩
inductive Jv (P:Program) (t:TypeId) (x:V):Prop
 | one:o6 P t x=true→x.cells=[x]→Jv P t x
 | arr {n:Nat} {e:TypeId} {xs:List V}:x= .agg xs→WideMaps.ArrKey P t e n→xs.length=n→0<P.types.size→qg P e xs=true→Jv P t x
theorem wU {t:TypeId} {x:V} (h:na P t x=true):Jv P t x:=by
 unfold na at h
 split at h
 ·rename_i n e xs hu
  simp only[Bool.and_eq_true,Nat.beq_eq] at h
  rw[Nat.blt_eq] at h
  exact .arr rfl ⟨hu,h.2.2.2.1,h.2.1,h.2.2.1⟩ h.1 h.2.2.2.2.1 h.2.2.2.2.2
 ·refine .one h ?_
  rcases qG h with ⟨q,n,hu,rfl,hn⟩|⟨b,hu,rfl⟩|⟨s,hu,rfl,hs⟩<;>rfl
theorem ql.one {x:V} {v:Value} (h:ql v x) (hx:x.cells=[x]):je v x:=by
 cases x<;>first|exact h|skip
 simp only[V.cells] at hx
 rename_i cs
 have:=congrArg List.length hx
 cases cs with
 | nil=>simp at hx
 | cons c cs=>
  simp only[List.cons.injEq] at hx
  have:=congrArg SizeOf.sizeOf hx.1
  simp at this
  omega
theorem Em {t:TypeId} {x:V} {v:Value} (h:na P t x=true) (hv:ql v x): ∃l,Go.keyOf P t v=some l:=by
 cases wU h with
 | one h1 hx=>
  obtain ⟨l,hl,_⟩:=PU h1 (hv.one hx)
  refine ⟨l,?_⟩
  rcases qG h1 with ⟨q,n,hu,_⟩|⟨b,hu,_⟩|⟨s,hu,_⟩<;>simp only[Go.keyOf,hu,hl]
 | @arr n e xs hx A hl hp0 hf=>
  subst hx
  obtain ⟨cs,rfl,hs,hc⟩:=hv
  obtain ⟨m,hm⟩: ∃m,P.types.size=m+1:=⟨P.types.size-1,by omega⟩
  have hkt:=A.keyType ⟨m,hm⟩
  have hlen:cs.toList.length=P.cellsOf t:=by rw[A.size];simp[hs,hl]
  have hfm:(Value.agg cs).formed P t=true:=by simp[Value.formed,A.hu,A.size,hs,hl]
  have hex: ∀i∈List.range n,∃y,P.keyLits (m+1) e (((Value.agg cs).cells.toList.drop (i*P.cellsOf e)).take (P.cellsOf e))=some y:=by
   intro i hi
   have hi:=List.mem_range.1 hi
   rw[A.one]
   have gq:i<cs.size:=by omega
   have zR:i<xs.length:=by omega
   obtain ⟨l,_,h2⟩:=PU (Ju hf (List.getElem?_eq_getElem zR)) (hc i cs[i] xs[i] (Array.getElem?_eq_getElem gq) (List.getElem?_eq_getElem zR))
   have e1:((Value.agg cs).cells.toList.drop (i*1)).take 1=[cs[i]]:=by
    show (cs.toList.drop (i*1)).take 1=_
    rw[Nat.mul_one,List.drop_eq_getElem_cons (by simpa using gq)]
    simp
   rw[e1]
   exact ⟨_,h2 m⟩
  obtain ⟨bs,gO⟩:=mapM_some hex
  refine ⟨.string (keyBytes bs.flatten),?_⟩
  have PV:(Value.agg cs).cells.toList.length=P.cellsOf t:=hlen
  unfold Go.keyOf
  rw[A.hu]
  simp only[hkt,hfm,Bool.and_self,if_true]
  unfold Program.keyLits
  rw[A.hu,hm]
  simp only[PV,if_true,gO,Option.map_some]
theorem Jw {t:TypeId} {x:V} (h:na P t x=true):Keyed P t:=by
 cases wU h with
 | one h1 hx=>
  rcases qG h1 with ⟨q,n,hu,_⟩|⟨b,hu,_⟩|⟨s,hu,_⟩
  ·exact int_keyed hu
  ·exact bool_keyed hu
  ·exact string_keyed hu
 | arr hx A hl _ hf=>exact Keyed.of_law A.law
theorem PW {t:TypeId} {x y:V} {v u:Value} (h1:o6 P t x=true) (h2:o6 P t y=true) (hv:je v x) (hu:je u y):qf x y=true↔v=u:=by
 rcases qG h1 with ⟨q,n,mB,rfl,_⟩|⟨b,mB,rfl⟩|⟨s,mB,rfl,_⟩<;>
 rcases qG h2 with ⟨q',n',pw,rfl,_⟩|⟨b',pw,rfl⟩|⟨s',pw,rfl,_⟩<;>
  (rw[mB] at pw;cases pw)
 ·obtain rfl:v= .int q n:=hv
  obtain rfl:u= .int q n':=hu
  simp[qf]
 ·obtain rfl:v= .bool b:=hv
  obtain rfl:u= .bool b':=hu
  simp[qf]
 ·obtain ⟨s1,rfl,e1⟩:=hv
  obtain ⟨s2,rfl,e2⟩:=hu
  simp only[qf,beq_iff_eq,Value.string.injEq,←e1,←e2]
  constructor
  ·intro h
   have:=Array.toList_inj.1 h
   cases s1;cases s2;simp_all
  ·rintro rfl;rfl
theorem PX {t:TypeId}: ∀{xs ys:List V} {vs us:List Value},qg P t xs=true→qg P t ys=true→xs.length=ys.length→vs.length=xs.length→us.length=ys.length→
  (∀(j:Nat) v x,vs[j]? =some v→xs[j]? =some x→je v x)→(∀(j:Nat) v x,us[j]? =some v→ys[j]? =some x→je v x)→(oc xs ys=true↔vs=us)
 | [],[],vs,us,_,_,_,h1,h2,_,_=>by
  have e1:=List.eq_nil_of_length_eq_zero (l:=vs) (by simpa using h1)
  have e2:=List.eq_nil_of_length_eq_zero (l:=us) (by simpa using h2)
  simp[oc,e1,e2]
 | [],_::_,_,_,_,_,h,_,_,_,_=>by simp at h
 | _::_,[],_,_,_,_,h,_,_,_,_=>by simp at h
 | x::xs,y::ys,[],us,_,_,_,h,_,_,_=>by simp at h
 | x::xs,y::ys,v::vs,[],_,_,_,_,h,_,_=>by simp at h
 | x::xs,y::ys,v::vs,u::us,f1,f2,h,h1,h2,r1,r2=>by
  simp only[qg,Bool.and_eq_true] at f1 f2
  have a:=PW f1.1 f2.1 (r1 0 v x rfl rfl) (r2 0 u y rfl rfl)
  have b:=PX (vs:=vs) (us:=us) f1.2 f2.2 (by simpa using h) (by simpa using h1) (by simpa using h2) (fun j v x hj hx=>r1 (j+1) v x (by simpa using hj) (by simpa using hx)) (fun j v x hj hx=>r2 (j+1) v x (by simpa using hj) (by simpa using hx))
  simp only[oc,Bool.and_eq_true,a,b,List.cons.injEq]
theorem Jx {t:TypeId} {x y:V} {v u:Value} (h1:na P t x=true) (h2:na P t y=true) (hv:ql v x) (hu:ql u y):gJ x y=true↔v=u:=by
 unfold gJ
 cases wU h1 with
 | one f1 c1=>
  cases wU h2 with
  | one f2 c2=>
   rw[c1,c2]
   simp only[oc,Bool.and_true]
   exact PW f1 f2 (hv.one c1) (hu.one c2)
  | arr hy A hl _ hf=>
   rcases qG f1 with ⟨q,n,mB,_⟩|⟨b,mB,_⟩|⟨s,mB,_⟩<;>(rw[A.hu] at mB;cases mB)
 | arr hx A hl _ hf=>
  cases wU h2 with
  | one f2 c2=>
   rcases qG f2 with ⟨q,n,mB,_⟩|⟨b,mB,_⟩|⟨s,mB,_⟩<;>(rw[A.hu] at mB;cases mB)
  | arr hy A2 tG _ hf2=>
   have gC:=A.hu.symm.trans A2.hu
   cases gC
   subst hx
   subst hy
   obtain ⟨cs,rfl,s1,r1⟩:=hv
   obtain ⟨ds,rfl,s2,r2⟩:=hu
   have:=PX (vs:=cs.toList) (us:=ds.toList) hf hf2 (by omega) (by simpa using s1) (by simpa using s2) (fun j v x hj hx=>r1 j v x (by simpa using hj) hx) (fun j v x hj hx=>r2 j v x (by simpa using hj) hx)
   simp only[V.cells,this,Value.agg.injEq]
   exact Array.toList_inj
theorem PY {k:V}: ∀{es:List V},(∀x∈es,gJ k (x.comp 0)=false)→fH k es=false∧(∀z,gY k es z=z)∧∀v,e9 k v es=es++[.a8 [k,v]]
 | [],_=>⟨rfl,fun _=>rfl,fun _=>rfl⟩
 | e::es,h=>by
  have h0:=h e (List.mem_cons_self ..)
  obtain ⟨a,b,c⟩:=PY (k:=k) (es:=es) fun x hx=>h x (List.mem_cons_of_mem _ hx)
  exact ⟨by simp[fH,h0,a],fun z=>by simp[gY,h0,b],fun v=>by simp[e9,h0,c]⟩
theorem PZ {k:V}: ∀{es:List V} {j:Nat} {k' y:V},es[j]? =some (.a8 [k',y])→gJ k k'=true→(∀i x,i<j→es[i]? =some x→gJ k (x.comp 0)=false)→
  fH k es=true∧(∀z,gY k es z=y)∧∀v,e9 k v es=es.set j (.a8 [k',v])
 | [],j,k',y,h,_,_=>by simp at h
 | e::es,0,k',y,h,he,_=>by
  simp at h
  subst h
  exact ⟨by simp[fH,V.comp,V.nth,he],fun z=>by simp[gY,V.comp,V.nth,he],fun v=>by simp[e9,V.comp,V.nth,he]⟩
 | e::es,j+1,k',y,h,he,aM=>by
  have h0:=aM 0 e (by omega) rfl
  obtain ⟨a,b,c⟩:=PZ (k:=k) (es:=es) (j:=j) (by simpa using h) he fun i x hi hx=>aM (i+1) x (by omega) (by simpa using hx)
  exact ⟨by simp[fH,h0,a],fun z=>by simp[gY,h0,b],fun v=>by simp[e9,h0,c]⟩
theorem P0 {kt vt:TypeId} {E:Array MapEntry} {es:List V} {k:V} {kv:Value} (hs:E.size=es.length) (hx: ∀(j:Nat) (e:MapEntry) (x:V),E[j]? =some e→es[j]? =some x→DL P kt vt e x)
  (hn:E.toList.Pairwise (fun a b=>a.key≠b.key)) (hk:na P kt k=true) (En:ql kv k) (w:World):
  ((Instr.findKey kt kv E.toList).run P w= .ok none w∧(∀e∈E.toList,e.key≠kv)∧fH k es=false∧(∀z,gY k es z=z)∧∀v,e9 k v es=es++[.a8 [k,v]])∨
  ∃j e k' y,(Instr.findKey kt kv E.toList).run P w= .ok (some (j,e.val)) w∧E[j]? =some e∧e.key=kv∧es[j]? =some (.a8 [k',y])∧na P kt k'=true∧ql kv k'∧eJ P vt y=true∧je e.val y∧
   fH k es=true∧(∀z,gY k es z=y)∧∀v,e9 k v es=es.set j (.a8 [k',v]):=by
 have K:=Jw hk
 obtain ⟨l,hl⟩:=Em hk En
 have P1: ∀(j:Nat) x,es[j]? =some x→∃e,E[j]? =some e∧DL P kt vt e x:=by
  intro j x hj
  have aM:j<E.size:=by rw[hs];exact (List.getElem?_eq_some_iff.1 hj).1
  exact ⟨E[j],Array.getElem?_eq_getElem aM,hx j _ x (Array.getElem?_eq_getElem aM) hj⟩
 have keys: ∀e∈E.toList,∃l,Go.keyOf P kt e.key=some l:=by
  intro e he
  obtain ⟨j,hj⟩:=List.getElem?_of_mem he
  have gA:E[j]? =some e:=by simpa using hj
  have aM:j<es.length:=by rw[←hs];exact (Array.getElem?_eq_some_iff.1 gA).1
  obtain ⟨k',y,_,h1,h2,_⟩:=hx j e es[j] gA (List.getElem?_eq_getElem aM)
  exact Em h1 h2
 rcases K.find w hl E.toList keys with ⟨h1,h2⟩|⟨j,e,h1,h2,h3⟩
 ·left
  refine ⟨h1,h2,PY fun x hxm=> ?_⟩
  obtain ⟨j,hj⟩:=List.getElem?_of_mem hxm
  obtain ⟨e,he,k',y,rfl,f1,f2,_⟩:=P1 j x hj
  cases hq:gJ k (V.comp (.a8 [k',y]) 0) with
  | false=>rfl
  | true=>
   have:=(Jx hk f1 En f2).1 hq
   exact absurd this.symm (h2 e (List.mem_of_getElem? (by simpa using he)))
 ·right
  have hE:E[j]? =some e:=by simpa using h2
  have aM:j<es.length:=by rw[←hs];exact (Array.getElem?_eq_some_iff.1 hE).1
  obtain ⟨k',y,hy,f1,f2,f3,f4⟩:=hx j e es[j] hE (List.getElem?_eq_getElem aM)
  have hj:=List.getElem?_eq_getElem aM
  rw[hy] at hj
  rw[h3] at f2
  refine ⟨j,e,k',y,h1,hE,h3,hj,f1,f2,f3,f4,PZ hj ((Jx hk f1 En f2).2 rfl) fun i x hi gy=> ?_⟩
  obtain ⟨e',um,k2,y2,rfl,g1,g2,_⟩:=P1 i x gy
  cases hq:gJ k (V.comp (.a8 [k2,y2]) 0) with
  | false=>rfl
  | true=>
   have:=(Jx hk g1 En g2).1 hq
   have i1:i<E.toList.length:=by have:=(List.getElem?_eq_some_iff.1 gy).1;simp;omega
   have i2:j<E.toList.length:=by simp;omega
   have:=List.pairwise_iff_getElem.1 hn i j i1 i2 hi
   have a1:E.toList[i]=e':=by
    have:E.toList[i]? =some e':=by simpa using um
    rw[List.getElem?_eq_getElem i1] at this;exact Option.some.inj this
   have a2:E.toList[j]=e:=by
    have:=h2
    rw[List.getElem?_eq_getElem i2] at this;exact Option.some.inj this
   rw[a1,a2,h3] at this
   exact absurd (by rw[← ‹kv=e'.key›]) this
theorem ah.P2 {v:Value} {x:V} (h:ah P w I β hp v x) {t:TypeId} (hx:o6 P t x=true):je v x:=by
 rcases qG hx with ⟨q,n,_,rfl,_⟩|⟨b,_,rfl⟩|⟨s,_,rfl,_⟩
 ·exact h.eC
 ·exact h.jB
 ·exact h.mr
theorem ah.P4 {v:Value} {x:V} (h:ah P w I β hp v x) {t:TypeId} (hx:na P t x=true):ql v x:=by
 cases wU hx with
 | one f c=>
  have:=h.P2 f
  cases x<;>first|exact this|cases this
 | arr hx A hl _ hf=>
  subst hx
  obtain ⟨cs,rfl,h1,h2⟩:=h.kH
  exact ⟨cs,rfl,h1,fun j u y hu hy=>(h2 j u y hu hy).P2 (Ju hf hy)⟩
theorem P5 {vt:TypeId} {y:V} (h:mapVal P vt=true) (ht:eJ P vt y=true):(∃q n,P.underlying vt=some (.int q)∧y= .int q n)∨∃b,P.underlying vt=some .bool∧y= .bool b:=by
 unfold mapVal at h
 unfold eJ at ht
 split at h
 ·rename_i q hu
  rw[hu] at ht
  cases y<;>first|(simp at ht;done)|skip
  simp only[decide_eq_true_eq] at ht
  subst ht
  exact .inl ⟨_,_,hu,rfl⟩
 ·rename_i hu
  rw[hu] at ht
  cases y<;>first|(simp at ht;done)|skip
  exact .inr ⟨_,hu,rfl⟩
 ·cases h
theorem je.Jy {vt:TypeId} {v:Value} {y:V} (h:mapVal P vt=true) (ht:eJ P vt y=true) (hv:je v y):ah P w I β hp v y:=by
 rcases P5 h ht with ⟨q,n,_,rfl⟩|⟨b,_,rfl⟩
 ·obtain rfl:v= .int q n:=hv;exact .int
 ·obtain rfl:v= .bool b:=hv;exact .bool
theorem ah.aal {vt:TypeId} {v:Value} {y:V} (h:mapVal P vt=true) (ht:eJ P vt y=true) (hv:ah P w I β hp v y):je v y:=by
 rcases P5 h ht with ⟨q,n,_,rfl⟩|⟨b,_,rfl⟩
 ·exact hv.eC
 ·exact hv.jB
theorem aam {vt:TypeId} {z:V} (h:Dx P vt=some z) (w:World): ∃v,(zeroValue vt).run P w= .ok v w∧je v z:=by
 unfold Dx at h
 cases hi:P.info? vt with
 | none=>rw[hi] at h;cases h
 | some i=>
  rw[hi] at h
  simp only[Option.bind_some] at h
  cases hz:i.zero with
  | none=>rw[hz] at h;cases h
  | some v=>
   rw[hz] at h
   refine ⟨v,by simp[zeroValue,typeInfo,hi,hz],?_⟩
   cases v<;>simp only at h<;>first|(cases h;done)|skip
   ·cases h;rfl
   ·cases h;rfl
theorem Jz {t kt vt:TypeId} (h:lj P t=some (kt,vt)):P.underlying t=some (.map kt vt):=by
 unfold lj at h
 split at h
 ·rename_i k e hu;cases h;exact hu
 ·cases h
theorem JA (S:aC P w I β hp B M w0) {ok:Bool} {v:Value} {x:V} {b:Bool} {r:R} {rd:List Nat} {res:Result Value} (hv:ah P w I β hp v x)
  (hr:res= .ok (if ok then .tuple #[v,.bool b] else v) w) (h:(Dy ok x b).run C hp=some (r,rd)):dd P res w I β hp B M w0 r:=by
 unfold Dy at h
 obtain rfl:=aI h
 cases ok with
 | false=>exact .same S hr hv
 | true=>
  refine .same S hr (.a8 rfl fun j u y hu hy=> ?_)
  match j,hu,hy with
  | 0,hu,hy=>simp at hu hy;subst hu;subst hy;exact hv
  | 1,hu,hy=>simp at hu hy;subst hu;subst hy;exact .bool
  | j+2,hu,hy=>simp at hy
theorem aan (S:aC P w I β hp B M w0) {t kt vt:TypeId} (ht:lj P t=some (kt,vt)) {m k:Value} {mx kx:V} {ok:Bool} {r:R} {rd:List Nat} (hm:ah P w I β hp m mx) (hk:ah P w I β hp k kx)
  (h:(Im P t mx kx ok).run C hp=some (r,rd)):dd P ((Instr.lookup t m k ok).run P w) w I β hp B M w0 r:=by
 unfold Im at h
 rw[ht] at h
 simp only at h
 cases hz:Dx P vt with
 | none=>rw[hz] at h;cases h
 | some z=>
  rw[hz] at h
  obtain ⟨hc,h'⟩:=aD h
  clear h
  have h:=h'
  clear h'
  simp only[Bool.and_eq_true] at hc
  obtain ⟨py,zT,Eo⟩:=hc
  have hu:=Jz ht
  have wV:=hk.P4 py
  have K:=Jw py
  obtain ⟨l,hl⟩:=Em py wV
  obtain ⟨zv,P6,P7⟩:=aam hz w
  cases mx<;>simp only at h<;>first|(cases h;done)|skip
  ·rename_i t' id
   obtain ⟨j7,h'⟩:=aD h
   clear h
   have h:=h'
   clear h'
   rw[Nat.beq_eq] at j7
   subst j7
   obtain ⟨l2,h'⟩:=run_get h
   clear h
   have h:=h'
   clear h'
   cases aa:hp id with
   | none=>rw[aa] at h;cases h
   | some blk=>
    rw[aa] at h
    cases blk<;>simp only at h<;>first|(cases h;done)|skip
    rename_i t2 es
    obtain ⟨j7,h'⟩:=aD h
    clear h
    have h:=h'
    clear h'
    rw[Nat.beq_eq] at j7
    subst j7
    cases hm with
    | ib hd=>rw[aa] at hd;cases hd
    | @bL _ _ b aH hd hb=>
     rw[aa] at hd
     cases hd
     have hr:=S.h.rel id _ aa
     cases hr with
     | @map _ P8 P9 _ b' clock E ga ay hh hs hI hx hn=>
      rw[hb] at ay;cases ay
      rw[hu] at ga;cases ga
      rcases P0 hs hx hn py wV w with ⟨h1,_,h3,h4,_⟩|⟨j,e,k',y,h1,_,_,_,_,_,h6,h7,h3,h4,_⟩
      ·rw[h3,h4,zE Eo] at h
       refine JA S (je.Jy zT Eo P7) ?_ h
       unfold Instr.lookup
       simp only[Sem.run_bind,run_underlying hu,Result.andThen_ok,Go.MapKept.run_getObj_map hh,Sem.run_pure,K.check w E.isEmpty hl,h1,P6]
      ·rw[h3,h4,zE h6] at h
       refine JA S (je.Jy zT h6 h7) ?_ h
       unfold Instr.lookup
       simp only[Sem.run_bind,run_underlying hu,Result.andThen_ok,Go.MapKept.run_getObj_map hh,Sem.run_pure,K.check w E.isEmpty hl,h1]
  ·rename_i t'
   obtain ⟨j7,h⟩:=aD h
   cases hm
   rw[zE Eo] at h
   refine JA S (je.Jy zT Eo P7) ?_ h
   have hf:(Instr.findKey kt k []).run P w= .ok none w:=by
    rcases K.find w hl [] (by simp) with ⟨h1,_⟩|⟨j,e,_,h2,_⟩
    ·exact h1
    ·simp at h2
   unfold Instr.lookup
   simp[run_underlying hu,K.check w true hl,hf,P6]
theorem aao (S:aC P w I β hp B M w0) {t:TypeId} {nb:Nat} {r:R} {rd:List Nat} (h:(Rd.az (lj P t).isSome (ja nb (.map t []) (.bL t nb) [])).run C hp=some (r,rd)):
  dd P ((Instr.makeMap t none).run P w) w I β hp B M w0 r:=by
 obtain ⟨ht,h⟩:=aD h
 obtain ⟨hn,rfl⟩:=nr h
 obtain ⟨⟨kt,vt⟩,ht⟩:=Option.isSome_iff_exists.1 ht
 have hu:=Jz ht
 have cS: ¬I w.heap.size:=fun h=>Nat.lt_irrefl _ (S.h.jy _ h)
 have fb:(w.alloc (.map #[] 0)).heap[w.heap.size]? =some (.map #[] 0):=heap_alloc_new w _
 obtain ⟨a1,a2⟩:=zz S (w':=w.alloc (.map #[] 0)) (blk:= .map t []) (b:=w.heap.size) hn (fun aA blk' h ho=>Nat.lt_irrefl _ (S.h.lt h ho)) cS
  (fun b' _ aM=>heap_alloc_old w _ b' aM) (by simp) ⟨rfl,rfl⟩ (.inr S.size) (fun b' h=>(Option.some.inj (h.flat (by simp))).symm)
  (fun _=> .map hu rfl fb rfl cS (fun j e x he _=>by simp at he) (by simp))
 exact ⟨_,_,_,_,Go.RowKit.run_makeMap t w,a1,a2,.bL (cY _ _ _) (cY _ _ _)⟩
theorem Qa (S:aC P w I β hp B M w0) {t kt vt:TypeId} (ht:lj P t=some (kt,vt)) {m k v:Value} {mx kx vx:V} {r:R} {rd:List Nat} (hm:ah P w I β hp m mx) (hk:ah P w I β hp k kx) (hv:ah P w I β hp v vx)
  (h:(Dz P t mx kx vx).run C hp=some (r,rd)):pg P ((Instr.mapUpdate t m k v).run P w) w I β hp B M w0 r:=by
 unfold Dz at h
 rw[ht] at h
 obtain ⟨hc,h'⟩:=aD h
 clear h
 have h:=h'
 clear h'
 simp only[Bool.and_eq_true] at hc
 obtain ⟨py,zT,uu⟩:=hc
 have hu:=Jz ht
 have wV:=hk.P4 py
 have wF:=ah.aal zT uu hv
 have K:=Jw py
 obtain ⟨l,hl⟩:=Em py wV
 cases mx<;>simp only at h<;>first|(cases h;done)|skip
 rename_i t' id
 obtain ⟨j7,h'⟩:=aD h
 clear h
 have h:=h'
 clear h'
 rw[Nat.beq_eq] at j7
 subst j7
 obtain ⟨l2,h'⟩:=run_get h
 clear h
 have h:=h'
 clear h'
 cases aa:hp id with
 | none=>rw[aa] at h;cases h
 | some blk=>
  rw[aa] at h
  cases blk<;>simp only at h<;>first|(cases h;done)|skip
  rename_i t2 es
  obtain ⟨j7,h'⟩:=aD h
  clear h
  have h:=h'
  clear h'
  rw[Nat.beq_eq] at j7
  subst j7
  obtain rfl:=aI h
  cases hm with
  | ib hd=>rw[aa] at hd;cases hd
  | @bL _ _ b aH hd hb=>
   rw[aa] at hd
   cases hd
   have hr:=S.h.rel id _ aa
   cases hr with
   | @map _ P8 P9 _ b' clock E ga ay hh hs hI hx hn=>
    rw[hb] at ay;cases ay
    rw[hu] at ga;cases ga
    have aM:b<w.heap.size:=(Array.getElem?_eq_some_iff.1 hh).1
    have fin: ∀(E':Array MapEntry) (zU:Nat),(Instr.mapUpdate t (.map (some b)) k v).run P w= .ok () {w with heap:=w.heap.setIfInBounds b (.map E' zU)}→E'.size=(e9 kx vx es).length→
      (∀(j:Nat) (e:MapEntry) (x:V),E'[j]? =some e→(e9 kx vx es)[j]? =some x→DL P kt vt e x)→E'.toList.Pairwise (fun a b=>a.key≠b.key)→
      pg P ((Instr.mapUpdate t (.map (some b)) k v).run P w) w I β hp B M w0 ⟨.undef,[(id,.map t (e9 kx vx es))]⟩:=by
     intro E' zU da sN cz JB
     have fb:({w with heap:=w.heap.setIfInBounds b (.map E' zU)}:World).heap[b]? =some (.map E' zU):=by simp[aM]
     obtain ⟨a1,a2⟩:=DU S (w':={w with heap:=w.heap.setIfInBounds b (.map E' zU)}) (blk':= .map t (e9 kx vx es)) aa (by simp) rfl hb hI (by simp)
      (fun b' ay=>by simp[Array.getElem?_setIfInBounds,Ne.symm ay]) (by simp only[bsize,fb,hh]) (by simp) ⟨rfl,rfl⟩ (fun _=> .map hu rfl fb sN hI cz JB)
     exact ⟨_,I,β,da,a1,a2,rfl⟩
    rcases P0 hs hx hn py wV w with ⟨h1,h2,_,_,h5⟩|⟨j,e,k',y,h1,hE,Qb,hes,aap,aaq,_,_,_,_,h5⟩
    ·have e5:=h5 vx
     refine fin (E.push {key:=k,val:=v,born:=clock}) (clock+1) ?_ (by rw[e5];simp[hs]) (fun j e x he qu=> ?_) ?_
     ·unfold Instr.mapUpdate
      simp only[Sem.run_bind,run_underlying hu,Result.andThen_ok,Go.MapKept.run_getObj_map hh,K.check w false hl,h1,Go.MapKept.run_setObj_map _ hh]
     ·rw[e5] at qu
      rw[Array.getElem?_push] at he
      split at he
      ·rename_i hj
       rw[List.getElem?_append_right (by omega),hj,hs,Nat.sub_self] at qu
       simp at he qu
       subst he;subst qu
       exact ⟨kx,vx,rfl,py,wV,uu,wF⟩
      ·have hj:j<E.size:=(Array.getElem?_eq_some_iff.1 he).1
       rw[List.getElem?_append_left (by omega)] at qu
       exact hx j e x he qu
     ·rw[Array.toList_push,List.pairwise_append]
      refine ⟨hn,by simp,fun a ha b' ay=> ?_⟩
      simp only[List.mem_singleton] at ay
      subst ay
      exact h2 a ha
    ·have e5:=h5 vx
     have hj:j<E.size:=(Array.getElem?_eq_some_iff.1 hE).1
     refine fin (E.modify j fun e=>{e with key:=k,val:=v}) clock ?_ (by rw[e5];simp[hs]) (fun i e' x he gy=> ?_) ?_
     ·have bP:=K.stays w hl
      unfold Instr.mapUpdate
      simp only[Sem.run_bind,run_underlying hu,Result.andThen_ok,Go.MapKept.run_getObj_map hh,K.check w false hl,h1]
      simp only[hE,Option.map_some,Option.getD_some,Qb,bP,Result.andThen_ok,Go.MapKept.run_setObj_map _ hh]
     ·rw[e5] at gy
      rw[Array.getElem?_modify] at he
      rw[List.getElem?_set] at gy
      split at he
      ·rename_i uv
       subst uv
       rw[if_pos rfl,if_pos (by omega)] at gy
       rw[hE] at he
       simp at he gy
       subst he;subst gy
       exact ⟨k',vx,rfl,aap,aaq,uu,wF⟩
      ·rename_i uv
       rw[if_neg uv] at gy
       exact hx i e' x he gy
     ·have Qc: ∀i (h1:i<(E.modify j fun e=>{e with key:=k,val:=v}).toList.length) (h2:i<E.toList.length),((E.modify j fun e=>{e with key:=k,val:=v}).toList[i]).key=(E.toList[i]).key:=by
       intro i h1 h2
       simp only[Array.getElem_toList,Array.getElem_modify]
       split
       ·rename_i uv
        subst uv
        have:=(Array.getElem?_eq_some_iff.1 hE).2
        rw[this,Qb]
       ·rfl
      rw[List.pairwise_iff_getElem] at hn⊢
      intro i i' h1 h2 iI
      have g1:i<E.toList.length:=by simpa using h1
      have g2:i'<E.toList.length:=by simpa using h2
      rw[Qc i h1 g1,Qc i' h2 g2]
      exact hn i i' g1 g2 iI
theorem aar (S:aC P w I β hp B M w0) {t ty kt vt:TypeId} {v:Value} {x:V} {r:R} {rd:List Nat} (hu:P.underlying t=some (.map kt vt)) (hv:ah P w I β hp v x)
  (h:(DA x).run C hp=some (r,rd)):dd P ((Builtin.len_ #[t] ty #[v]).run P w) w I β hp B M w0 r:=by
 unfold DA at h
 cases x<;>simp only at h<;>first|(cases h;done)|skip
 ·rename_i t' id
  obtain ⟨l2,h'⟩:=run_get h
  clear h
  have h:=h'
  clear h'
  cases aa:hp id with
  | none=>rw[aa] at h;cases h
  | some blk=>
   rw[aa] at h
   cases blk<;>simp only at h<;>first|(cases h;done)|skip
   rename_i t2 es
   obtain rfl:=aI h
   cases hv with
   | ib hd=>rw[aa] at hd;cases hd
   | @bL _ _ b aH hd hb=>
    rw[aa] at hd
    cases hd
    have hr:=S.h.rel id _ aa
    cases hr with
    | @map _ P8 P9 _ b' clock E ga ay hh hs hI hx hn=>
     rw[hb] at ay;cases ay
     refine .same S (v:= .int .i64 E.size) (by simp[Builtin.len_,run_underlying hu,Go.MapKept.run_getObj_map hh,goInt]) ?_
     rw[hs]
     exact .int
 ·obtain rfl:=aI h
  cases hv
  exact .same S (v:= .int .i64 0) (by simp[Builtin.len_,run_underlying hu,goInt]) .int
theorem ah.JC {v:Value} {t:TypeId} (h:ah P w I β hp v (.dm t)):v= .map none:=by cases h;rfl
theorem ah.aas {v:Value} {t t':TypeId} {id:Nat} {es:List V} (h:ah P w I β hp v (.bL t id)) (aa:hp id=some (.map t' es)): ∃b,v= .map (some b):=by
 cases h with
 | ib h=>rw[aa] at h;cases h
 | bL h hb=>exact ⟨_,rfl⟩
theorem Qd (S:aC P w I β hp B M w0) {op:BinOp} {t:TypeId} {a:Option Nat} {r:R} {rd:List Nat} (x y:Operand)
  (h:(Du P op t a.isNone).run C hp=some (r,rd)):dd P ((do eqGuard op t x y (.map a) (.map none);binOp op t (.map a) (.map none)).run P w) w I β hp B M w0 r:=by
 unfold Du at h
 split at h
 case h_2=>cases h
 rename_i kt vt hu
 have he:(Op.equal t (.map a) (.map none)).run P w= .ok a.isNone w:=by
  show (Op.equalIn (9999+1) t (.map a) (.map none)).run P w=_
  rw[Op.equalIn]
  cases a<;>simp[Sem.run_bind,run_underlying hu,Result.andThen_ok,Sem.run_pure]
 cases op<;>simp only at h<;>first|(cases h;done)|skip
 ·obtain rfl:=aI h
  exact .same S (by simp[eqGuard,binOp,he]) .bool
 ·obtain rfl:=aI h
  exact .same S (by simp[eqGuard,binOp,he]) .bool
end
end Go.AM
namespace Go.AM
section
variable {P:Program} {w w':World} {I I':Nat→Prop} {β ao:Nat→Option Nat} {hp hp':Nat→Option ag} {C:ae} {B:Nat} {M:Nat→Prop} {w0:Start}
theorem aat {e:TypeId} (he:P.underlying e=some (.int .u8)) (hc:P.cellsOf e=1) (s:ByteArray): ∀(i j:Nat) (x:V) (t':TypeId),(s.data.toList.map zf)[i]? =some x→(aO P e)[j]? =some t'→j<P.cellsOf e→
  ∃u,(Lib.strCells s)[i*P.cellsOf e+j]? =some u∧Pure P w I t' u (bI P e x j):=by
 intro i j x t' hx ht hj
 have nu:bE P e=false:=by simp[bE,he]
 obtain rfl:j=0:=by omega
 simp only[aO,nu,cond_false,List.getElem?_cons_zero,Option.some.injEq] at ht
 subst ht
 rw[List.getElem?_map] at hx
 cases hb:s.data.toList[i]? with
 | none=>rw[hb] at hx;cases hx
 | some b=>
  rw[hb] at hx
  cases hx
  refine ⟨.int .u8 b.toNat,?_,?_⟩
  ·rw[hc,Nat.mul_one,Nat.add_zero]
   simp only[Lib.strCells,List.getElem?_map,hb,Option.map_some]
  ·simp only[bI,nu,cond_false]
   exact .int he
theorem aau (w:World) (t u ty e:TypeId) (i:TypeInfo) (z:Value) (ht:P.underlying t=some (.slice e)) (hu:P.underlying u=some .string) (hi:P.info? e=some i) (hz:i.zero=some z)
  (s:ByteArray) (h0:0<s.size) (Eh:(s.size:Int)≤9223372036854775807) (Ei:s.size*i.bytes≤281474976710656) (a0:Option Addr):
  (Builtin.append_ #[t,u] ty #[.slice a0 0 0,.string s]).run P w=
   .ok (.slice (some ⟨w.heap.size,0,none⟩) s.size (grownCap w s.size 0 e))
    (w.drew.alloc (.cells (s.data.map (fun b=>Value.int .u8 b.toNat)++Builtin.zeroCells z.cells (grownCap w s.size 0 e-s.size)) e)):=by
 cases a0 with
 | none=>exact run_append_nil_string w t u ty e i z ht hu hi hz s h0 Eh Ei
 | some b=>
  rw[←run_append_nil_string w t u ty e i z ht hu hi hz s h0 Eh Ei]
  have hn:s.size≠0:=by omega
  have aav: ¬(9223372036854775807<(s.size:Int)):=by omega
  have aaw: ¬(281474976710656<Builtin.nextslicecap s.size 0*i.bytes):=by rw[nextslicecap_zero h0];omega
  simp[Builtin.append_,run_underlying ht,run_underlying hu,sizeOf,typeInfo,zeroValue,hi,hz,Builtin.lenOf,Builtin.firstCells,hn,aav,aaw,Question.forced,newRow,grownCap,loadCells,loadCellsFrom]
theorem Qe (S:aC P w I β hp B M w0) {t u ty e:TypeId} {nb:Nat} {x:ByteArray} {xs:List V} {i:TypeInfo} {z:Value} (hu:P.underlying t=some (.slice e)) (oz:P.underlying u=some .string) (aw:cW P e=true) (hn:hp nb=none)
 (hi:P.info? e=some i) (hz:i.zero=some z) (h3:i.size=P.cellsOf e) (h4:z.cells.size=P.cellsOf e) (wW:i.size=1) (mz:P.bytesOf e=i.bytes) (eM:xs.length*P.bytesOf e≤bH) (kb:xs.length=x.size) (mw:(Lib.strCells x).length=x.size)
 (cX: ∀(i j:Nat) (y:V) (t':TypeId),xs[i]? =some y→(aO P e)[j]? =some t'→j<P.cellsOf e→∃u,(Lib.strCells x)[i*P.cellsOf e+j]? =some u∧Pure P w I t' u (bI P e y j)):
 ∀a0,∃v w' ao,(Builtin.append_ #[t,u] ty #[.slice a0 0 0,.string x]).run P w= .ok v w'∧Le P w I β hp w' I ao (aG hp nb (some (.arr e xs false)))∧aC P w' I ao (aG hp nb (some (.arr e xs false))) B M w0∧
  ah P w' I ao (aG hp nb (some (.arr e xs false))) v (.whole e nb):=by
 intro a0
 have uo:=wx aw
 have hlen:xs.length≤2^45:=by
  have:xs.length*1≤xs.length*P.bytesOf e:=Nat.mul_le_mul_left _ uo
  simp only[bH] at eM
  omega
 by_cases h0:x.size=0
 ·have gB:xs=[]:=List.eq_nil_of_length_eq_zero (by omega)
  subst gB
  obtain ⟨a1,a2⟩:=DS S e hn
  have hf:=Lib.run_firstCells_string (P:=P) w 1 x
  rw[h0] at hf
  have qy:Lib.strCells x=[]:=List.eq_nil_of_length_eq_zero (by omega)
  exact ⟨.slice a0 0 0,_,_,by cases a0<;>simp[storeCells,qy,Builtin.append_,run_underlying hu,run_underlying oz,sizeOf,typeInfo,hi,wW,Builtin.lenOf,h0,hf],a1,a2,.dP (cY _ _ _) (cY _ _ _)⟩
 ·have da:=aau (P:=P) w t u ty e i z hu oz hi hz x (by omega) (by omega) (by rw[←mz,←kb];simp only[bH] at eM;omega) a0
  have e1:(x.data.map fun b=>Value.int .u8 b.toNat)=(Lib.strCells x).toArray:=by
   apply Array.ext'
   simp[Lib.strCells]
  rw[e1,←kb] at da
  have po:=grownCap_ge w xs.length 0 e
  have uq:grownCap w xs.length 0 e≤maxLen:=grownCap_le_maxLen w xs.length 0 e (by simp only[maxLen];omega)
  obtain ⟨n1,n2,n3⟩:=wR S.drew (nb:=nb) (cap:=grownCap w xs.length 0 e) (es:=xs) (C0:=(Lib.strCells x).toArray++Builtin.zeroCells z.cells (grownCap w xs.length 0 e-xs.length)) aw hn
   (by
    have:(Lib.strCells x).length=xs.length*P.cellsOf e:=by rw[mw,kb,←h3,wW,Nat.mul_one]
    simp only[Array.size_append,List.size_toArray,size_zeroCells,h4,this,←Nat.add_mul];congr 1;omega) po uq
   (fun i' j y t' hy ht hj=>by
    obtain ⟨u,ga,hp⟩:=cX i' j y t' hy ht hj
    have aM:=(List.getElem?_eq_some_iff.1 ga).1
    refine ⟨u,?_,Pure.drew hp⟩
    rw[Array.getElem?_append_left (by simpa using aM)]
    simpa using ga)
  exact ⟨_,_,_,da,(Le.drew w I β hp).trans n1,n2,n3⟩
theorem aax (S:aC P w I β hp B M w0) {t u ty e:TypeId} {nb:Nat} {s:Value} {sv:V} {x:ByteArray} {r:R} {rd:List Nat} (hu:P.underlying t=some (.slice e)) (oz:P.underlying u=some .string) (he:P.underlying e=some (.int .u8)) (hs:ah P w I β hp s sv)
  (h:(we P nb e sv (.list e (x.data.toList.map zf))).run C hp=some (r,rd)):dd P ((Builtin.append_ #[t,u] ty #[s,.string x]).run P w) w I β hp B M w0 r:=by
 unfold we at h
 obtain ⟨aw,h⟩:=aD h
 simp only[sr] at h
 obtain ⟨_,h⟩:=aD h
 have nu:bE P e=false:=by simp[bE,he]
 have dR:P.cellsOf e=1:=by rw[←(j6 aw).1,zt nu];rfl
 obtain ⟨i,z,hi,hz,h3,h4,_⟩:=j8 aw
 have wW:i.size=1:=by rw[h3,dR]
 have uo:=wx aw
 have mz:P.bytesOf e=i.bytes:=by simp[Program.bytesOf,hi]
 have Ep:=aat (P:=P) (w:=w) (I:=I) he dR x
 have kb:(x.data.toList.map zf).length=x.size:=by simp
 have mw:(Lib.strCells x).length=x.size:=Lib.strCells_length x
 have h1:=Lib.strCells_oneCell x
 generalize gB:x.data.toList.map zf=xs at*
 cases sv with
 | nilS e'=>
  obtain ⟨hc,h⟩:=aD h
  simp only[Bool.and_eq_true,Nat.beq_eq,Nat.ble_eq] at hc
  obtain ⟨hn,rfl⟩:=nr h
  obtain ⟨a0,rfl⟩: ∃a0,s= .slice a0 0 0:=by cases hs;exact ⟨_,rfl⟩
  obtain ⟨v,w',ao,a1,a2,a3,a4⟩:=Qe S hu oz aw hn hi hz h3 h4 wW mz hc.2 kb mw Ep _
  exact ⟨v,w',I,ao,a1,a2,a3,a4⟩
 | whole e' id=>
  obtain ⟨l,h⟩:=run_get h
  cases aa:hp id with
  | none=>rw[aa] at h;cases h
  | some blk=>
   rw[aa] at h
   cases blk with
   | dead=>cases h
   | var _=>cases h
   | nest _ _ _=>cases h
   | map _ _=>cases h
   | arr dN es fz=>
    cases fz with
    | true=>cases h
    | false=>
     obtain ⟨hc,h⟩:=aD h
     obtain ⟨hn,rfl⟩:=nr h
     simp only[Bool.and_eq_true,Nat.beq_eq,Nat.ble_eq] at hc
     obtain ⟨Jl,Jm,eM⟩:=hc
     subst Jl
     subst Jm
     have bN:nb≠id:=fun e=>by rw[e,aa] at hn;cases hn
     obtain ⟨k1,k2⟩:=DT S aa
     have j9:aG hp id (some ag.dead) nb=none:=by rw[ep _ _ bN];exact hn
     cases hs with
     | ej hd=>rw[aa] at hd;cases hd
     | eB hd=>rw[aa] at hd;cases hd
     | dP hd hb=>
      rw[aa] at hd
      cases hd
      simp only[List.length_nil,Nat.zero_add] at eM
      obtain ⟨v,w',ao,a1,a2,a3,a4⟩:=Qe k2 hu oz aw j9 hi hz h3 h4 wW mz eM kb mw Ep _
      exact ⟨v,w',I,ao,a1,k1.trans a2,a3,a4⟩
     | @whole _ _ aH nc b cap hd hb aU cd hm=>
      rw[aa] at hd
      cases hd
      have hr:=S.h.rel id _ aa
      cases hr with
      | dQ ay=>rw[ay] at hb;cases hb
      | @arr _ _ _ b' Ca _ ay hh pr hf eo mA=>
       rw[hb] at ay
       cases ay
       have hlen:es.length+xs.length≤2^45:=by
        have:(es.length+xs.length)*1≤(es.length+xs.length)*P.bytesOf e:=Nat.mul_le_mul_left _ uo
        simp only[bH] at eM
        omega
       rw[ng hh] at aU
       have qs: ∀aA blk',aG hp id (some ag.dead) aA=some blk'→¬bt P w (β aA) blk' b:=by
        intro aA blk' h1 h2
        by_cases iI:aA=id
        ·subst iI;rw[cY] at h1;cases h1;exact h2.alive rfl
        ·rw[ep _ _ iI] at h1
         exact iI (S.h.inj aA id blk' _ b h1 aa h2 (.root (by simp) hb))
       have Jn:=S.h.sC id _ b aa (by simp) hb
       have lr:es.length*P.cellsOf e≤Ca.toList.length:=by simpa using pr
       have Qf:(Lib.strCells x).length=xs.length*P.cellsOf e:=by rw[mw,kb,dR,Nat.mul_one]
       by_cases sM:es.length+xs.length≤cap
       ·have zP:es.length*P.cellsOf e+(Lib.strCells x).length≤Ca.size:=by rw[Qf,←Nat.add_mul,←aU];exact Nat.mul_le_mul_right _ sM
        have da:=Lib.run_append_room_string (P:=P) w t u ty e i hu oz hi wW b es.length cap Ca hh x (by rw[←kb];exact sM) (by rw[←mw];rw[dR,Nat.mul_one] at zP;exact zP)
        have cX:=Ef (P:=P) (w:=w) (I:=I) (n:=es.length) (c:=Ca.toList) rfl (fun i j y t' a b c=>by
         obtain ⟨v,hv,hp⟩:=mA i j y t' a b c
         exact ⟨v,by simpa using hv,hp⟩) Ep lr (Ca.toList.drop (es.length*P.cellsOf e+(Lib.strCells x).length))
        generalize wM:(Ca.toList.take es.length++Lib.strCells x++Ca.toList.drop (es.length+x.size)).toArray=C' at da
        have ox:C'.size=Ca.size:=by
         rw[dR,Nat.mul_one] at zP
         rw[←wM];simp;omega
        have Qg:(w.setRow b C').heap[b]? =some (.cells C' e (0,0)):=setRow_heap w b Ca C' e _ hh
        obtain ⟨a1,a2⟩:=zz k2 (blk:= .arr e (es++xs) false) (w':=w.setRow b C') j9 qs (eo rfl) (fun b' h _=>setRow_other w b b' _ h) (by simp) ⟨rfl,rfl⟩ Jn
         (fun b' h=>(Option.some.inj (h.flat (by simp))).symm) (fun hle=> .arr aw rfl Qg (by rw[ox,←aU];exact Nat.mul_le_mul_right _ (by simpa using sM)) (fun h=>by cases h) (fun _=>eo rfl) fun i j y t' a b c=>by
          obtain ⟨v,hv,hp⟩:=cX i j y t' a b c
          refine ⟨v,?_,hp.mono hle.dp hle.cf⟩
          rw[←wM,List.getElem?_toArray]
          rw[dR] at hv⊢
          simpa[mw] using hv)
        refine ⟨_,_,_,_,da,k1.trans a1,a2,?_⟩
        have a3:=ah.whole (P:=P) (w:=w.setRow b C') (I:=I) (β:=aG β nb (some b)) (hp:=aG (aG hp id (some .dead)) nb (some (.arr e (es++xs) false))) (cap:=cap) (b:=b) (es:=es++xs) (fz:=false) (id:=nb) (e:=e) (cY _ _ _) (cY _ _ _) (by rw[ng Qg,ox,aU]) (by simpa using sM) hm
        rw[List.length_append,kb] at a3
        exact a3
       ·have hold: ∀(j:Nat) v,(Ca.toList.take (es.length*P.cellsOf e))[j]? =some v→w.cell? ((⟨b,0,none⟩:Addr).add j)=some v:=by
         intro j v hj
         have cZ:=(List.getElem?_eq_some_iff.1 hj).1
         have bZ:j<es.length*P.cellsOf e:=by rw[List.length_take] at cZ;omega
         rw[List.getElem?_take_of_lt bZ] at hj
         rw[nn,cell?_cells hh,Nat.zero_add]
         simpa using hj
        have da:=Lib.run_append_grow_string (P:=P) w t u ty e i z hu oz hi hz ⟨b,0,none⟩ es.length cap (Ca.toList.take (es.length*P.cellsOf e)) (by rw[h3];simp;omega) hold x (by omega) (by omega)
         (growslice_fits (by omega) (by rw[←mz,←kb];simp only[bH] at eM;omega))
        rw[←kb] at da
        have po:=grownCap_ge w (es.length+xs.length) cap e
        have uq:grownCap w (es.length+xs.length) cap e≤maxLen:=grownCap_le_maxLen w _ cap e (by simp only[maxLen];omega)
        have cX:=Ef (P:=P) (w:=w) (I:=I) (n:=es.length) (c:=Ca.toList) rfl (fun i j y t' a b c=>by
         obtain ⟨v,hv,hp⟩:=mA i j y t' a b c
         exact ⟨v,by simpa using hv,hp⟩) Ep lr (Builtin.zeroCells z.cells (grownCap w (es.length+xs.length) cap e-(es.length+xs.length))).toList
        obtain ⟨n1,n2,n3⟩:=wR k2.drew (nb:=nb) (cap:=grownCap w (es.length+xs.length) cap e) (es:=es++xs)
         (C0:=(Ca.toList.take (es.length*P.cellsOf e)).toArray++(Lib.strCells x).toArray++Builtin.zeroCells z.cells (grownCap w (es.length+xs.length) cap e-(es.length+xs.length))) aw j9
         (by
          have e1:(Ca.toList.take (es.length*P.cellsOf e)).length=es.length*P.cellsOf e:=by simp;omega
          simp only[Array.size_append,List.size_toArray,size_zeroCells,h4,Qf,e1,←Nat.add_mul];congr 1;omega) (by simpa using po) uq
         (fun i j y t' a b c=>by
          obtain ⟨v,hv,hp⟩:=cX i j y t' a b c
          refine ⟨v,?_,Pure.drew hp⟩
          rw[←Array.getElem?_toList]
          simpa using hv)
        rw[List.length_append] at n3
        exact ⟨_,_,_,_,da,(k1.trans (Le.drew w I β _)).trans n1,n2,n3⟩
 | _=>cases h
end
section
variable {P:Program} {w w':World} {I I':Nat→Prop} {β ao:Nat→Option Nat} {hp hp':Nat→Option ag} {C:ae} {B:Nat} {M:Nat→Prop} {w0:Start}
theorem Qh: ∀(ns:List Int) (s:ByteArray),(ns.foldl (fun r n=>r.push (UInt8.ofNat n.toNat)) s).data.toList=s.data.toList++ns.map fun n=>UInt8.ofNat n.toNat
 | [],s=>by simp
 | n::ns,s=>by
  simp only[List.foldl_cons,Qh ns,List.map_cons]
  simp[ByteArray.push]
theorem Qi {e:TypeId} {u:Value} {x:V} (he:P.underlying e=some (.int .u8)) (hp:Pure P w I e u x):u= .int .u8 x.toInt:=by
 cases hp with
 | int hp'=>rw[he] at hp';cases hp';rfl
 | bool hp'=>rw[he] at hp';cases hp'
 | str hp'=>rw[he] at hp';cases hp'
 | nil hp'=>rw[he] at hp';cases hp'
 | emp hp'=>rw[he] at hp';cases hp'
 | list _ hp'=>rw[he] at hp';cases hp'
theorem aay (S:aC P w I β hp B M w0) {src dst e:TypeId} {v:Value} {x:V} {r:R} {rd:List Nat} (hs:P.underlying src=some (.slice e)) (he:P.underlying e=some (.int .u8)) (hd:P.underlying dst=some .string)
  (hv:ah P w I β hp v x) (h:(Rd.az (cW P e) (sr e x fun es=> .ret ⟨.str (jb es),[]⟩)).run C hp=some (r,rd)):dd P ((convert src dst v).run P w) w I β hp B M w0 r:=by
 obtain ⟨aw,h⟩:=aD h
 obtain ⟨xs,hx,l,h⟩:=Ee S.h.rel aw hv h
 obtain rfl:=aI h
 have nu:bE P e=false:=by simp[bE,he]
 have h1:P.cellsOf e=1:=by rw[←(j6 aw).1,zt nu];rfl
 rcases hx with ⟨⟨a,rfl⟩,rfl⟩|⟨a,c,news,hr⟩
 ·refine .same S (v:= .string .empty) ?_ (.str (by simp[jb]))
  rw[run_convert_bytes_string w src dst e a 0 0 hs he hd]
  cases a<;>simp[Conv.bytesToString,loadCells,loadCellsFrom]
 ·have Eg:news=(xs.map V.toInt).map (Value.int .u8):=by
   apply List.ext_getElem?
   intro j
   by_cases hj:j<xs.length
   ·obtain ⟨u,hu,hp⟩:=hr.el j 0 xs[j] e (List.getElem?_eq_getElem hj) (by simp[aO,nu]) (by omega)
    rw[h1] at hu
    simp only[bI,nu,cond_false] at hp
    have ga:news[j]? =some u:=by simpa using hu
    rw[ga]
    have:=Qi he hp
    simp[hj,←this]
   ·have hl:news.length=xs.length:=by rw[hr.len,h1];simp
    rw[List.getElem?_eq_none (by omega),List.getElem?_eq_none (by simp;omega)]
  have JD:=run_loadCells_list (P:=P) w a news hr.cell
  have hl:news.length=xs.length:=by rw[hr.len,h1];simp
  rw[hl] at JD
  rw[Eg] at JD
  refine .same S (v:= .string ((xs.map V.toInt).foldl (fun r n=>r.push (UInt8.ofNat n.toNat)) ByteArray.empty)) ?_ (.str ?_)
  ·rw[hr.val,run_convert_bytes_string w src dst e _ _ _ hs he hd]
   exact run_bytesToString w a xs.length c (xs.map V.toInt) JD
  ·rw[Qh]
   simp[jb]
theorem ah.Er {v:Value} (h:ah P w I β hp v .dw):v= .pointer none:=by cases h;rfl
section
variable (w:World)
theorem aaz (t e:TypeId) (a:Addr) (h:P.underlying t=some (.pointer e)):(binOp .eql t (.pointer (some a)) (.pointer none)).run P w= .ok (.bool false) w:=by
 have h0: ∀d:Nat,(Op.equalIn (d+1) t (.pointer (some a)) (.pointer none)).run P w= .ok false w:=fun d=>by simp[Op.equalIn,run_underlying h]
 simp only[binOp]
 simp[Op.equal,Op.maxDepth,h0 9999]
theorem aaA (t e:TypeId) (a:Addr) (h:P.underlying t=some (.pointer e)):(binOp .neq t (.pointer (some a)) (.pointer none)).run P w= .ok (.bool (!false)) w:=by
 have h0: ∀d:Nat,(Op.equalIn (d+1) t (.pointer (some a)) (.pointer none)).run P w= .ok false w:=fun d=>by simp[Op.equalIn,run_underlying h]
 simp only[binOp]
 simp[Op.equal,Op.maxDepth,h0 9999]
theorem aaB (t e:TypeId) (a:Addr) (h:P.underlying t=some (.pointer e)):(binOp .eql t (.pointer none) (.pointer (some a))).run P w= .ok (.bool false) w:=by
 have h0: ∀d:Nat,(Op.equalIn (d+1) t (.pointer none) (.pointer (some a))).run P w= .ok false w:=fun d=>by simp[Op.equalIn,run_underlying h]
 simp only[binOp]
 simp[Op.equal,Op.maxDepth,h0 9999]
theorem aaC (t e:TypeId) (a:Addr) (h:P.underlying t=some (.pointer e)):(binOp .neq t (.pointer none) (.pointer (some a))).run P w= .ok (.bool (!false)) w:=by
 have h0: ∀d:Nat,(Op.equalIn (d+1) t (.pointer none) (.pointer (some a))).run P w= .ok false w:=fun d=>by simp[Op.equalIn,run_underlying h]
 simp only[binOp]
 simp[Op.equal,Op.maxDepth,h0 9999]
theorem aaD (t e:TypeId) (h:P.underlying t=some (.pointer e)):(binOp .eql t (.pointer none) (.pointer none)).run P w= .ok (.bool true) w:=by
 have h0: ∀d:Nat,(Op.equalIn (d+1) t (.pointer none) (.pointer none)).run P w= .ok true w:=fun d=>by simp[Op.equalIn,run_underlying h]
 simp only[binOp]
 simp[Op.equal,Op.maxDepth,h0 9999]
theorem aaE (t e:TypeId) (h:P.underlying t=some (.pointer e)):(binOp .neq t (.pointer none) (.pointer none)).run P w= .ok (.bool (!true)) w:=by
 have h0: ∀d:Nat,(Op.equalIn (d+1) t (.pointer none) (.pointer none)).run P w= .ok true w:=fun d=>by simp[Op.equalIn,run_underlying h]
 simp only[binOp]
 simp[Op.equal,Op.maxDepth,h0 9999]
end
theorem Es (S:aC P w I β hp B M w0) {op:BinOp} {t:TypeId} {b:Bool} {x y:Operand} {v1 v2:Value} {r:R} {rd:List Nat} (h:(ptrEq P op t b).run C hp=some (r,rd)) (hg:(eqGuard op t x y v1 v2).run P w= .ok () w)
  (he: ∀e j,P.underlying t=some (.pointer e)→P.info? e=some j→(binOp .eql t v1 v2).run P w= .ok (.bool b) w∧(binOp .neq t v1 v2).run P w= .ok (.bool (!b)) w):
  dd P ((do eqGuard op t x y v1 v2;binOp op t v1 v2:Sem Value).run P w) w I β hp B M w0 r:=by
 unfold ptrEq at h
 cases hu:P.underlying t with
 | none=>rw[hu] at h;cases h
 | some d=>
  rw[hu] at h
  cases d<;>simp only at h<;>first|(cases h;done)|skip
  rename_i e
  obtain ⟨h1,h2⟩:=aD h
  obtain ⟨j,hj⟩:=Option.isSome_iff_exists.1 h1
  obtain ⟨k1,k2⟩:=he e j hu hj
  cases op<;>simp only at h2<;>first|(cases h2;done)|skip
  ·obtain rfl:=aI h2
   exact .same S (by simp only[Sem.run_bind,hg,Result.andThen_ok,k1]) .bool
  ·obtain rfl:=aI h2
   exact .same S (by simp only[Sem.run_bind,hg,Result.andThen_ok,k2]) .bool
theorem aaF {b n:Nat}:(∀b',b'≠b→(w.freeze ⟨b,0,none⟩ n).heap[b']? =w.heap[b']?)∧bsize (w.freeze ⟨b,0,none⟩ n) b=bsize w b∧w.heap.size≤(w.freeze ⟨b,0,none⟩ n).heap.size∧(w.freeze ⟨b,0,none⟩ n).os=w.os∧(w.freeze ⟨b,0,none⟩ n).output=w.output:=by
 unfold World.freeze
 split
 ·exact ⟨fun _ _=>rfl,rfl,Nat.le_refl _,rfl,rfl⟩
 ·refine ⟨fun b' hb=> ?_,?_,by simp,rfl,rfl⟩
  ·simp only[Array.getElem?_modify]
   rw[if_neg (fun e=>hb e.symm)]
  ·simp only[bsize,Array.getElem?_modify,if_true]
   cases w.heap[b]? with
   | none=>rfl
   | some o=>cases o<;>rfl
theorem aaG {e:TypeId} (hb:isByte P e=true):P.underlying e=some (.int .u8):=by
 unfold isByte at hb
 split at hb
 ·assumption
 ·cases hb
theorem aaH (S:aC P w I β hp B M w0) {ts:Array TypeId} {ty e:TypeId} {v:Value} {id:Nat} {es:List V} {fz:Bool} (hv:ah P w I β hp v (.whole e id)) (aa:hp id=some (.arr e es fz)) (h0:0<es.length):
  dd P ((Builtin.unsafeSliceData_ ts ty #[v]).run P w) w I β hp B M w0 ⟨.ptr id 0 0,[]⟩:=by
 cases hv with
 | ej h=>rw[aa] at h;cases h
 | dP h _=>rw[aa] at h;cases h;simp at h0
 | eB h _ _ _ _=>rw[aa] at h;cases h
 | @whole _ _ aH nc b cap h hb cd hle hm=>
  rw[aa] at h;cases h
  refine .same S (Lib.run_unsafeSliceData_row w ts ty ⟨b,0,none⟩ es.length cap (by omega)) ?_
  have:=ah.ptr (P:=P) (w:=w) (I:=I) (β:=β) (i:=0) (c:=0) aa (by simp) hb
  simpa using this
theorem aaI (S:aC P w I β hp B M w0) {t u ty e:TypeId} {vx:Value} {id:Nat} {n:Int} {es:List V} (hu:P.underlying t=some (.pointer e)) (hb:isByte P e=true) (hv:ah P w I β hp vx (.ptr id 0 0))
  (aa:hp id=some (.arr e es false)) (h0:0<n) (hn:n≤es.length) (hm:n.toNat≤tI) (fj:(es.take n.toNat).all Iw=true):dd P ((Builtin.unsafeString_ #[t,u] ty #[vx,.int .i64 n]).run P w) w I β hp B M w0 ⟨.str (jb (es.take n.toNat)),[(id,.dead)]⟩:=by
 obtain ⟨b,JE,rfl⟩:=hv.gP aa (by simp)
 have he:P.underlying e=some (.int .u8):=by
  unfold isByte at hb
  split at hb
  ·assumption
  ·cases hb
 have nu:bE P e=false:=by simp[bE,he]
 have hr:=S.h.rel id _ aa
 rw[JE] at hr
 cases hr with
 | dQ ay=>cases ay
 | @arr _ _ _ b1 Ca aw lr hh hs hI cS cX=>
  cases lr
  have h1:P.cellsOf e=1:=by rw[←(j6 aw).1,zt nu];rfl
  have aM:=S.Y8 aa (by simp) JE
  have hl:(jb (es.take n.toNat)).length=n.toNat:=by simp[jb];omega
  have JB:n=((jb (es.take n.toNat)).length:Nat):=by rw[hl];omega
  have da:=Lib.run_unsafeString_row (P:=P) w t u ty e hu h1 b Ca.size (by simp[World.shape?,hh]) (jb (es.take n.toNat)) (fun h=>by rw[h] at hl;simp at hl;omega) (by rw[hl];rw[h1] at hs;omega) (by rw[hl];unfold tI at hm;omega) (fun j x hx=>by
   have hj:j<n.toNat:=by
    have:=(List.getElem?_eq_some_iff.1 hx).1
    rw[hl] at this;exact this
   have ic:j<es.length:=by omega
   simp only[jb,List.getElem?_map,List.getElem?_take_of_lt hj,List.getElem?_eq_getElem ic,Option.map_some,Option.some.injEq] at hx
   obtain ⟨v,wS,bn⟩:=cX j 0 es[j] e (List.getElem?_eq_getElem ic) (by simp[aO,nu]) (by omega)
   rw[h1] at wS
   simp only[bI,nu,cond_false] at bn
   have:=Qi he bn
   have hr:=List.all_eq_true.1 fj es[j] (List.mem_of_getElem? (by rw[List.getElem?_take_of_lt hj];exact List.getElem?_eq_getElem ic))
   simp only[Iw,Bool.and_eq_true,decide_eq_true_eq] at hr
   have nq:(x.toNat:Int)=es[j].toInt:=by
    rw[←hx]
    have:es[j].toInt.toNat<256:=by omega
    simp only[UInt8.toNat_ofNat']
    omega
   rw[nn,cell?_cells hh,nq]
   rw[show 0+j=j*1+0 by omega,wS,this])
  obtain ⟨f1,f2,f3,f4,f5⟩:=aaF (w:=w) (b:=b) (n:=n.toNat)
  obtain ⟨k1,k2⟩:=DU (w':=w.freeze ⟨b,0,none⟩ n.toNat) S aa (by simp) (blk':= .dead) (by trivial) JE (cS rfl) (by simp) f1 f2 f3 ⟨f4,f5⟩ (fun _=> .dead)
  rw[←JB,hl] at da
  refine ⟨.string ⟨(jb (es.take n.toNat)).toArray⟩,_,I,β,?_,k1,k2,.str ?_⟩
  ·simpa using da
  ·rfl
def JF:Op→Bool
 | .call {callee:= .value (.func _),..}=>true
 | .call {callee:= .value (.tmp _),..}=>true
 | .defer _=>true
 | _=>false
theorem pd.val {o:Oper} {a:Act} {s:Sem Value} {r:R} (he:execOp a.eval o=(do Pure.pure (Next.value (←s)))) (h:dd P (s.run P w) w I β hp B M w0 r):pd P ((execOp a.eval o).run P w) w I β hp B M w0 r:=by
 rw[he];exact h.op
theorem aaJ {A:cF} (S:aC P w I β hp B M w0) (hg:gM P A.aB w I) {a:Act} {sl:Nat→V} (hs:kF P w I β hp a sl) {ix nb:Nat} {o:Oper} (JG:JF o.op=false) {r:R} {rd:List Nat}
  (h:(fJ P A sl ix nb o).run C hp=some (r,rd)):pd P ((execOp a.eval o).run P w) w I β hp B M w0 r:=by
 obtain ⟨dst,op,ty,pos,after,guard⟩:=o
 cases op<;>simp only[fJ] at h<;>first|(cases h;done)|skip
 case move x=>
  obtain rfl:=aI h
  exact ⟨_,w,I,β,.inl (by simp[execOp]),Le.refl w I β hp,S,hs.ev hg ty x⟩
 case assign x=>
  obtain rfl:=aI h
  exact ⟨_,w,I,β,.inl (by simp[execOp]),Le.refl w I β hp,S,hs.ev hg ty x⟩
 case pick c x y=>
  have hc:=hs.ev hg ty c
  cases uj:aJ P A.aB ty sl c<;>rw[uj] at h hc<;>simp only at h<;>first|(cases h;done)|skip
  rename_i t
  have aaK:=hc.jB
  have hx:=hs.ev hg ty x
  have hy:=hs.ev hg ty y
  have fin: ∀z:V,ah P w I β hp (if t then a.eval x else a.eval y) z→pd P ((execOp a.eval ⟨dst,.pick c x y,ty,pos,after,guard⟩).run P w) w I β hp B M w0 ⟨z,[]⟩:=by
   intro z hz
   exact ⟨_,w,I,β,.inl (by simp[execOp,aaK,asBool]),Le.refl w I β hp,S,hz⟩
  cases Et:gone (aJ P A.aB ty sl x) with
  | true=>
   rw[Et] at h
   obtain ⟨h1,h⟩:=aD h
   obtain rfl:=aI h
   have:t=false:=by simpa using h1
   subst this
   refine fin _ ?_
   simpa using hy
  | false=>
   rw[Et] at h
   simp only[cond_false] at h
   cases Qj:gone (aJ P A.aB ty sl y) with
   | true=>
    rw[Qj] at h
    obtain ⟨h1,h⟩:=aD h
    obtain rfl:=aI h
    subst h1
    refine fin _ ?_
    simpa using hx
   | false=>
    rw[Qj] at h
    obtain rfl:=aI h
    exact fin _ (O4 hx hy)
 case makeFunc fn x y=>
  cases fn<;>simp only[fJ] at h<;>first|(cases h;done)|skip
  rename_i f
  obtain rfl:=aI h
  refine ⟨.func (.func f) (x.map a.eval) (y.map a.eval),w,I,β,.inl (by simp[execOp,Instr.makeFunc]),Le.refl w I β hp,S,.fn (by simp) (fun j v z hj hz=> ?_) (by simp) (fun j v z hj hz=> ?_)⟩
  ·rw[Array.getElem?_map] at hj
   rw[List.getElem?_map,Array.getElem?_toList] at hz
   cases hx:x[j]? with
   | none=>rw[hx] at hj;cases hj
   | some o1=>
    rw[hx] at hj hz
    cases hj
    cases hz
    exact hs.ev hg ty o1
  ·rw[Array.getElem?_map] at hj
   rw[List.getElem?_map,Array.getElem?_toList] at hz
   cases hx:y[j]? with
   | none=>rw[hx] at hj;cases hj
   | some o1=>
    rw[hx] at hj hz
    cases hj
    cases hz
    exact hs.ev hg ty o1
 case defer c=>cases JG
 case makeMap t res=>
  cases res with
  | some x=>cases h
  | none=>exact .val rfl (aao S h)
 case lookup t m k ok=>
  cases ht:lj P t with
  | none=>rw[ht] at h;cases h
  | some q=>
   obtain ⟨kt,vt⟩:=q
   rw[ht] at h
   exact .val (s:=Instr.lookup t (a.eval m) (a.eval k) ok) rfl (aan S ht (hs.ev hg t m) (hs.ev hg kt k) h)
 case mapUpdate t m k x=>
  cases ht:lj P t with
  | none=>rw[ht] at h;cases h
  | some q=>
   obtain ⟨kt,vt⟩:=q
   rw[ht] at h
   have:=Qa S ht (hs.ev hg t m) (hs.ev hg kt k) (hs.ev hg vt x) h
   exact this.op
 case insert t m k x=>
  cases ht:lj P t with
  | none=>rw[ht] at h;cases h
  | some q=>
   obtain ⟨kt,vt⟩:=q
   rw[ht] at h
   have:=Qa S ht (hs.ev hg t m) (hs.ev hg kt k) (hs.ev hg vt x) h
   exact this.op
 case alloc e=>
  exact .val rfl (ZN S h)
 case box e x=>
  exact .val rfl (ZO S (hs.ev hg e x) h)
 case build t ps=>exact .val rfl (ZQ S hs hg h)
 case buildSlice t len ps=>
  cases hu:P.underlying t with
  | none=>rw[hu] at h;cases h
  | some d=>
   rw[hu] at h
   cases d<;>simp only at h<;>first|(cases h;done)|skip
   exact .val rfl (ZX S hs hg hu h)
 case load t x=>exact .val rfl (Zo S (hs.ev hg ty x) h)
 case store t x y=>
  have:=ZJ S (hs.ev hg ty x) (hs.ev hg t y) h
  exact this.op
 case nilCheck x=>
  have hx:=hs.ev hg ty x
  cases fw:aJ P A.aB ty sl x<;>rw[fw] at h hx<;>simp only at h<;>first|(cases h;done)|skip
  ·obtain ⟨⟨blk,aa,hd⟩,l,h⟩:=wB h
   obtain rfl:=aI h
   have cz:=hx
   obtain ⟨b,hb,he⟩:=hx.gP aa hd
   rw[he] at cz
   exact ⟨_,w,I,β,.inl (by simp only[execOp,he];rfl),Le.refl w I β hp,S,cz⟩
  ·obtain rfl:=aI h
   have cz:=hx
   obtain ⟨b,o,he,_⟩:=hx.DX
   rw[he] at cz
   exact ⟨_,w,I,β,.inl (by simp only[execOp,he];rfl),Le.refl w I β hp,S,cz⟩
  ·obtain ⟨e0,es,ai,l,aa,h1,h2,h3,h⟩:=om h
   obtain rfl:=aI h
   have cz:=hx
   obtain ⟨b,o,he,_⟩:=hx.O2 aa h1 h2 h3
   rw[he] at cz
   exact ⟨_,w,I,β,.inl (by simp only[execOp,he];rfl),Le.refl w I β hp,S,cz⟩
 case binOp op t x y yt=>
  have hx:=hs.ev hg t x
  have hy:=hs.ev hg t y
  refine .val (s:=do eqGuard op t x y (a.eval x) (a.eval y);binOp op t (a.eval x) (a.eval y)) rfl ?_
  cases fw:aJ P A.aB t sl x<;>cases sO:aJ P A.aB t sl y<;>rw[fw,sO] at h<;>rw[fw] at hx<;>rw[sO] at hy<;>first|(simp only[jV] at h;cases h;done)|skip
  ·rw[hx.eC,hy.eC]
   have:=Ze S h
   simpa[Zb] using this
  ·rw[hx.jB,hy.jB]
   have:=Zg S h
   simpa[Zc] using this
  ·obtain ⟨s1,e1,l1⟩:=hx.mr
   obtain ⟨s2,e2,l2⟩:=hy.mr
   rw[e1,e2]
   rw[←l1,←l2] at h
   have:=Zh (t:=t) S h
   simpa[Zd] using this
  ·obtain ⟨cs,e1,h1,h2⟩:=hx.kH
   obtain ⟨ds,e2,h3,h4⟩:=hy.kH
   rw[e1,e2]
   exact Zi S h1 h3 h2 h4 h
  ·
   simp only[jV] at h
   obtain ⟨h1,h2⟩:=aD h
   clear h
   simp only[Bool.and_eq_true,Nat.beq_eq] at h1
   obtain ⟨rfl,rfl,rfl⟩:=h1
   obtain ⟨⟨blk,aa,hd⟩,l,h⟩:=wB h2
   obtain ⟨b,hb,e1⟩:=hx.gP aa hd
   obtain ⟨b',ay,e2⟩:=hy.gP aa hd
   rw[hb] at ay;cases ay
   rw[e1,e2]
   exact Es S h (by cases op<;>simp[eqGuard]) fun e j he hj=>⟨run_eql_ptr_same w _ he hj,Lib.run_neq_ptr_same w _ he hj⟩
  ·simp only[jV] at h
   obtain ⟨⟨blk,aa,hd⟩,l,h⟩:=wB h
   obtain ⟨b,_,e1⟩:=hx.gP aa hd
   rw[e1,hy.Er]
   exact Es S h (by cases op<;>simp[eqGuard]) fun e j he hj=>⟨aaz w t e _ he,aaA w t e _ he⟩
  ·simp only[jV] at h
   obtain ⟨⟨blk,aa,hd⟩,l,h⟩:=wB h
   obtain ⟨b,_,e1⟩:=hy.gP aa hd
   rw[e1,hx.Er]
   exact Es S h (by cases op<;>simp[eqGuard]) fun e j he hj=>⟨aaB w t e _ he,aaC w t e _ he⟩
  ·simp only[jV] at h
   rw[hx.Er,hy.Er]
   exact Es S h (by cases op<;>simp[eqGuard]) fun e j he hj=>⟨aaD w t e he,aaE w t e he⟩
  ·
   simp only[jV] at h
   obtain ⟨l,h⟩:=run_get h
   split at h
   ·rename_i t2 es aa
    obtain ⟨b,hb⟩:=hx.aas aa
    rw[hy.JC,hb]
    exact Qd (a:=some b) S x y h
   ·cases h
  ·simp only[jV] at h
   rw[hx.JC,hy.JC]
   exact Qd (a:=none) S x y h
 case unOp op t x=>exact .val rfl (Zj S (hs.ev hg ty x) h)
 case convert src dst x=>
  have hx:=hs.ev hg ty x
  refine .val (s:=convert src dst (a.eval x)) rfl ?_
  cases jA:P.underlying src with
  | none=>rw[jA] at h;cases h
  | some d1=>
   cases mC:P.underlying dst with
   | none=>rw[jA,mC] at h;cases d1<;>cases h
   | some d2=>
    rw[jA,mC] at h
    have gx: ∀{b:Nat} {T:TypeId} {cs:List V} {id:Nat},hp id=some (.var T cs)→β id=some b→w.shape? b=some (T,cs.length):=by
     intro b T cs id aa hb
     have hr:=S.h.rel id _ aa
     rw[hb] at hr
     cases hr with
     | var ay hh aU _ _ _=>cases ay;simp[World.shape?,hh,aU]
    cases d1<;>(try (cases d2<;>cases h;done))
    ·cases d2<;>(try (cases h;done))
     rename_i k1 k2
     cases fw:aJ P A.aB ty sl x<;>rw[fw] at h hx<;>simp only at h<;>first|(cases h;done)|skip
     obtain rfl:=aI h
     rw[hx.eC]
     exact .same S (by simp[convert,run_underlying jA,run_underlying mC,Conv.intToInt]) .int
    ·cases d2<;>(try (cases h;done))
     rename_i u
     cases fw:aJ P A.aB ty sl x<;>rw[fw] at h hx<;>simp only at h<;>first|(cases h;done)|skip
     rename_i id i c
     obtain ⟨l,h1⟩:=run_get h
     cases aa:hp id with
     | none=>rw[aa] at h1;cases h1
     | some blk=>
      rw[aa] at h1
      cases blk<;>simp only at h1<;>first|(cases h1;done)|skip
      rename_i T cs
      obtain ⟨h2,h3⟩:=aD h1
      simp only[Bool.and_eq_true,Nat.beq_eq] at h2
      obtain ⟨rfl,h4,h5⟩:=h2
      obtain ⟨b,hb,e1⟩:=hx.gP aa (by simp)
      obtain rfl:=aI h3
      obtain ⟨j,hj⟩:=Option.isSome_iff_exists.1 h4
      have cz:=hx
      rw[e1] at cz⊢
      exact .same S (Lib.run_from_unsafe w _ jA mC hj (gx aa hb) (by simpa using h5)) cz
    ·cases d2<;>(try (cases h;done))
     rename_i t
     cases fw:aJ P A.aB ty sl x<;>rw[fw] at h hx<;>simp only at h<;>first|(cases h;done)|skip
     rename_i id i c
     obtain ⟨l,h1⟩:=run_get h
     cases aa:hp id with
     | none=>rw[aa] at h1;cases h1
     | some blk=>
      rw[aa] at h1
      cases blk<;>simp only at h1<;>first|(cases h1;done)|skip
      rename_i T cs
      obtain ⟨h2,h3⟩:=aD h1
      simp only[Bool.and_eq_true,Nat.beq_eq,Nat.blt_eq] at h2
      obtain ⟨rfl,h4,h5⟩:=h2
      obtain ⟨b,hb,e1⟩:=hx.gP aa (by simp)
      obtain rfl:=aI h3
      cases hj:P.info? t with
      | none=>rw[hj] at h5;cases h5
      | some j=>
       rw[hj] at h5
       simp only[Bool.not_eq_true'] at h5
       have h6:j.size≠0:=fun e=>by rw[e] at h5;cases h5
       have cz:=hx
       rw[e1] at cz⊢
       exact .same S (Lib.run_to_unsafe w _ jA mC hj h6 (gx aa hb) (by simpa using h4)) cz
    ·rename_i e
     cases d2<;>(try (cases h;done))
     simp only at h
     cases he:P.underlying e with
     | none=>rw[he] at h;cases h
     | some d3=>
      rw[he] at h
      cases d3<;>(try (cases h;done))
      rename_i k
      cases k<;>(try (cases h;done))
      exact aay S jA he mC hx h
 case fieldAddr s x f=>exact .val rfl (Zk S (hs.ev hg ty x) h)
 case field s x f=>exact .val rfl (aab S (hs.ev hg ty x) h)
 case indexAddr t x y=>exact .val rfl (aah S (hs.ev hg ty x) (hs.ev hg 0 y) h)
 case index t x y=>
  have hx:=hs.ev hg ty x
  have hy:=hs.ev hg 0 y
  refine .val (s:=Instr.index t (a.eval x) (a.eval y)) rfl ?_
  cases hu:P.underlying t with
  | none=>rw[hu] at h;cases h
  | some d=>
   rw[hu] at h
   cases d<;>(try (cases h;done))
   cases fw:aJ P A.aB ty sl x<;>rw[fw] at h hx<;>(try (cases h;done))
   cases sO:aJ P A.aB 0 sl y<;>rw[sO] at h hy<;>(try (cases h;done))
   obtain ⟨s,e1,l1⟩:=hx.mr
   rw[e1,hy.eC]
   exact aad S hu l1 h
 case slice t x lo hi mx=>
  cases mx with
  | some m=>
   simp only at h
   refine .val (s:=Instr.sliceAt t (a.eval x) (lo.map a.eval) (hi.map a.eval) (some (a.eval m))) (by simp[execOp]) (aag S (hs.ev hg ty x) (fun hy=> ?_) (fun y hy=> ?_) (fun y hy=> ?_) h)
   ·cases lo with
    | none=>rfl
    | some l=>cases hy
   ·cases hi with
    | none=>cases hy
    | some l=>cases hy;exact ⟨_,rfl,hs.ev hg 0 l⟩
   ·cases hy;exact ⟨_,rfl,hs.ev hg 0 m⟩
  | none=>
   simp only at h
   have plain:(DB P t (aJ P A.aB ty sl x) (lo.map (aJ P A.aB 0 sl)) (hi.map (aJ P A.aB 0 sl))).run C hp=some (r,rd)→pd P ((execOp a.eval ⟨dst,.slice t x lo hi none,ty,pos,after,guard⟩).run P w) w I β hp B M w0 r:=by
    intro h
    refine .val (s:=Instr.sliceAt t (a.eval x) (lo.map a.eval) (hi.map a.eval) none) (by simp[execOp]) (aaf S (hs.ev hg ty x) (fun y hy=> ?_) (fun y hy=> ?_) (fun hy=> ?_) (fun hy=> ?_) h)
    ·cases lo with
     | none=>cases hy
     | some l=>cases hy;exact ⟨_,rfl,hs.ev hg 0 l⟩
    ·cases hi with
     | none=>cases hy
     | some l=>cases hy;exact ⟨_,rfl,hs.ev hg 0 l⟩
    ·cases lo with
     | none=>rfl
     | some l=>cases hy
    ·cases hi with
     | none=>rfl
     | some l=>cases hy
   have tr:(DC P nb t (aJ P A.aB ty sl x) (lo.map (aJ P A.aB 0 sl)) (hi.map (aJ P A.aB 0 sl))).run C hp=some (r,rd)→pd P ((execOp a.eval ⟨dst,.slice t x lo hi none,ty,pos,after,guard⟩).run P w) w I β hp B M w0 r:=by
    intro h
    refine .val (s:=Instr.sliceAt t (a.eval x) (lo.map a.eval) (hi.map a.eval) none) (by simp[execOp]) (aaj S (hs.ev hg ty x) (fun y hy=> ?_) (fun hy=> ?_) h)
    ·cases hi with
     | none=>cases hy
     | some l=>cases hy;exact ⟨_,rfl,hs.ev hg 0 l⟩
    ·cases lo with
     | none=>rfl
     | some l=>cases hy
   cases dst with
   | none=>exact plain h
   | some d=>
    simp only at h
    cases wX:jT A.v9 d with
    | true=>rw[wX] at h;exact tr h
    | false=>rw[wX] at h;exact plain h
 case extract x i=>
  have hx:=hs.ev hg ty x
  cases fw:aJ P A.aB ty sl x<;>rw[fw] at h hx<;>simp only at h<;>first|(cases h;done)|skip
  exact .val (s:=Instr.extract (a.eval x) i) rfl (aac S hx h)
 case makeSlice t l c=>
  have hl:=hs.ev hg 0 l
  have hc:=hs.ev hg 0 c
  refine .val (s:=Instr.makeSlice t (a.eval l) (a.eval c)) rfl ?_
  cases hu:P.underlying t with
  | none=>rw[hu] at h;cases h
  | some d=>
   rw[hu] at h
   cases d<;>(try (cases h;done))
   cases JH:aJ P A.aB 0 sl l<;>rw[JH] at h hl<;>(try (cases h;done))
   cases uj:aJ P A.aB 0 sl c<;>rw[uj] at h hc<;>(try (cases h;done))
   rw[hl.eC,hc.eC]
   cases dst with
   | none=>exact PH S hu h
   | some d=>
    simp only at h
    cases hg:jT A.v9 d with
    | true=>rw[hg] at h;exact ZZ S hu h
    | false=>rw[hg] at h;exact PH S hu h
 case call c=>
  obtain ⟨callee,args,argTypes⟩:=c
  cases callee with
  | invoke r m=>cases h
  | value f=>
   cases f with
   | func f=>cases JG
   | tmp f=>cases JG
   | _=>cases h
  | builtin b=>
   have one: ∀{x:Operand},args.toList=[x]→args= #[x]:=fun h=>by rw[←Array.toArray_toList (xs:=args),h]
   have qH: ∀(s:Array TypeId→TypeId→Array Value→Sem Value),builtin b argTypes ty (args.map fun| .const _=>true|_=>false) (args.map a.eval)=(do Pure.pure (Next.value (←s argTypes ty (args.map a.eval))))→
     execOp a.eval ⟨dst,.call ⟨.builtin b,args,argTypes⟩,ty,pos,after,guard⟩=(do Pure.pure (Next.value (←s argTypes ty (args.map a.eval)))):=by
    intro s hb
    simp only[execOp,resolve,pure_bind,invoke]
    exact hb
   cases b<;>(try (cases h;done))
   case append=>
    simp only at h
    cases ha:args.toList with
    | nil=>rw[ha] at h;cases h
    | cons x l=>
     cases l with
     | nil=>rw[ha] at h;cases h
     | cons y l2=>
      cases l2 with
      | cons _ _=>rw[ha] at h;cases h
      | nil=>
       cases dq:argTypes.toList with
       | nil=>rw[ha,dq] at h;cases h
       | cons t l3=>
        cases l3 with
        | nil=>rw[ha,dq] at h;cases h
        | cons u l4=>
         cases l4 with
         | cons _ _=>rw[ha,dq] at h;cases h
         | nil=>
          rw[ha,dq] at h
          simp only at h
          have e1:args= #[x,y]:=by rw[←Array.toArray_toList (xs:=args),ha]
          have e2:argTypes= #[t,u]:=by rw[←Array.toArray_toList (xs:=argTypes),dq]
          cases hu:P.underlying t with
          | none=>rw[hu] at h;cases h
          | some d=>
           rw[hu] at h
           cases d<;>(try (cases h;done))
           cases hc:Nat.beq t u with
           | true=>
            rw[hc] at h
            rw[Nat.beq_eq] at hc
            subst hc
            have:=Z2 (ty:=ty) S hu (hs.ev hg t x) (hs.ev hg t y) h
            refine .val (qH Builtin.append_ rfl) ?_
            rw[e1,e2]
            simpa using this
           | false=>
            rw[hc] at h
            simp only[cond_false] at h
            have hy:=hs.ev hg u y
            cases oz:P.underlying u with
            | none=>rw[oz] at h;cases h
            | some du=>
             rw[oz] at h
             cases du<;>(try (cases h;done))
             cases sO:aJ P A.aB u sl y<;>rw[sO] at h hy<;>(try (cases h;done))
             simp only at h
             obtain ⟨hb,h⟩:=aD h
             obtain ⟨s1,q1,q2⟩:=hy.mr
             subst q2
             have:=aax (ty:=ty) S hu oz (aaG hb) (hs.ev hg t x) h
             refine .val (qH Builtin.append_ rfl) ?_
             rw[e1,e2]
             simpa[q1] using this
   case len=>
    simp only at h
    cases ha:args.toList with
    | nil=>rw[ha] at h;cases h
    | cons x l=>
     cases l with
     | cons _ _=>rw[ha] at h;cases h
     | nil=>
      cases dq:argTypes.toList with
      | nil=>rw[ha,dq] at h;cases h
      | cons t l3=>
       cases l3 with
       | cons _ _=>rw[ha,dq] at h;cases h
       | nil=>
        rw[ha,dq] at h
        simp only at h
        have e1:args= #[x]:=by rw[←Array.toArray_toList (xs:=args),ha]
        have e2:argTypes= #[t]:=by rw[←Array.toArray_toList (xs:=argTypes),dq]
        have hx:=hs.ev hg ty x
        refine .val (qH Builtin.len_ rfl) ?_
        rw[e1,e2]
        cases hu:P.underlying t with
        | none=>rw[hu] at h;cases h
        | some d=>
         rw[hu] at h
         cases d<;>(try (cases h;done))
         ·cases fw:aJ P A.aB ty sl x<;>rw[fw] at h hx<;>(try (cases h;done))
          have:=O5 (t:=t) (ty:=ty) S hx (fun l hl=>hu) (fun hn=>absurd rfl (hn _)) h
          simpa using this
         ·have h2:(∀l,aJ P A.aB ty sl x≠ .str l)∧(Dw P (aJ P A.aB ty sl x)).run C hp=some (r,rd):=by
           cases fw:aJ P A.aB ty sl x<;>rw[fw] at h<;>first|(cases h;done)|exact ⟨fun l=>by simp,h⟩
          have:=O5 (t:=t) (ty:=ty) S hx (fun l hl=>absurd hl (h2.1 l)) (fun _=>⟨_,hu⟩) h2.2
          simpa using this
         ·have h2:(DA (aJ P A.aB ty sl x)).run C hp=some (r,rd):=by
           cases fw:aJ P A.aB ty sl x<;>rw[fw] at h<;>exact h
          have:=aar (t:=t) (ty:=ty) S hu hx h2
          simpa using this
   case unsafeSliceData=>
    simp only at h
    cases ha:args.toList with
    | nil=>rw[ha] at h;cases h
    | cons x l=>
     cases l with
     | cons _ _=>rw[ha] at h;cases h
     | nil=>
      rw[ha] at h
      simp only at h
      have e1:args= #[x]:=by rw[←Array.toArray_toList (xs:=args),ha]
      have hx:=hs.ev hg ty x
      refine .val (qH Builtin.unsafeSliceData_ rfl) ?_
      rw[e1]
      cases fw:aJ P A.aB ty sl x<;>rw[fw] at h hx<;>simp only at h<;>first|(cases h;done)|skip
      rename_i e id
      obtain ⟨l2,h1⟩:=run_get h
      cases aa:hp id with
      | none=>rw[aa] at h1;cases h1
      | some blk=>
       rw[aa] at h1
       cases blk<;>simp only at h1<;>first|(cases h1;done)|skip
       rename_i e' es fz
       obtain ⟨h2,h3⟩:=aD h1
       simp only[Bool.and_eq_true,Nat.beq_eq,Nat.blt_eq] at h2
       obtain ⟨rfl,h4⟩:=h2
       obtain rfl:=aI h3
       have:=aaH (ts:=argTypes) (ty:=ty) S hx aa h4
       simpa using this
   case unsafeString=>
    simp only at h
    cases ha:args.toList with
    | nil=>rw[ha] at h;cases h
    | cons x l=>
     cases l with
     | nil=>rw[ha] at h;cases h
     | cons y l2=>
      cases l2 with
      | cons _ _=>rw[ha] at h;cases h
      | nil=>
       cases dq:argTypes.toList with
       | nil=>rw[ha,dq] at h;cases h
       | cons t l3=>
        cases l3 with
        | nil=>rw[ha,dq] at h;cases h
        | cons u l4=>
         cases l4 with
         | cons _ _=>rw[ha,dq] at h;cases h
         | nil=>
          rw[ha,dq] at h
          simp only at h
          have e1:args= #[x,y]:=by rw[←Array.toArray_toList (xs:=args),ha]
          have e2:argTypes= #[t,u]:=by rw[←Array.toArray_toList (xs:=argTypes),dq]
          have hx:=hs.ev hg ty x
          have hy:=hs.ev hg ty y
          cases hu:P.underlying t with
          | none=>rw[hu] at h;cases h
          | some d=>
           rw[hu] at h
           cases d<;>(try (cases h;done))
           rename_i e
           cases fw:aJ P A.aB ty sl x<;>rw[fw] at h hx<;>(try (cases h;done))
           cases sO:aJ P A.aB ty sl y<;>rw[sO] at h hy<;>(try (cases h;done))
           rename_i id i c k n
           cases k<;>(try (cases h;done))
           simp only at h
           obtain ⟨l2,h1⟩:=run_get h
           cases aa:hp id with
           | none=>rw[aa] at h1;cases h1
           | some blk=>
            rw[aa] at h1
            cases blk<;>simp only at h1<;>first|(cases h1;done)|skip
            rename_i e' es fz
            cases fz<;>simp only at h1<;>first|(cases h1;done)|skip
            obtain ⟨h2,h3⟩:=aD h1
            simp only[Bool.and_eq_true,Nat.beq_eq,Nat.ble_eq,decide_eq_true_eq] at h2
            obtain ⟨rfl,h4,rfl,rfl,h5,h6,h7,h8⟩:=h2
            obtain rfl:=aI h3
            have:=aaI (u:=u) (ty:=ty) S hu h4 hx aa h5 h6 h7 h8
            refine .val (qH Builtin.unsafeString_ rfl) ?_
            rw[e1,e2]
            simpa[hy.eC] using this
   case copy=>
    simp only at h
    cases ha:args.toList with
    | nil=>rw[ha] at h;cases h
    | cons x l=>
     cases l with
     | nil=>rw[ha] at h;cases h
     | cons y l2=>
      cases l2 with
      | cons _ _=>rw[ha] at h;cases h
      | nil=>
       cases dq:argTypes.toList with
       | nil=>rw[ha,dq] at h;cases h
       | cons t l3=>
        cases l3 with
        | nil=>rw[ha,dq] at h;cases h
        | cons u l4=>
         cases l4 with
         | cons _ _=>rw[ha,dq] at h;cases h
         | nil=>
          rw[ha,dq] at h
          simp only at h
          have e1:args= #[x,y]:=by rw[←Array.toArray_toList (xs:=args),ha]
          have e2:argTypes= #[t,u]:=by rw[←Array.toArray_toList (xs:=argTypes),dq]
          cases hu:P.underlying t with
          | none=>rw[hu] at h;cases h
          | some d=>
           rw[hu] at h
           cases d<;>(try (cases h;done))
           have:=Z8 (u:=u) (ty:=ty) S hu (hs.ev hg t x) (hs.ev hg u y) h
           refine .val (qH Builtin.copy_ rfl) ?_
           rw[e1,e2]
           simpa using this
   case clear=>
    simp only at h
    cases ha:args.toList with
    | nil=>rw[ha] at h;cases h
    | cons x l=>
     cases l with
     | cons _ _=>rw[ha] at h;cases h
     | nil=>
      cases dq:argTypes.toList with
      | nil=>rw[ha,dq] at h;cases h
      | cons t l3=>
       cases l3 with
       | cons _ _=>rw[ha,dq] at h;cases h
       | nil=>
        rw[ha,dq] at h
        simp only at h
        have e1:args= #[x]:=by rw[←Array.toArray_toList (xs:=args),ha]
        have e2:argTypes= #[t]:=by rw[←Array.toArray_toList (xs:=argTypes),dq]
        cases hu:P.underlying t with
        | none=>rw[hu] at h;cases h
        | some d=>
         rw[hu] at h
         cases d<;>(try (cases h;done))
         have:=Z9 (ty:=ty) S hu (hs.ev hg t x) h
         refine .val (qH Builtin.clear_ rfl) ?_
         rw[e1,e2]
         simpa using this
   case max=>
    simp only at h
    cases ha:args.toList with
    | nil=>rw[ha] at h;cases h
    | cons x l=>
     rw[ha] at h
     simp only at h
     have:=Jq S true (vs:=l.map a.eval) (xs:=l.map (aJ P A.aB ty sl)) (hs.ev hg ty x) (by simp) (fun j u y hu hy=>by
      simp only[List.getElem?_map] at hu hy
      cases hl:l[j]? with
      | none=>rw[hl] at hu;cases hu
      | some z=>rw[hl] at hu hy;cases hu;cases hy;exact hs.ev hg ty z) h
     refine .val (qH Builtin.max_ rfl) ?_
     simpa[Builtin.max_,ha] using this
   case min=>
    simp only at h
    cases ha:args.toList with
    | nil=>rw[ha] at h;cases h
    | cons x l=>
     rw[ha] at h
     simp only at h
     have:=Jq S false (vs:=l.map a.eval) (xs:=l.map (aJ P A.aB ty sl)) (hs.ev hg ty x) (by simp) (fun j u y hu hy=>by
      simp only[List.getElem?_map] at hu hy
      cases hl:l[j]? with
      | none=>rw[hl] at hu;cases hu
      | some z=>rw[hl] at hu hy;cases hu;cases hy;exact hs.ev hg ty z) h
     refine .val (qH Builtin.min_ rfl) ?_
     simpa[Builtin.min_,ha] using this
end
section
variable {P:Program} {A:cF} {w w':World} {I I' I2:Nat→Prop} {μ β ao:Nat→Option Nat} {hp hp':Nat→Option ag} {C:ae} {B:Nat} {M:Nat→Prop} {w0:Start}
theorem wY: ∀{l m:List Nat},eK.od l m=true→l=m
 | [],[],_=>rfl
 | [],_::_,h=>by cases h
 | _::_,[],h=>by cases h
 | a::l,b::m,h=>by
  simp only[eK.od,Bool.and_eq_true,Nat.beq_eq] at h
  rw[h.1,wY h.2]
@[simp] theorem Qk (n:Nat):kA (eh n)=n:=by simp[kA,eh,V.toInt]
theorem Eu: ∀(path:List (Nat × Nat)) (rest:List V),y9 (path.map (·.2)) ((path.map fun p=>eh p.1)++rest)=path
 | [],_=>rfl
 | p::l,rest=>by
  simp only[List.map_cons,List.cons_append,y9,V.nth,Qk,List.drop_succ_cons,List.drop_zero,Eu l rest]
theorem Ev {l:LS} {x:V} {ds:List V} (h:eK l x=some ds):ds.length=l.size∧(l= .sh∨∀rest,iB l (ds++rest)=x):=by
 cases l with
 | sh=>simp only[eK,Option.some.injEq] at h;subst h;exact ⟨rfl,.inl rfl⟩
 | int k=>
  cases x<;>simp only[eK] at h<;>first|(cases h;done)|skip
  rename_i k' n
  by_cases hk:k=k'
  ·subst hk
   simp only[decide_true,cond_true,Option.some.injEq] at h
   subst h
   exact ⟨rfl,.inr fun _=>rfl⟩
  ·simp[hk] at h
 | bool=>
  cases x<;>simp only[eK] at h<;>first|(cases h;done)|skip
  cases h
  exact ⟨rfl,.inr fun _=>rfl⟩
 | str=>
  cases x<;>simp only[eK] at h<;>first|(cases h;done)|skip
  cases h
  exact ⟨rfl,.inr fun _=>rfl⟩
 | list e=>
  cases x<;>simp only[eK] at h<;>first|(cases h;done)|skip
  rename_i e' es
  cases hb:Nat.beq e e' with
  | false=>rw[hb] at h;cases h
  | true=>
   rw[hb] at h
   rw[Nat.beq_eq] at hb
   subst hb
   cases h
   exact ⟨rfl,.inr fun _=>rfl⟩
 | whole e j=>
  cases x<;>simp only[eK] at h<;>first|(cases h;done)|skip
  rename_i e' id
  cases hb:(Nat.beq e e'&&Nat.beq j id) with
  | false=>rw[hb] at h;cases h
  | true=>
   rw[hb] at h
   simp only[Bool.and_eq_true,Nat.beq_eq] at hb
   obtain ⟨rfl,rfl⟩:=hb
   cases h
   exact ⟨rfl,.inr fun _=>rfl⟩
 | sub e j=>
  cases x<;>simp only[eK] at h<;>first|(cases h;done)|skip
  rename_i e' id o n
  cases hb:(Nat.beq e e'&&Nat.beq j id) with
  | false=>rw[hb] at h;cases h
  | true=>
   rw[hb] at h
   simp only[Bool.and_eq_true,Nat.beq_eq] at hb
   obtain ⟨rfl,rfl⟩:=hb
   cases h
   exact ⟨rfl,.inr fun _=>by simp[iB,V.nth]⟩
 | ptr j=>
  cases x<;>simp only[eK] at h<;>first|(cases h;done)|skip
  rename_i id i c
  cases hb:(Nat.beq j id) with
  | false=>rw[hb] at h;cases h
  | true=>
   rw[hb] at h
   rw[Nat.beq_eq] at hb
   subst hb
   cases h
   exact ⟨rfl,.inr fun _=>by simp[iB,V.nth]⟩
 | b6 j i c=>
  cases x<;>simp only[eK] at h<;>first|(cases h;done)|skip
  rename_i id i' c'
  cases hb:(Nat.beq j id&&(Nat.beq i i'&&Nat.beq c c')) with
  | false=>rw[hb] at h;cases h
  | true=>
   rw[hb] at h
   simp only[Bool.and_eq_true,Nat.beq_eq] at hb
   obtain ⟨rfl,rfl,rfl⟩:=hb
   cases h
   exact ⟨rfl,.inr fun _=>rfl⟩
 | nilS e=>
  cases x<;>simp only[eK] at h<;>first|(cases h;done)|skip
  rename_i e'
  cases hb:Nat.beq e e' with
  | false=>rw[hb] at h;cases h
  | true=>
   rw[hb] at h
   rw[Nat.beq_eq] at hb
   subst hb
   cases h
   exact ⟨rfl,.inr fun _=>rfl⟩
 | dw=>
  cases x<;>simp only[eK] at h<;>first|(cases h;done)|skip
  cases h
  exact ⟨rfl,.inr fun _=>rfl⟩
 | bL e j=>
  cases x<;>simp only[eK] at h<;>first|(cases h;done)|skip
  rename_i e' id
  cases hb:(Nat.beq e e'&&Nat.beq j id) with
  | false=>rw[hb] at h;cases h
  | true=>
   rw[hb] at h
   simp only[Bool.and_eq_true,Nat.beq_eq] at hb
   obtain ⟨rfl,rfl⟩:=hb
   cases h
   exact ⟨rfl,.inr fun _=>rfl⟩
 | dm e=>
  cases x<;>simp only[eK] at h<;>first|(cases h;done)|skip
  rename_i e'
  cases hb:Nat.beq e e' with
  | false=>rw[hb] at h;cases h
  | true=>
   rw[hb] at h
   rw[Nat.beq_eq] at hb
   subst hb
   cases h
   exact ⟨rfl,.inr fun _=>rfl⟩
 | v8 k n=>
  cases x<;>simp only[eK] at h<;>first|(cases h;done)|skip
  rename_i k' m
  cases hb:(decide (k=k')&&decide (m=n)) with
  | false=>rw[hb] at h;cases h
  | true=>
   rw[hb] at h
   simp only[Bool.and_eq_true,decide_eq_true_eq] at hb
   obtain ⟨rfl,rfl⟩:=hb
   cases h
   exact ⟨rfl,.inr fun _=>rfl⟩
 | row e j cs=>
  cases x<;>simp only[eK] at h<;>first|(cases h;done)|skip
  rename_i e' id ver path
  cases hb:(Nat.beq e e'&&(Nat.beq j id&&(Nat.beq ver 0&&eK.od cs (path.map (·.2))))) with
  | false=>rw[hb] at h;cases h
  | true=>
   rw[hb] at h
   simp only[Bool.and_eq_true,Nat.beq_eq] at hb
   obtain ⟨rfl,rfl,rfl,ou⟩:=hb
   have:=wY ou
   subst this
   cases h
   exact ⟨by simp[LS.size],.inr fun rest=>by simp only[iB,Eu]⟩
 | cE j cs c=>
  cases x<;>simp only[eK] at h<;>first|(cases h;done)|skip
  rename_i id ver path i c'
  cases hb:(Nat.beq j id&&(Nat.beq ver 0&&(Nat.beq c c'&&eK.od cs (path.map (·.2))))) with
  | false=>rw[hb] at h;cases h
  | true=>
   rw[hb] at h
   simp only[Bool.and_eq_true,Nat.beq_eq] at hb
   obtain ⟨rfl,rfl,rfl,ou⟩:=hb
   have:=wY ou
   subst this
   cases h
   exact ⟨by simp[LS.size],.inr fun rest=>by simp only[iB,List.cons_append,V.nth,Qk,List.drop_succ_cons,List.drop_zero,Eu]⟩
def LS.below (n:Nat) (x:V):Prop:= ∀id∈ez x,id<n
def Ql:V→Prop
 | .agg _=>False
 | .a8 _=>False
 | .fn .. =>False
 | .pref .. =>False
 | _=>True
theorem uw {c:Bool} {a d:List V} (h:(bif c then some a else none)=some d):c=true:=by
 cases c with
 | true=>rfl
 | false=>cases h
theorem aaL {l:LS} {x:V} {ds:List V} {n:Nat} (h:eK l x=some ds) (hl:l≠ .sh) (aw:l.ok n=true):Ql x∧LS.below n x:=by
 cases l<;>cases x<;>simp only[eK] at h<;>first|(cases h;done)|(exact absurd rfl hl)|skip
 all_goals refine ⟨trivial,fun id aa=> ?_⟩
 all_goals simp only[ez,List.mem_singleton,List.not_mem_nil] at aa
 all_goals subst aa
 all_goals simp only[LS.ok,Nat.blt_eq] at aw
 all_goals
  have hb:=uw h
  simp only[Bool.and_eq_true,Nat.beq_eq] at hb
  omega
theorem ah.aaM {v:Value} {x:V} (h:ah P w I β hp v x) (hx:Ql x) (hs: ∀id∈ez x,hp' id=hp id∧ao id=β id):ah P w I ao hp' v x:=by
 have one: ∀{id},id∈ez x→hp' id=hp id∧ao id=β id:=fun h=>hs _ h
 cases h with
 | undef=>exact .undef
 | int=>exact .int
 | bool=>exact .bool
 | str h=>exact .str h
 | list h=>exact .list h
 | nilS=>exact .nilS
 | agg=>exact hx.elim
 | a8=>exact hx.elim
 | dw=>exact .dw
 | fn=>exact hx.elim
 | pref=>exact hx.elim
 | ej h=>exact .ej ((one (by simp[ez])).1.trans h)
 | gm h=>exact .gm ((one (by simp[ez])).1.trans h)
 | j4 h=>exact .j4 ((one (by simp[ez])).1.trans h)
 | dP h hb=>exact .dP ((one (by simp[ez])).1.trans h) ((one (by simp[ez])).2.trans hb)
 | whole h hb a b c=>exact .whole ((one (by simp[ez])).1.trans h) ((one (by simp[ez])).2.trans hb) a b c
 | eB h hb a b c=>exact .eB ((one (by simp[ez])).1.trans h) ((one (by simp[ez])).2.trans hb) a b c
 | fY h hb=>exact .fY ((one (by simp[ez])).1.trans h) ((one (by simp[ez])).2.trans hb)
 | sub h hb a b c=>exact .sub ((one (by simp[ez])).1.trans h) ((one (by simp[ez])).2.trans hb) a b c
 | ptr h hd hb=>exact .ptr ((one (by simp[ez])).1.trans h) hd ((one (by simp[ez])).2.trans hb)
 | jw h qC=>exact .jw ((one (by simp[ez])).1.trans h) qC
 | jx h qC=>exact .jx ((one (by simp[ez])).1.trans h) qC
 | row h hb a b c d=>exact .row ((one (by simp[ez])).1.trans h) ((one (by simp[ez])).2.trans hb) a b c d
 | cE h hb a b c d e=>exact .cE ((one (by simp[ez])).1.trans h) ((one (by simp[ez])).2.trans hb) a b c d e
 | dm=>exact .dm
 | ib h=>exact .ib ((one (by simp[ez])).1.trans h)
 | bL h hb=>exact .bL ((one (by simp[ez])).1.trans h) ((one (by simp[ez])).2.trans hb)
theorem nv {a b:List V} {n:Nat} (h:a.length=n):(a++b).drop n=b:=by subst h;simp
def zV (n:Nat) (β:Nat→Option Nat) (hp:Nat→Option ag) (ao:Nat→Option Nat) (hp':Nat→Option ag):Prop:= ∀id,id<n→hp' id=hp id∧ao id=β id
theorem Qm {l:LS} {x:V} {ds:List V} {n:Nat} {v:Value} (h:eK l x=some ds) (aw:l.ok n=true) (iK:zV n β hp ao hp') (hv:ah P w I β hp v x) (rest:List V):
  ah P w I ao hp' v (iB l (ds++rest)):=by
 rcases (Ev h).2 with e|e
 ·subst e;exact .undef
 ·rw[e rest]
  by_cases hu:l= .sh
  ·subst hu
   have:x= .undef:=(e rest).symm
   subst this
   exact .undef
  ·obtain ⟨h1,h2⟩:=aaL h hu aw
   exact hv.aaM h1 fun id aa=>iK id (h2 id aa)
theorem zW {n:Nat} (iK:zV n β hp ao hp'): ∀{ls:List LS} {xs:List V} {ds:List V},o7 ls xs=some ds→ls.all (LS.ok n)=true→
  ds.length=jW ls∧(∀rest,(gZ ls (ds++rest)).length=xs.length)∧
  ∀(rest:List V) (j:Nat) (v:Value) (y:V),(∀x,xs[j]? =some x→ah P w I β hp v x)→(gZ ls (ds++rest))[j]? =some y→ah P w I ao hp' v y
 | [],[],ds,h,_=>by cases h;exact ⟨rfl,fun _=>rfl,fun rest j v y _ hy=>by simp[gZ] at hy⟩
 | [],_::_,ds,h,_=>by cases h
 | _::_,[],ds,h,_=>by cases h
 | l::ls,x::xs,ds,h,aw=>by
  simp only[o7] at h
  obtain ⟨a,h1,h⟩:=bind_some h
  obtain ⟨b,h2,h⟩:=bind_some h
  cases h
  simp only[List.all_cons,Bool.and_eq_true] at aw
  obtain ⟨i1,i2,i3⟩:=zW iK h2 aw.2
  have cg:=(Ev h1).1
  have hd: ∀rest,(a++b++rest).drop l.size=b++rest:=fun rest=>by rw[List.append_assoc];exact nv cg
  refine ⟨by simp only[List.length_append,jW];omega,fun rest=>by simp only[gZ,List.length_cons,hd,i2],fun rest j v y hv hy=> ?_⟩
  simp only[gZ,hd] at hy
  cases j with
  | zero=>
   simp at hy
   subst hy
   exact Qm h1 aw.1 iK (hv x rfl) _
  | succ j=>exact i3 rest j v y (fun x hx=>hv x (by simpa using hx)) (by simpa using hy)
theorem JI: ∀{ls:List LS} {xs:List V} {ds:List V},o7 ls xs=some ds→ls.all LS.plain=true→ds.length=jW ls∧∀rest,gZ ls (ds++rest)=xs
 | [],[],ds,h,_=>by cases h;exact ⟨rfl,fun _=>rfl⟩
 | [],_::_,ds,h,_=>by cases h
 | _::_,[],ds,h,_=>by cases h
 | l::ls,x::xs,ds,h,aw=>by
  simp only[o7] at h
  obtain ⟨a,h1,h⟩:=bind_some h
  obtain ⟨b,h2,h⟩:=bind_some h
  cases h
  simp only[List.all_cons,Bool.and_eq_true] at aw
  obtain ⟨i1,i2⟩:=JI h2 aw.2
  obtain ⟨cg,hm⟩:=Ev h1
  refine ⟨by simp only[List.length_append,jW];omega,fun rest=> ?_⟩
  simp only[gZ]
  rw[show (a++b++rest).drop l.size=b++rest by rw[List.append_assoc];exact nv cg,i2,List.append_assoc]
  rcases hm with e|e
  ·subst e;cases aw.1
  ·rw[e]
theorem JJ {n:Nat} (iK:zV n β hp ao hp') {s:VS} {x:V} {ds:List V} (h:o8 s x=some ds) (aw:s.ok n=true):
  ds.length=s.size∧∀(rest:List V) (v:Value),ah P w I β hp v x→ah P w I ao hp' v (kD s (ds++rest)):=by
 cases s with
 | one l=>exact ⟨(Ev h).1,fun rest v hv=>Qm h aw iK hv rest⟩
 | agg ls=>
  cases x<;>simp only[o8] at h<;>first|(cases h;done)|skip
  rename_i xs
  obtain ⟨i1,i2,i3⟩:=zW (P:=P) (w:=w) (I:=I) iK h aw
  refine ⟨i1,fun rest v hv=> ?_⟩
  obtain ⟨cs,rfl,e1,e2⟩:=hv.kH
  exact .agg (by rw[i2];exact e1) fun j v y hj hy=>i3 rest j v y (fun x hx=>e2 j v x hj hx) hy
 | a8 ls=>
  cases x<;>simp only[o8] at h<;>first|(cases h;done)|skip
  rename_i xs
  obtain ⟨i1,i2,i3⟩:=zW (P:=P) (w:=w) (I:=I) iK h aw
  refine ⟨i1,fun rest v hv=> ?_⟩
  obtain ⟨cs,rfl,e1,e2⟩:=hv.ub
  exact .a8 (by rw[i2];exact e1) fun j v y hj hy=>i3 rest j v y (fun x hx=>e2 j v x hj hx) hy
 | fn f a b=>
  cases x<;>simp only[o8] at h<;>first|(cases h;done)|skip
  rename_i f' xs ys
  cases hb:Nat.beq f f' with
  | false=>rw[hb] at h;cases h
  | true=>
   rw[hb] at h
   rw[Nat.beq_eq] at hb
   subst hb
   simp only[cond_true] at h
   obtain ⟨p,h1,h⟩:=bind_some h
   obtain ⟨q,h2,h⟩:=bind_some h
   cases h
   simp only[VS.ok,Bool.and_eq_true] at aw
   obtain ⟨i1,i2,i3⟩:=zW (P:=P) (w:=w) (I:=I) iK h1 aw.1
   obtain ⟨j1,j2,j3⟩:=zW (P:=P) (w:=w) (I:=I) iK h2 aw.2
   refine ⟨by simp only[List.length_append,VS.size];omega,fun rest v hv=> ?_⟩
   cases hv with
   | fn a1 a2 b1 b2=>
    simp only[kD]
    rw[show (p++q++rest).drop (jW a)=q++rest by rw[List.append_assoc];exact nv i1,List.append_assoc]
    exact .fn (by rw[i2];exact a1) (fun j v y hj hy=>i3 _ j v y (fun x hx=>a2 j v x hj hx) hy) (by rw[j2];exact b1) (fun j v y hj hy=>j3 _ j v y (fun x hx=>b2 j v x hj hx) hy)
 | pref ts ls=>
  cases x<;>simp only[o8] at h<;>first|(cases h;done)|skip
  rename_i wi xs
  cases hb:eK.od ts wi with
  | false=>rw[hb] at h;cases h
  | true=>
   rw[hb] at h
   have:=wY hb
   subst this
   simp only[cond_true] at h
   refine ⟨?_,fun rest v hv=> ?_⟩
   ·exact (JI h aw).1
   ·simp only[kD]
    rw[(JI h aw).2]
    cases hv with
    | pref hl hI hc=>exact .pref hl hI hc
theorem zX {n:Nat} (iK:zV n β hp ao hp'): ∀{ls:List VS} {xs:List V} {ds:List V},sg ls xs=some ds→ls.all (VS.ok n)=true→
  ds.length=sw ls∧(∀rest,(fI ls (ds++rest)).length=xs.length)∧
  ∀(rest:List V) (j:Nat) (v:Value) (y:V),(∀x,xs[j]? =some x→ah P w I β hp v x)→(fI ls (ds++rest))[j]? =some y→ah P w I ao hp' v y
 | [],[],ds,h,_=>by cases h;exact ⟨rfl,fun _=>rfl,fun rest j v y _ hy=>by simp[fI] at hy⟩
 | [],_::_,ds,h,_=>by cases h
 | _::_,[],ds,h,_=>by cases h
 | l::ls,x::xs,ds,h,aw=>by
  simp only[sg] at h
  obtain ⟨a,h1,h⟩:=bind_some h
  obtain ⟨b,h2,h⟩:=bind_some h
  cases h
  simp only[List.all_cons,Bool.and_eq_true] at aw
  obtain ⟨i1,i2,i3⟩:=zX iK h2 aw.2
  obtain ⟨cg,wS⟩:=JJ (P:=P) (w:=w) (I:=I) iK h1 aw.1
  have hd: ∀rest,(a++b++rest).drop l.size=b++rest:=fun rest=>by rw[List.append_assoc];exact nv cg
  refine ⟨by simp only[List.length_append,sw];omega,fun rest=>by simp only[fI,List.length_cons,hd,i2],fun rest j v y hv hy=> ?_⟩
  simp only[fI,hd] at hy
  cases j with
  | zero=>
   simp at hy
   subst hy
   exact wS _ v (hv x rfl)
  | succ j=>exact i3 rest j v y (fun x hx=>hv x (by simpa using hx)) (by simpa using hy)
end
section
variable {P:Program} {A:cF} {w w':World} {I I' I2:Nat→Prop} {μ β ao:Nat→Option Nat} {hp hp' hp0:Nat→Option ag} {C:ae} {B:Nat} {M:Nat→Prop} {w0:Start}
theorem gR: ∀{l:List ag} {j:Nat},jv l j=l[j]?
 | [],j=>by simp[jv]
 | b::l,0=>rfl
 | b::l,j+1=>by simp only[jv,gR,List.getElem?_cons_succ]
theorem JK {sl:Nat→V} {k:Nat} {y:V}: ∀{l:List (Nat × VS)} {ds:List V},y7 sl l=some ds→(∀p∈l,∀d,o8 p.2 (sl p.1)=some d→d.length=p.2.size)→
  ds.length=oe l∧∀rest,dO (fu l (ds++rest)) k=some y→∃s d gu,(k,s)∈l∧o8 s (sl k)=some d∧y=kD s (d++gu)
 | [],ds,h,_=>by cases h;exact ⟨rfl,fun rest h=>by cases h⟩
 | (q,s)::l,ds,h,hz=>by
  simp only[y7] at h
  obtain ⟨a,h1,h⟩:=bind_some h
  obtain ⟨b,h2,h⟩:=bind_some h
  cases h
  obtain ⟨i1,i2⟩:=JK (k:=k) (y:=y) h2 fun p hp=>hz p (List.mem_cons_of_mem _ hp)
  have cg:=hz (q,s) (List.mem_cons_self ..) a h1
  refine ⟨by simp only[List.length_append,oe];simp only at cg;omega,fun rest hl=> ?_⟩
  simp only[fu,dO] at hl
  rw[show (a++b++rest).drop s.size=b++rest by rw[List.append_assoc];exact nv cg] at hl
  cases hb:Nat.beq k q with
  | true=>
   rw[hb] at hl
   rw[Nat.beq_eq] at hb
   subst hb
   cases hl
   exact ⟨s,a,b++rest,List.mem_cons_self ..,h1,by rw[List.append_assoc]⟩
  | false=>
   rw[hb] at hl
   obtain ⟨s',d,gu,m1,m2,m3⟩:=i2 rest hl
   exact ⟨s',d,gu,List.mem_cons_of_mem _ m1,m2,m3⟩
theorem JL {α:Type} {c:Bool} {x:Option α} {a:α} (h:(bif c then x else none)=some a):c=true∧x=some a:=by
 cases c with
 | true=>exact ⟨rfl,h⟩
 | false=>cases h
theorem aaN {n:Nat} {b:BS} {o:Option ag} {ds:List V} (h:kC b o=some ds) (aw:b.ok n=true):ds.length=b.size:=by
 cases b with
 | dead=>cases o<;>(cases h;rfl)
 | var T0 ls=>
  cases o with
  | none=>cases h
  | some blk=>
   cases blk<;>simp only[kC] at h<;>first|(cases h;done)|skip
   exact (zX (P:=default) (w:=default) (I:=fun _=>False) (β:=fun _=>none) (hp:=fun _=>none) (fun _ _=>⟨rfl,rfl⟩) (JL h).2 aw).1
 | arr e fz=>
  cases o with
  | none=>cases h
  | some blk=>
   cases blk<;>simp only[kC] at h<;>first|(cases h;done)|skip
   rw[uw h] at h
   cases h
   rfl
 | nest e=>
  cases o with
  | none=>cases h
  | some blk=>
   cases blk<;>simp only[kC] at h<;>first|(cases h;done)|skip
   rw[uw h] at h
   cases h
   rfl
 | map t=>
  cases o with
  | none=>cases h
  | some blk=>
   cases blk<;>simp only[kC] at h<;>first|(cases h;done)|skip
   rw[uw h] at h
   cases h
   rfl
theorem Qn {n:Nat}: ∀{l:List BS} {j:Nat} {ds:List V},y8 hp j l=some ds→l.all (BS.ok n)=true→
  (∀rest,(eR l (ds++rest)).length=l.length)∧∀(rest:List V) (i:Nat) (blk:ag),(eR l (ds++rest))[i]? =some blk→∃b d gu,l[i]? =some b∧b.ok n=true∧kC b (hp (j+i))=some d∧blk=fU b (d++gu)
 | [],j,ds,h,_=>by cases h;exact ⟨fun _=>rfl,fun rest i blk hb=>by simp[eR] at hb⟩
 | b::l,j,ds,h,aw=>by
  simp only[y8] at h
  obtain ⟨a,h1,h⟩:=bind_some h
  obtain ⟨c,h2,h⟩:=bind_some h
  cases h
  simp only[List.all_cons,Bool.and_eq_true] at aw
  obtain ⟨i1,i2⟩:=Qn h2 aw.2
  have cg:=aaN h1 aw.1
  have hd: ∀rest,(a++c++rest).drop b.size=c++rest:=fun rest=>by rw[List.append_assoc];exact nv cg
  refine ⟨fun rest=>by simp only[eR,List.length_cons,hd,i1],fun rest i blk hb=> ?_⟩
  simp only[eR,hd] at hb
  cases i with
  | zero=>
   simp at hb
   exact ⟨b,a,c++rest,rfl,aw.1,h1,by rw[←hb]⟩
  | succ i=>
   obtain ⟨b',d,gu,m1,m2,m3,m4⟩:=i2 rest i blk (by simpa using hb)
   exact ⟨b',d,gu,by simpa using m1,m2,by rw[show j+(i+1)=j+1+i by omega];exact m3,m4⟩
theorem aaO {n:Nat} {b:BS} {blk:ag} {ds rest:List V} (h:kC b (some blk)=some ds) (aw:b.ok n=true):
  blk.le (fU b (ds++rest))∧(fU b (ds++rest)= .dead∨fU b (ds++rest)=blk∨∃T ls cs,b= .var T ls∧blk= .var T cs∧sg ls cs=some ds∧fU b (ds++rest)= .var T (fI ls (ds++rest))):=by
 cases b with
 | dead=>exact ⟨by cases blk<;>trivial,.inl rfl⟩
 | var T0 ls=>
  cases blk<;>simp only[kC] at h<;>first|(cases h;done)|skip
  obtain ⟨hT,h0⟩:=JL h
  clear h
  rw[Nat.beq_eq] at hT
  subst hT
  exact ⟨rfl,.inr (.inr ⟨_,_,_,rfl,rfl,h0,rfl⟩)⟩
 | arr e fz=>
  cases blk<;>simp only[kC] at h<;>first|(cases h;done)|skip
  rename_i e' es nc
  have hb:=uw h
  simp only[Bool.and_eq_true,Nat.beq_eq,beq_iff_eq] at hb
  obtain ⟨rfl,rfl⟩:=hb
  simp only[Nat.beq_refl,beq_self_eq_true,Bool.and_self,cond_true,Option.some.injEq] at h
  subst h
  exact ⟨⟨rfl,rfl⟩,.inr (.inl rfl)⟩
 | nest e=>
  cases blk<;>simp only[kC] at h<;>first|(cases h;done)|skip
  rename_i e' es ai
  have hb:=uw h
  simp only[Bool.and_eq_true,Nat.beq_eq] at hb
  obtain ⟨rfl,hv⟩:=hb
  have:=wY hv
  subst this
  simp only[Nat.beq_refl,Bool.true_and] at h
  cases h
  exact ⟨⟨rfl,rfl,rfl,fun _=>Nat.le_refl _⟩,.inr (.inl rfl)⟩
 | map t=>
  cases blk<;>simp only[kC] at h<;>first|(cases h;done)|skip
  rename_i t' es
  have hb:=uw h
  rw[Nat.beq_eq] at hb
  subst hb
  simp only[Nat.beq_refl,cond_true,Option.some.injEq] at h
  subst h
  exact ⟨rfl,.inr (.inl rfl)⟩
theorem Qo {m:Nat} {S:Shape} {st:St} {ds:List V} (h:iC m S st=some ds):
  S.ok=true∧m≤S.aX.length∧∃a b,y7 st.sl S.bG=some a∧y8 st.hp 0 S.aX=some b∧ds=a++b:=by
 unfold iC at h
 cases hc:(S.ok&&Nat.ble m S.aX.length) with
 | false=>rw[hc] at h;cases h
 | true=>
  rw[hc] at h
  simp only[cond_true] at h
  simp only[Bool.and_eq_true,Nat.ble_eq] at hc
  obtain ⟨a,h1,h⟩:=bind_some h
  obtain ⟨b,h2,h⟩:=bind_some h
  cases h
  exact ⟨hc.1,hc.2,a,b,h1,h2,rfl⟩
theorem reshape {m:Nat} {S:Shape} {st:St} {ds:List V} (h:iC m S st=some ds) (hS:aC P w I β st.hp B M w0):
  aC P w I β (bd S ds).hp B M w0∧(∀(k:Nat) (v:Value),ah P w I β st.hp v (st.sl k)→ah P w I β (bd S ds).hp v ((bd S ds).sl k))∧
  (∀(μ:Nat→Option Nat) (hp0:Nat→Option ag),(∀id blk,hp0 id=some blk→id<m)→Le P w0.w w0.I μ hp0 w I β st.hp→Le P w0.w w0.I μ hp0 w I β (bd S ds).hp)∧
  ∀j blk',(bd S ds).hp j=some blk'→blk'≠ .dead→∃blk,st.hp j=some blk∧blk.le blk'∧∀o b,bt P w o blk' b→bt P w o blk b:=by
 obtain ⟨aw,hm,a,b,h1,h2,rfl⟩:=Qo h
 unfold Shape.ok at aw
 rw[Bool.and_eq_true] at aw
 obtain ⟨Qp,Js⟩:=aw
 have aU: ∀p∈S.bG,∀d,o8 p.2 (st.sl p.1)=some d→d.length=p.2.size:=fun p hp d hd=>
  (JJ (P:=P) (w:=w) (I:=I) (β:=β) (hp:=st.hp) (fun _ _=>⟨rfl,rfl⟩) hd (List.all_eq_true.1 Qp p hp)).1
 have cg:a.length=oe S.bG:=(JK (k:=0) (y:= .undef) h1 aU).1
 have Ek:(bd S (a++b)).hp=jv (eR S.aX (b++[])):=by
  simp only[bd,mk,List.append_nil]
  rw[nv cg]
 obtain ⟨bl,bg⟩:=Qn h2 Js
 have get: ∀j blk',(bd S (a++b)).hp j=some blk'→j<S.aX.length∧∃bs d gu,bs.ok S.aX.length=true∧kC bs (st.hp j)=some d∧blk'=fU bs (d++gu):=by
  intro j blk' hj
  rw[Ek,gR] at hj
  obtain ⟨bs,d,gu,m1,m2,m3,m4⟩:=bg [] j blk' hj
  rw[Nat.zero_add] at m3
  exact ⟨(List.getElem?_eq_some_iff.1 m1).1,bs,d,gu,m2,m3,m4⟩
 have have': ∀j,j<S.aX.length→∃blk',(bd S (a++b)).hp j=some blk':=by
  intro j hj
  rw[Ek,gR]
  exact ⟨_,List.getElem?_eq_getElem (by rw[bl];exact hj)⟩
 generalize gN:(bd S (a++b)).hp=ux at*
 let bn:Nat→Option ag:=fun id=>if id<S.aX.length then ux id else st.hp id
 have back: ∀j blk',ux j=some blk'→blk'≠ .dead→∃blk,st.hp j=some blk∧blk.le blk'∧(blk'=blk∨∃T ls cs d gu,ls.all (VS.ok S.aX.length)=true∧blk= .var T cs∧sg ls cs=some d∧blk'= .var T (fI ls (d++gu))):=by
  intro j blk' hj hd
  obtain ⟨cZ,bs,d,gu,m1,m2,m3⟩:=get j blk' hj
  cases bP:st.hp j with
  | none=>
   rw[bP] at m2
   cases bs<;>simp only[kC] at m2<;>first|(cases m2;done)|skip
   exact absurd m3 hd
  | some blk=>
   rw[bP] at m2
   obtain ⟨n1,n2⟩:=aaO (rest:=gu) m2 m1
   rw[←m3] at n1 n2
   refine ⟨blk,rfl,n1,?_⟩
   rcases n2 with e|e|⟨T,ls,cs,e1,e2,e3,e4⟩
   ·exact absurd e hd
   ·exact .inl e
   ·subst e1
    exact .inr ⟨T,ls,cs,d,gu,m1,e2,e3,e4⟩
 have le1: ∀j blk,st.hp j=some blk→j<S.aX.length→∃blk',ux j=some blk'∧blk.le blk':=by
  intro j blk hj cZ
  obtain ⟨blk',ay⟩:=have' j cZ
  refine ⟨blk',ay,?_⟩
  by_cases hd:blk'= .dead
  ·subst hd;cases blk<;>trivial
  ·obtain ⟨b7,e1,e2,_⟩:=back j blk' ay hd
   rw[hj] at e1;cases e1
   exact e2
 have aaP: ∀j e es ai e' aH vers',st.hp j=some (.nest e es ai)→ux j=some (.nest e' aH vers')→e'=e∧aH=es∧vers'=ai:=by
  intro j e es ai e' aH vers' hj gA
  obtain ⟨blk,e1,_,e3⟩:=back j _ gA (by simp)
  rw[hj] at e1;cases e1
  rcases e3 with e3|⟨_,_,_,_,_,_,e3,_⟩
  ·cases e3;exact ⟨rfl,rfl,rfl⟩
  ·cases e3
 have hle:Le P w I β st.hp w I β bn:=by
  refine ⟨fun _ h=>h,fun _ _=>rfl,fun id blk aa=> ?_,fun _ _ _ _ _ _ _ _=>rfl,Le.sD (fun _ _ _ _ _ _=>rfl) fun id e es ai e' aH vers' aa bB=> ?_⟩
  ·by_cases hl:id<S.aX.length
   ·obtain ⟨blk',e1,e2⟩:=le1 id blk aa hl
    exact ⟨blk',by simp only[bn,if_pos hl];exact e1,e2,fun _=>rfl⟩
   ·exact ⟨blk,by simp only[bn,if_neg hl];exact aa,ag.le_refl _,fun _=>rfl⟩
  ·by_cases hl:id<S.aX.length
   ·simp only[bn,if_pos hl] at bB
    exact aaP _ _ _ _ _ _ _ aa bB
   ·simp only[bn,if_neg hl] at bB
    rw[aa] at bB;cases bB
    exact ⟨rfl,rfl,rfl⟩
 have iK:zV S.aX.length β bn β ux:=fun id aa=>⟨by simp only[bn,if_pos aa],rfl⟩
 have wK: ∀j blk' blk o b,ux j=some blk'→st.hp j=some blk→bt P w o blk' b→bt P w o blk b:=by
  intro j blk' blk o b gA hj ho
  obtain ⟨b7,e1,_,e3⟩:=back j blk' gA ho.alive
  rw[hj] at e1;cases e1
  rcases e3 with e3|⟨T,ls,cs,d,gu,_,e3,_,e5⟩
  ·subst e3;exact ho
  ·subst e3;subst e5
   exact .root (by simp) (ho.flat (by simp))
 refine ⟨⟨⟨fun j blk' hj=> ?_,fun j1 j2 b1 b2 b' e1 e2 o1 o2=> ?_,fun j blk b' hj ho=> ?_,hS.h.jy⟩,hS.cf,hS.size,hS.new,hS.io⟩,fun k v hv=> ?_,fun μ hp0 aM hE=> ?_,fun j blk' hj hd=> ?_⟩
 ·by_cases hd:blk'= .dead
  ·subst hd;exact .dead
  ·obtain ⟨blk,e1,_,e3⟩:=back j blk' hj hd
   have hr:=hS.h.rel j blk e1
   generalize β j=o at hr
   rcases e3 with e3|⟨T0,ls,cs,d,gu,q1,e3,e4,e5⟩
   ·subst e3
    cases hr with
    | @var xs b' Ca T hb hh hs cS hx gp=>
     obtain ⟨cZ,bs,d,gu,m1,m2,m3⟩:=get j _ hj
     rw[e1] at m2
     cases bs<;>simp only[kC] at m2<;>first|(cases m2;done)|skip
     ·rename_i T0 ls
      simp only[fU] at m3
      obtain ⟨hT,m2⟩:=JL m2
      obtain ⟨i1,i2,i3⟩:=zX (P:=P) (w:=w) (I:=I) iK m2 m1
      injection m3 with m4 m3
      rw[m3]
      exact .var hb hh (by rw[i2];exact hs) cS (fun i v y hi hy=>i3 gu i v y (fun x cz=>(hx i v x hi cz).mono hle) hy) gp
     ·simp only[fU] at m3
      cases m3
    | dQ hb=>exact .dQ hb
    | arr a1 a2 a3 a4 a5 a6 a7=>exact .arr a1 a2 a3 a4 a5 a6 a7
    | dead=>exact absurd rfl hd
    | nest a1 a2 a3=>exact .nest a1 a2 a3
    | map a1 a2 a3 a4 a5 a6 a7=>exact .map a1 a2 a3 a4 a5 a6 a7
   ·subst e3
    subst e5
    cases hr with
    | @var xs b' Ca T hb hh hs cS hx gp=>
     obtain ⟨i1,i2,i3⟩:=zX (P:=P) (w:=w) (I:=I) iK e4 q1
     exact .var hb hh (by rw[i2];exact hs) cS (fun i v y hi hy=>i3 gu i v y (fun x cz=>(hx i v x hi cz).mono hle) hy) gp
 ·obtain ⟨c1,x1,_,_⟩:=back j1 b1 e1 o1.alive
  obtain ⟨c2,x2,_,_⟩:=back j2 b2 e2 o2.alive
  exact hS.h.inj j1 j2 c1 c2 b' x1 x2 (wK _ _ _ _ _ e1 x1 o1) (wK _ _ _ _ _ e2 x2 o2)
 ·obtain ⟨c1,x1,_,_⟩:=back j blk hj ho.alive
  exact hS.h.own j c1 b' x1 (wK _ _ _ _ _ hj x1 ho)
 ·change ah P w I β ux v (jc (fu S.bG (a++b)) k)
  unfold jc
  cases JM:dO (fu S.bG (a++b)) k with
  | none=>exact .undef
  | some y=>
   obtain ⟨s,d,gu,n1,n2,n3⟩:=(JK h1 aU).2 b JM
   simp only[Option.getD_some,n3]
   exact (JJ (P:=P) (w:=w) (I:=I) iK n2 (List.all_eq_true.1 Qp _ n1)).2 gu v (hv.mono hle)
 ·have h3:=hE.trans hle
  refine ⟨h3.dp,h3.cf,fun id blk aa=> ?_,fun id blk blk' b' aa bB hd hb=> ?_,fun id e es ai e' aH vers' b2 q i c t v e1 l aa bB=> ?_⟩
  ·have hl:=aM id blk aa
   obtain ⟨blk',k1,k2,k3⟩:=h3.blk id blk aa
   simp only[bn,if_pos (show id<S.aX.length by omega)] at k1
   exact ⟨blk',k1,k2,k3⟩
  ·have hl:=aM id blk aa
   exact h3.size id blk blk' b' aa (by simp only[bn,if_pos (show id<S.aX.length by omega)];exact bB) hd hb
  ·have hl:=aM id _ aa
   exact h3.row id e es ai e' aH vers' b2 q i c t v e1 l aa (by simp only[bn,if_pos (show id<S.aX.length by omega)];exact bB)
 ·obtain ⟨blk,e1,e2,_⟩:=back j blk' hj hd
  exact ⟨blk,e1,e2,fun o b' ho=>wK _ _ _ _ _ hj e1 ho⟩
end
section
variable {P:Program} {A:cF} {w w':World} {I I' I2:Nat→Prop} {μ β ao:Nat→Option Nat} {hp hp' hp0:Nat→Option ag} {C:ae} {B:Nat} {M:Nat→Prop} {w0:Start}
inductive eb (P:Program) (w:World) (β:Nat→Option Nat) (hp:Nat→Option ag):Place→Option Nat→ag→Prop
 | var {id:Nat} {T:TypeId} {cs JN:List V}:hp id=some (.var T cs)→eb P w β hp (.blk id) (β id) (.var T JN)
 | arr {id:Nat} {e:TypeId} {es:List V}:hp id=some (.arr e es false)→eb P w β hp (.blk id) (β id) (.arr e es false)
 | nest {id:Nat} {e:TypeId} {es:List V} {ai:List Nat}:hp id=some (.nest e es ai)→eb P w β hp (.blk id) (β id) (.nest e es [0,0,0])
 | row {id ver b b':Nat} {path:Path} {e0 e':TypeId} {es l:List V} {ai:List Nat}:hp id=some (.nest e0 es ai)→β id=some b→At P w b e0 es path b' e' l→y6 P e'=true→
   0<path.length→path.length≤ai.length→bA ai (path.length-1)=ver→0<l.length→eb P w β hp (.row id ver path) (some b') (.arr e' l false)
 | map {id:Nat} {t:TypeId} {es:List V}:hp id=some (.map t es)→eb P w β hp (.blk id) (β id) (.map t es)
def zY (P:Program) (w:World) (β:Nat→Option Nat) (hp:Nat→Option ag) (ρ:List Place) (μ:Nat→Option Nat) (hp0:Nat→Option ag):Prop:=
 ∀j p,ei ρ j=some p→∃blk,hp0 j=some blk∧eb P w β hp p (μ j) blk
theorem oA: ∀{l m:List Place} {j:Nat} {p:Place},ei l j=some p→ei (l++m) j=some p
 | [],m,j,p,h=>by cases h
 | a::l,m,0,p,h=>h
 | a::l,m,j+1,p,h=>oA (l:=l) h
theorem ly: ∀{l:List Place} {j:Nat},ei l j=l[j]?
 | [],j=>by simp[ei]
 | a::l,0=>rfl
 | a::l,j+1=>by simp only[ei,ly,List.getElem?_cons_succ]
structure Ext (P:Program) (w:World) (I:Nat→Prop) (β:Nat→Option Nat) (hp:Nat→Option ag) (h h':Hand) (d:List V) (u:List (Nat × ag)):Prop where
 ds:h'.ds=h.ds++d
 upd:h'.upd=h.upd++u
 Ew: ∀q∈u,zq hp q
 pl: ∃m,h'.pl=h.pl++m
 nodup:(h.pl.map Place.id).Nodup→(h'.pl.map Place.id).Nodup
theorem Ext.refl (h:Hand):Ext P w I β hp h h [] []:=⟨by simp,by simp,by simp,⟨[],by simp⟩,id⟩
theorem Ext.trans {h1 h2 h3:Hand} {d1 d2:List V} {u1 u2:List (Nat × ag)} (a:Ext P w I β hp h1 h2 d1 u1) (b:Ext P w I β hp h2 h3 d2 u2):Ext P w I β hp h1 h3 (d1++d2) (u1++u2):=by
 obtain ⟨m1,e1⟩:=a.pl
 obtain ⟨m2,e2⟩:=b.pl
 exact ⟨by rw[b.ds,a.ds,List.append_assoc],by rw[b.upd,a.upd,List.append_assoc],fun q hq=>(List.mem_append.1 hq).elim (a.Ew q) (b.Ew q),⟨m1++m2,by rw[e2,e1,List.append_assoc]⟩,fun h=>b.nodup (a.nodup h)⟩
theorem Ext.look {h h':Hand} {d:List V} {u:List (Nat × ag)} (a:Ext P w I β hp h h' d u) {j:Nat} {p:Place} (hj:ei h.pl j=some p):ei h'.pl j=some p:=by
 obtain ⟨m,e⟩:=a.pl
 rw[e]
 exact oA hj
theorem Ext.leaf (h:Hand) (x:V):Ext P w I β hp h {h with ds:=h.ds++[x]} [x] []:=⟨rfl,by simp,by simp,⟨[],by simp⟩,id⟩
theorem aaQ {α:Type} {ρ:List Place} {j:Nat} {p:Place} {k:List Place→Rd α} {r:α} {rd:List Nat} (h:(unify ρ j p k).run C hp=some (r,rd)) (hb: ∃id,p= .blk id∨∃ver path,p= .row id ver path):
  ∃jF,(k jF).run C hp=some (r,rd)∧(∃m,jF=ρ++m)∧ei jF j=some p∧((ρ.map Place.id).Nodup→(jF.map Place.id).Nodup):=by
 unfold unify at h
 cases hc:Nat.blt j ρ.length with
 | true=>
  rw[hc] at h
  obtain ⟨h1,h2⟩:=aD h
  refine ⟨ρ,h2,⟨[],by simp⟩,?_,id⟩
  unfold OT at h1
  split at h1
  ·rename_i a b he
   rw[Nat.beq_eq] at h1
   subst h1
   exact he
  ·cases h1
 | false=>
  rw[hc] at h
  obtain ⟨h1,h2⟩:=aD h
  simp only[Bool.and_eq_true,Nat.beq_eq,Bool.not_eq_true'] at h1
  obtain ⟨rfl,h3⟩:=h1
  refine ⟨ρ++[p],h2,⟨[p],rfl⟩,?_,fun hn=> ?_⟩
  ·rw[ly];simp
  ·rw[List.map_append,List.nodup_append]
   refine ⟨hn,by simp,fun a ha b hb=> ?_⟩
   simp only[List.map_cons,List.map_nil,List.mem_singleton] at hb
   subst hb
   intro e
   subst e
   rw[wG ha] at h3
   cases h3
theorem uy {α:Type} {h:Hand} {j:Nat} {p:Place} {k:List Place→Rd α} {r:α} {rd:List Nat} (hr:(unify h.pl j p k).run C hp=some (r,rd)) (ds:List V):
  ∃jF,(k jF).run C hp=some (r,rd)∧ei jF j=some p∧Ext P w I β hp h {h with pl:=jF,ds:=h.ds++ds} ds []:=by
 obtain ⟨jF,a,b,c,d⟩:=aaQ hr (by cases p with|blk id=>exact ⟨id,.inl rfl⟩|row id ver path=>exact ⟨id,.inr ⟨ver,path,rfl⟩⟩)
 exact ⟨jF,a,c,⟨rfl,by simp,by simp,b,d⟩⟩
theorem aaR {o:Option Nat} {blk:ag} {e:TypeId} {id j:Nat} {v:Value} (hv:ah P w I β hp v (.whole e id)) (hl:eb P w β hp (.blk id) o blk) (hj:hp0 j=some blk) (jG:μ j=o):ah P w I' μ hp0 v (.whole e j):=by
 cases hl with
 | var h=>
  cases hv with
  | ej h2=>rw[h] at h2;cases h2
  | dP h2=>rw[h] at h2;cases h2
  | whole h2=>rw[h] at h2;cases h2
  | eB h2=>rw[h] at h2;cases h2
 | arr h=>
  cases hv with
  | ej h2=>rw[h] at h2;cases h2
  | dP h2 hb=>rw[h] at h2;cases h2;exact .dP hj (jG.trans hb)
  | whole h2 hb a b c=>rw[h] at h2;cases h2;exact .whole hj (jG.trans hb) a b c
  | eB h2=>rw[h] at h2;cases h2
 | nest h=>
  cases hv with
  | ej h2=>rw[h] at h2;cases h2
  | dP h2=>rw[h] at h2;cases h2
  | whole h2=>rw[h] at h2;cases h2
  | eB h2 hb a b c=>rw[h] at h2;cases h2;exact .eB hj (jG.trans hb) a b c
 | map h=>
  cases hv with
  | ej h2=>rw[h] at h2;cases h2
  | dP h2=>rw[h] at h2;cases h2
  | whole h2=>rw[h] at h2;cases h2
  | eB h2=>rw[h] at h2;cases h2
theorem aaS {o:Option Nat} {blk:ag} {t:TypeId} {id j:Nat} {v:Value} (hv:ah P w I β hp v (.bL t id)) (hl:eb P w β hp (.blk id) o blk) (hj:hp0 j=some blk) (jG:μ j=o):ah P w I' μ hp0 v (.bL t j):=by
 cases hv with
 | ib h2=>cases hl<;>(rename_i h;rw[h] at h2;cases h2)
 | bL h2 hb=>
  cases hl<;>(rename_i h;rw[h] at h2;cases h2)
  exact .bL hj (jG.trans hb)
theorem aaT {o:Option Nat} {blk:ag} {e:TypeId} {id off n j:Nat} {v:Value} (hv:ah P w I β hp v (.sub e id off n)) (hl:eb P w β hp (.blk id) o blk) (hj:hp0 j=some blk) (jG:μ j=o):ah P w I' μ hp0 v (.sub e j off n):=by
 cases hl with
 | var h=>
  cases hv with
  | gm h2=>rw[h] at h2;cases h2
  | fY h2=>rw[h] at h2;cases h2
  | sub h2=>rw[h] at h2;cases h2
 | arr h=>
  cases hv with
  | gm h2=>rw[h] at h2;cases h2
  | fY h2 hb=>rw[h] at h2;cases h2;exact .fY hj (jG.trans hb)
  | sub h2 hb a b c=>rw[h] at h2;cases h2;exact .sub hj (jG.trans hb) a b c
 | nest h=>
  cases hv with
  | gm h2=>rw[h] at h2;cases h2
  | fY h2=>rw[h] at h2;cases h2
  | sub h2=>rw[h] at h2;cases h2
 | map h=>
  cases hv with
  | gm h2=>rw[h] at h2;cases h2
  | fY h2=>rw[h] at h2;cases h2
  | sub h2=>rw[h] at h2;cases h2
theorem Qq {o:Option Nat} {blk:ag} {id i c j:Nat} {v:Value} (hv:ah P w I β hp v (.ptr id i c)) (hl:eb P w β hp (.blk id) o blk) (hj:hp0 j=some blk) (jG:μ j=o):ah P w I' μ hp0 v (.ptr j i c):=by
 cases hl with
 | @var _ T0 cs JN h=>
  obtain ⟨b,hb,rfl⟩:=hv.gP h (by simp)
  exact ah.ptr (blk:= .var T0 JN) hj (by simp) (jG.trans hb)
 | @arr _ e es h=>
  obtain ⟨b,hb,rfl⟩:=hv.gP h (by simp)
  exact ah.ptr (blk:= .arr e es false) hj (by simp) (jG.trans hb)
 | @nest _ e es ai h=>
  obtain ⟨b,hb,rfl⟩:=hv.gP h (by simp)
  exact ah.ptr (blk:= .nest e es [0,0,0]) hj (by simp) (jG.trans hb)
 | @map _ t es h=>
  obtain ⟨b,hb,rfl⟩:=hv.gP h (by simp)
  exact ah.ptr (blk:= .map t es) hj (by simp) (jG.trans hb)
theorem aaU (cG: ∀id blk,hp id=some blk→dY P w I β hp (β id) blk) {id b i c:Nat} {e0 t:TypeId} {es l:List V} {ai:List Nat} {q:Path} {e:TypeId} {v:Value} (aa:hp id=some (.nest e0 es ai)) (hb:β id=some b)
  (ht:P.underlying t=some (.slice e)) (hc:ml P w b e0 es q i c t v (.list e l)) (hl:0<l.length): ∃b1 cap,v= .slice (some ⟨b1,0,none⟩) l.length cap∧cap*P.cellsOf e=bsize w b1∧l.length≤cap∧cap≤maxLen∧At P w b e0 es (q++[(i,c)]) b1 e l:=by
 obtain ⟨b2,e1,m,Ca,T,f,x,n1,n2,n3,n4,n5,n6⟩:=hc
 have hr:=cG _ _ aa
 cases hr with
 | nest ay hr hn=>
  rw[hb] at ay;cases ay
  have hR:=hr _ _ _ _ n1
  obtain ⟨zw,c1,c2,c3⟩:=hR.cells
  rw[n2] at c1
  cases c1
  have ua:c<P.cellsOf e1:=by rw[←fL hR.ok];exact (List.getElem?_eq_some_iff.1 n4).1
  obtain ⟨v',d1,d2⟩:=c3 i c x t n3 n4 ua
  rw[n6] at d1
  cases d1
  rw[n5] at d2
  generalize hy:V.list e l=y at d2
  cases d2 with
  | fX a p=>unfold fT at a;rw[ht] at a;cases a
  | emp hu ha=>cases hy;simp at hl
  | row hu mo aU cd oo=>
   cases hy
   exact ⟨_,_,rfl,aU,cd,oo,n1.snoc n2 n3 n4 ht n5 mo n6⟩
theorem aaV (S:aC P w I β hp B M w0) {o:Option Nat} {blk:ag} {e:TypeId} {id ver j:Nat} {path:Path} {v:Value} (hv:ah P w I β hp v (.row e id ver path)) (hl:eb P w β hp (.row id ver path) o blk) (hj:hp0 j=some blk) (jG:μ j=o):ah P w I' μ hp0 v (.whole e j):=by
 cases hl with
 | row h hb ha hf h1 h2 h3 h4=>
  obtain ⟨b2,q,i,c,t,l2,rfl,iG,ht,hc⟩:=hv.O0 h h1 h2 h3
  rw[hb] at iG;cases iG
  obtain ⟨p1,p2⟩:=IM ha
  have jz:=hc
  obtain ⟨b3,e3,m3,Ca,T,f,x,n1,n2,n3,n4,n5,n6⟩:=jz
  obtain ⟨q1,q2⟩:=DQ n1 n3 n4 ht n5
  rw[p1] at q1
  rw[p2] at q2
  cases q1
  cases q2
  obtain ⟨b1,cap,rfl,m1,m2,m4,m5⟩:=aaU S.h.rel h hb ht hc h4
  have:=aaW ha m5
  subst this
  exact .whole hj jG m1 m2 m4
where
 aaW {b b1 b2:Nat} {e e1 e2:TypeId} {es l l2:List V} {q:Path} (h:At P w b e es q b1 e1 l) (h2:At P w b e es q b2 e2 l2):b2=b1:=(h.fun h2).1
theorem Qr (S:aC P w I β hp B M w0) {α:Type} {l:LS} {x:V} {h:Hand} {k:Hand→Rd α} {r:α} {rd:List Nat} {v:Value} (hr:(DE P l x h k).run C hp=some (r,rd)) (hv:ah P w I β hp v x):
  ∃h' fc d u,(k h').run C hp=some (r,fc)∧Ext P w I β hp h h' d u∧d.length=l.size∧
   ∀(I':Nat→Prop) (μ:Nat→Option Nat) (hp0:Nat→Option ag),(∀b,I b→I' b)→(∀q∈u,∀b,sE P w β hp q.1 b→I' b)→∀ρ m,ρ=h'.pl++m→zY P w β hp ρ μ hp0→∀rest,ah P w I' μ hp0 v (iB l (d++rest)):=by
 have plain: ∀{x':V} {ji:List Nat},(k {h with ds:=h.ds++[x']}).run C hp=some (r,ji)→l.size=1→(∀I' μ hp0 rest,ah P w I' μ hp0 v (iB l ([x']++rest)))→∃h' fc d u,(k h').run C hp=some (r,fc)∧Ext P w I β hp h h' d u∧d.length=l.size∧
   ∀(I':Nat→Prop) (μ:Nat→Option Nat) (hp0:Nat→Option ag),(∀b,I b→I' b)→(∀q∈u,∀b,sE P w β hp q.1 b→I' b)→∀ρ m,ρ=h'.pl++m→zY P w β hp ρ μ hp0→∀rest,ah P w I' μ hp0 v (iB l (d++rest)):=
  fun hk hs hx=>⟨_,_,_,_,hk,Ext.leaf h _,hs.symm,fun I' μ hp0 _ _ _ _ _ _ rest=>hx I' μ hp0 rest⟩
 have pt: ∀{ji:List Nat},(k h).run C hp=some (r,ji)→l.size=0→(∀I' μ hp0 rest,ah P w I' μ hp0 v (iB l rest))→∃h' fc d u,(k h').run C hp=some (r,fc)∧Ext P w I β hp h h' d u∧d.length=l.size∧
   ∀(I':Nat→Prop) (μ:Nat→Option Nat) (hp0:Nat→Option ag),(∀b,I b→I' b)→(∀q∈u,∀b,sE P w β hp q.1 b→I' b)→∀ρ m,ρ=h'.pl++m→zY P w β hp ρ μ hp0→∀rest,ah P w I' μ hp0 v (iB l (d++rest)):=
  fun hk hs hx=>⟨_,_,_,_,hk,Ext.refl h,by simp[hs],fun I' μ hp0 _ _ _ _ _ _ rest=>hx I' μ hp0 rest⟩
 unfold DE at hr
 cases l with
 | sh=>exact pt hr rfl fun _ _ _ _=> .undef
 | int kd=>
  cases x<;>simp only at hr<;>first|(cases hr;done)|skip
  obtain ⟨h1,h2⟩:=aD hr
  simp only[decide_eq_true_eq] at h1
  subst h1
  obtain rfl:=hv.eC
  exact plain h2 rfl fun _ _ _ _=> .int
 | bool=>
  cases x<;>simp only at hr<;>first|(cases hr;done)|skip
  obtain rfl:=hv.jB
  exact plain hr rfl fun _ _ _ _=> .bool
 | str=>
  cases x<;>simp only at hr<;>first|(cases hr;done)|skip
  obtain ⟨s,rfl,hl⟩:=hv.mr
  exact plain hr rfl fun _ _ _ _=> .str hl
 | nilS e=>
  cases x<;>simp only at hr<;>first|(cases hr;done)|skip
  obtain ⟨h1,h2⟩:=aD hr
  cases hv with
  | nilS=>exact pt h2 rfl fun _ _ _ _=> .nilS
 | dw=>
  cases x<;>simp only at hr<;>first|(cases hr;done)|skip
  cases hv with
  | dw=>exact pt hr rfl fun _ _ _ _=> .dw
 | row e j cs=>
  cases x<;>simp only at hr<;>first|(cases hr;done)|skip
  rename_i e' id ver path
  obtain ⟨e0,es,ai,l0,aa,p1,p2,p3,hr⟩:=om hr
  obtain ⟨h1,h2⟩:=aD hr
  simp only[Bool.and_eq_true,Nat.beq_eq,Nat.ble_eq] at h1
  obtain ⟨rfl,ou,hp3⟩:=h1
  have:=wY ou
  subst this
  obtain ⟨jF,a,b,c⟩:=uy (P:=P) (w:=w) (I:=I) (β:=β) h2 (path.map fun p=>eh p.1)
  refine ⟨_,_,path.map fun p=>eh p.1,[],a,c,by simp[LS.size],fun I' μ hp0 i1 i2 ρ m dz dh rest=> ?_⟩
  obtain ⟨blk,k1,k2⟩:=dh j _ (by rw[dz];exact oA b)
  obtain ⟨bb,q,i,cc,t,l,rfl,hb,ht,hc⟩:=hv.O0 aa p1 p2 p3
  have qt:blk= .nest e0 es [0,0,0]∧μ j=β id:=by
   generalize μ j=o at k2
   cases k2 with
   | var h=>rw[aa] at h;cases h
   | arr h=>rw[aa] at h;cases h
   | map h=>rw[aa] at h;cases h
   | nest h=>rw[aa] at h;cases h;exact ⟨rfl,rfl⟩
  obtain ⟨rfl,jG⟩:=qt
  simp only[iB,Eu]
  have hq:q.length<3:=by rw[List.length_append,List.length_singleton] at hp3;omega
  refine .row k1 (jG.trans hb) (by simpa using hq) ?_ ht hc
  match q.length,hq with
  | 0,_=>rfl
  | 1,_=>rfl
  | 2,_=>rfl
 | cE j cs c=>cases hr
 | v8 k n=>cases hr
 | dm t=>
  cases x<;>simp only at hr<;>first|(cases hr;done)|skip
  obtain ⟨h1,h2⟩:=aD hr
  cases hv with
  | dm=>exact pt h2 rfl fun _ _ _ _=> .dm
 | bL t j=>
  cases x<;>simp only at hr<;>first|(cases hr;done)|skip
  rename_i t' id
  obtain ⟨h1,h2⟩:=aD hr
  rw[Nat.beq_eq] at h1
  subst h1
  obtain ⟨jF,a,b,c⟩:=uy (P:=P) (w:=w) (I:=I) (β:=β) h2 []
  refine ⟨_,_,[],[],a,by simpa using c,rfl,fun I' μ hp0 i1 i2 ρ m dz dh rest=> ?_⟩
  obtain ⟨blk,k1,k2⟩:=dh j _ (by rw[dz];exact oA b)
  exact aaS hv k2 k1 rfl
 | list e=>
  obtain ⟨⟨y,u⟩,l1,l2,h1,h2⟩:=kG hr
  cases y<;>simp only at h2<;>first|(cases h2;done)|skip
  rename_i e' es
  obtain ⟨h3,h4⟩:=aD h2
  rw[Nat.beq_eq] at h3
  subst h3
  obtain ⟨p1,p2⟩:=DR S.h.rel h1 hv
  exact ⟨_,_,[.list e es],u,h4,⟨rfl,rfl,p1,⟨[],by simp⟩,id⟩,rfl,fun I' μ hp0 i1 i2 _ _ _ _ rest=> .list (p2 I' i1 i2)⟩
 | whole e j=>
  cases x<;>simp only at hr<;>first|(cases hr;done)|skip
  ·rename_i e' id
   obtain ⟨h1,h2⟩:=aD hr
   rw[Nat.beq_eq] at h1
   subst h1
   obtain ⟨jF,a,b,c⟩:=uy (P:=P) (w:=w) (I:=I) (β:=β) h2 []
   refine ⟨_,_,[],[],a,by simpa using c,rfl,fun I' μ hp0 i1 i2 ρ m dz dh rest=> ?_⟩
   obtain ⟨blk,k1,k2⟩:=dh j _ (by rw[dz];exact oA b)
   exact aaR hv k2 k1 rfl
  ·rename_i e' id ver path
   obtain ⟨h1,h2⟩:=aD hr
   rw[Nat.beq_eq] at h1
   subst h1
   obtain ⟨jF,a,b,c⟩:=uy (P:=P) (w:=w) (I:=I) (β:=β) h2 []
   refine ⟨_,_,[],[],a,by simpa using c,rfl,fun I' μ hp0 i1 i2 ρ m dz dh rest=> ?_⟩
   obtain ⟨blk,k1,k2⟩:=dh j _ (by rw[dz];exact oA b)
   exact aaV S hv k2 k1 rfl
 | sub e j=>
  cases x<;>simp only at hr<;>first|(cases hr;done)|skip
  rename_i e' id o n
  obtain ⟨h1,h2⟩:=aD hr
  rw[Nat.beq_eq] at h1
  subst h1
  obtain ⟨jF,a,b,c⟩:=uy (P:=P) (w:=w) (I:=I) (β:=β) h2 [eh o,eh n]
  refine ⟨_,_,[eh o,eh n],[],a,c,rfl,fun I' μ hp0 i1 i2 ρ m dz dh rest=> ?_⟩
  obtain ⟨blk,k1,k2⟩:=dh j _ (by rw[dz];exact oA b)
  simpa[iB,V.nth] using aaT (I':=I') hv k2 k1 rfl
 | ptr j=>
  cases x<;>simp only at hr<;>first|(cases hr;done)|skip
  rename_i id i c
  obtain ⟨jF,a,b,c'⟩:=uy (P:=P) (w:=w) (I:=I) (β:=β) hr [eh i,eh c]
  refine ⟨_,_,[eh i,eh c],[],a,c',rfl,fun I' μ hp0 i1 i2 ρ m dz dh rest=> ?_⟩
  obtain ⟨blk,k1,k2⟩:=dh j _ (by rw[dz];exact oA b)
  simpa[iB,V.nth] using Qq (I':=I') hv k2 k1 rfl
 | b6 j i c=>
  cases x<;>simp only at hr<;>first|(cases hr;done)|skip
  rename_i id i' c'
  obtain ⟨h1,h2⟩:=aD hr
  simp only[Bool.and_eq_true,Nat.beq_eq] at h1
  obtain ⟨rfl,rfl⟩:=h1
  obtain ⟨jF,a,b,c'⟩:=uy (P:=P) (w:=w) (I:=I) (β:=β) h2 []
  refine ⟨_,_,[],[],a,by simpa using c',rfl,fun I' μ hp0 i1 i2 ρ m dz dh rest=> ?_⟩
  obtain ⟨blk,k1,k2⟩:=dh j _ (by rw[dz];exact oA b)
  exact Qq hv k2 k1 rfl
end
section
variable {P:Program} {A:cF} {w w':World} {I I' I2:Nat→Prop} {μ β ao:Nat→Option Nat} {hp hp' hp0:Nat→Option ag} {C:ae} {B:Nat} {M:Nat→Prop} {w0:Start}
def mD (P:Program) (w:World) (I:Nat→Prop) (β:Nat→Option Nat) (hp:Nat→Option ag) (h':Hand) (u:List (Nat × ag)) (K:(Nat→Prop)→(Nat→Option Nat)→(Nat→Option ag)→Prop):Prop:=
 ∀(I':Nat→Prop) (μ:Nat→Option Nat) (hp0:Nat→Option ag),(∀b,I b→I' b)→(∀q∈u,∀b,sE P w β hp q.1 b→I' b)→∀ρ m,ρ=h'.pl++m→zY P w β hp ρ μ hp0→K I' μ hp0
theorem mD.later {h h':Hand} {d:List V} {u u':List (Nat × ag)} {K:(Nat→Prop)→(Nat→Option Nat)→(Nat→Option ag)→Prop} (t:mD P w I β hp h u K) (e:Ext P w I β hp h h' d u'):mD P w I β hp h' (u++u') K:=by
 obtain ⟨m1,e1⟩:=e.pl
 exact fun I' μ hp0 i1 i2 ρ m dz dh=>t I' μ hp0 i1 (fun q hq=>i2 q (List.mem_append.2 (.inl hq))) ρ (m1++m) (by rw[dz,e1,List.append_assoc]) dh
theorem mD.more {h:Hand} {u u':List (Nat × ag)} {K:(Nat→Prop)→(Nat→Option Nat)→(Nat→Option ag)→Prop} (t:mD P w I β hp h u K):mD P w I β hp h (u'++u) K:=
 fun I' μ hp0 i1 i2 ρ m dz dh=>t I' μ hp0 i1 (fun q hq=>i2 q (List.mem_append.2 (.inr hq))) ρ m dz dh
theorem Ex (S:aC P w I β hp B M w0) {α:Type}: ∀{ls:List LS} {xs:List V} {h:Hand} {k:Hand→Rd α} {r:α} {rd:List Nat} {vs:List Value},(wj P ls xs h k).run C hp=some (r,rd)→vs.length=xs.length→
  (∀(j:Nat) v x,vs[j]? =some v→xs[j]? =some x→ah P w I β hp v x)→
  ∃h' fc d u,(k h').run C hp=some (r,fc)∧Ext P w I β hp h h' d u∧d.length=jW ls∧ls.length=xs.length∧
   mD P w I β hp h' u fun I' μ hp0=> ∀rest,(gZ ls (d++rest)).length=xs.length∧∀(j:Nat) v y,vs[j]? =some v→(gZ ls (d++rest))[j]? =some y→ah P w I' μ hp0 v y
 | [],[],h,k,r,rd,vs,hr,hl,hv=>⟨h,rd,[],[],hr,Ext.refl h,rfl,rfl,fun I' μ hp0 _ _ _ _ _ _ rest=>⟨rfl,fun j v y _ hy=>by simp[gZ] at hy⟩⟩
 | [],_::_,h,k,r,rd,vs,hr,hl,hv=>by cases hr
 | _::_,[],h,k,r,rd,vs,hr,hl,hv=>by cases hr
 | l::ls,x::xs,h,k,r,rd,vs,hr,hl,hv=>by
  cases vs with
  | nil=>simp at hl
  | cons v vs=>
   simp only[wj] at hr
   obtain ⟨h1,ji,d1,u1,a1,a2,a3,a4⟩:=Qr S hr (hv 0 v x rfl rfl)
   obtain ⟨h2,sP,d2,u2,b1,b2,b3,b5,b4⟩:=Ex S a1 (by simpa using hl) (vs:=vs) (fun j v x hj hx=>hv (j+1) v x (by simpa using hj) (by simpa using hx))
   have a4':mD P w I β hp h1 u1 fun I' μ hp0=> ∀rest,ah P w I' μ hp0 v (iB l (d1++rest)):=a4
   refine ⟨h2,sP,d1++d2,u1++u2,b1,a2.trans b2,by simp only[List.length_append,jW];omega,by simp[b5],fun I' μ hp0 i1 i2 ρ m dz dh rest=> ?_⟩
   have k1:=(a4'.later b2) I' μ hp0 i1 i2 ρ m dz dh (d2++rest)
   obtain ⟨k2,k3⟩:=b4.more I' μ hp0 i1 i2 ρ m dz dh rest
   simp only[gZ]
   rw[show (d1++d2++rest).drop l.size=d2++rest by rw[List.append_assoc];exact nv a3,List.append_assoc]
   refine ⟨by simp[k2],fun j v' y hj hy=> ?_⟩
   cases j with
   | zero=>simp at hj hy;subst hj;subst hy;exact k1
   | succ j=>exact k3 j v' y (by simpa using hj) (by simpa using hy)
theorem aaX (S:aC P w I β hp B M w0) {α:Type} {s:VS} {x:V} {h:Hand} {k:Hand→Rd α} {r:α} {rd:List Nat} {v:Value} (hr:(za P s x h k).run C hp=some (r,rd)) (hv:ah P w I β hp v x):
  ∃h' fc d u,(k h').run C hp=some (r,fc)∧Ext P w I β hp h h' d u∧d.length=s.size∧
   mD P w I β hp h' u fun I' μ hp0=> ∀rest,ah P w I' μ hp0 v (kD s (d++rest)):=by
 cases s with
 | one l=>
  simp only[za] at hr
  obtain ⟨h1,ji,d1,u1,a1,a2,a3,a4⟩:=Qr S hr hv
  exact ⟨h1,ji,d1,u1,a1,a2,a3,a4⟩
 | agg ls=>
  cases x<;>simp only[za] at hr<;>first|(cases hr;done)|skip
  rename_i xs
  obtain ⟨cs,rfl,e1,e2⟩:=hv.kH
  obtain ⟨h1,ji,d1,u1,a1,a2,a3,a5,a4⟩:=Ex S hr (vs:=cs.toList) (by simpa using e1) (fun j v x hj hx=>e2 j v x (by simpa using hj) hx)
  refine ⟨h1,ji,d1,u1,a1,a2,a3,fun I' μ hp0 i1 i2 ρ m dz dh rest=> ?_⟩
  obtain ⟨k1,k2⟩:=a4 I' μ hp0 i1 i2 ρ m dz dh rest
  exact .agg (by rw[k1];exact e1) fun j v y hj hy=>k2 j v y (by simpa using hj) hy
 | a8 ls=>cases x<;>cases hr
 | pref ts ls=>cases x<;>cases hr
 | fn f a b=>
  cases x<;>simp only[za] at hr<;>first|(cases hr;done)|skip
  rename_i f' xs ys
  obtain ⟨hc,oB⟩:=aD hr
  clear hr
  rw[Nat.beq_eq] at hc
  subst hc
  cases hv with
  | @fn _ fs cs _ _ q1 q2 q3 q4=>
   obtain ⟨h1,ji,d1,u1,a1,a2,a3,a5,a4⟩:=Ex S oB (vs:=fs.toList) (by simpa using q1) (fun j v x hj hx=>q2 j v x (by simpa using hj) hx)
   obtain ⟨h2,sP,d2,u2,b1,b2,b3,b5,b4⟩:=Ex S a1 (vs:=cs.toList) (by simpa using q3) (fun j v x hj hx=>q4 j v x (by simpa using hj) hx)
   refine ⟨h2,sP,d1++d2,u1++u2,b1,a2.trans b2,by simp only[List.length_append,VS.size];omega,fun I' μ hp0 i1 i2 ρ m dz dh rest=> ?_⟩
   obtain ⟨k1,k2⟩:=(a4.later b2) I' μ hp0 i1 i2 ρ m dz dh (d2++rest)
   obtain ⟨k3,k4⟩:=b4.more I' μ hp0 i1 i2 ρ m dz dh rest
   simp only[kD]
   rw[show (d1++d2++rest).drop (jW a)=d2++rest by rw[List.append_assoc];exact nv a3,List.append_assoc]
   exact .fn (by rw[k1];exact q1) (fun j v y hj hy=>k2 j v y (by simpa using hj) hy) (by rw[k3];exact q3) (fun j v y hj hy=>k4 j v y (by simpa using hj) hy)
theorem JO (S:aC P w I β hp B M w0) {α:Type}: ∀{ls:List VS} {xs:List V} {h:Hand} {k:Hand→Rd α} {r:α} {rd:List Nat} {vs:List Value},(zb P ls xs h k).run C hp=some (r,rd)→vs.length=xs.length→
  (∀(j:Nat) v x,vs[j]? =some v→xs[j]? =some x→ah P w I β hp v x)→
  ∃h' fc d u,(k h').run C hp=some (r,fc)∧Ext P w I β hp h h' d u∧d.length=sw ls∧ls.length=xs.length∧
   mD P w I β hp h' u fun I' μ hp0=> ∀rest,(fI ls (d++rest)).length=xs.length∧∀(j:Nat) v y,vs[j]? =some v→(fI ls (d++rest))[j]? =some y→ah P w I' μ hp0 v y
 | [],[],h,k,r,rd,vs,hr,hl,hv=>⟨h,rd,[],[],hr,Ext.refl h,rfl,rfl,fun I' μ hp0 _ _ _ _ _ _ rest=>⟨rfl,fun j v y _ hy=>by simp[fI] at hy⟩⟩
 | [],_::_,h,k,r,rd,vs,hr,hl,hv=>by cases hr
 | _::_,[],h,k,r,rd,vs,hr,hl,hv=>by cases hr
 | l::ls,x::xs,h,k,r,rd,vs,hr,hl,hv=>by
  cases vs with
  | nil=>simp at hl
  | cons v vs=>
   simp only[zb] at hr
   obtain ⟨h1,ji,d1,u1,a1,a2,a3,a4⟩:=aaX S hr (hv 0 v x rfl rfl)
   obtain ⟨h2,sP,d2,u2,b1,b2,b3,b5,b4⟩:=JO S a1 (by simpa using hl) (vs:=vs) (fun j v x hj hx=>hv (j+1) v x (by simpa using hj) (by simpa using hx))
   refine ⟨h2,sP,d1++d2,u1++u2,b1,a2.trans b2,by simp only[List.length_append,sw];omega,by simp[b5],fun I' μ hp0 i1 i2 ρ m dz dh rest=> ?_⟩
   have k1:=(a4.later b2) I' μ hp0 i1 i2 ρ m dz dh (d2++rest)
   obtain ⟨k2,k3⟩:=b4.more I' μ hp0 i1 i2 ρ m dz dh rest
   simp only[fI]
   rw[show (d1++d2++rest).drop l.size=d2++rest by rw[List.append_assoc];exact nv a3,List.append_assoc]
   refine ⟨by simp[k2],fun j v' y hj hy=> ?_⟩
   cases j with
   | zero=>simp at hj hy;subst hj;subst hy;exact k1
   | succ j=>exact k3 j v' y (by simpa using hj) (by simpa using hy)
def Ey:List BS→Nat
 | []=>0
 | b::l=>b.size+Ey l
theorem Qs: ∀{b:Nat} {e e':TypeId} {es:List V} {v:V},(∀q b' e' m,At P w b e es q b' e' m→jd P w I b' e' m)→∀(path:Path),jU P e path=some e'→iA P e es path=some v→0<v.toList.length→
  ∃b1,At P w b e es path b1 e' v.toList
 | b,e,e',es,v,cq,[],ht,hv,hl=>by
  simp only[jU,Option.some.injEq] at ht
  simp only[iA,Option.some.injEq] at hv
  subst ht;subst hv
  exact ⟨b,.here⟩
 | b,e,e',es,v,cq,(i,c)::q,ht,hv,hl=>by
  simp only[jU] at ht
  simp only[iA] at hv
  obtain ⟨x,hx,hv⟩:=bind_some hv
  cases JP:(jU.yX P e)[c]? with
  | none=>rw[JP] at ht;cases ht
  | some t=>
   rw[JP] at ht
   simp only at ht
   have Ez:(aO P e)[c]? =some t:=JP
   cases hu:P.underlying t with
   | none=>rw[hu] at ht;cases ht
   | some d=>
    rw[hu] at ht
    cases d<;>simp only at ht<;>first|(cases ht;done)|skip
    rename_i e1
    rw[nh Ez] at hv
    have hR:=cq _ _ _ _ .here
    obtain ⟨Ca,c1,c2,c3⟩:=hR.cells
    have ua:c<P.cellsOf e:=by rw[←fL hR.ok];exact (List.getElem?_eq_some_iff.1 Ez).1
    obtain ⟨u,d1,d2⟩:=c3 i c x t hx Ez ua
    rw[d2.sG] at hv
    generalize hy:bI P e x c=y at d2 hv
    cases d2 with
    | fX a p=>unfold fT at a;rw[hu] at a;cases a
    | @emp e2 a cap pw ha=>
     rw[hu] at pw;cases pw
     simp only at hv
     cases q with
     | nil=>simp only[iA,Option.some.injEq] at hv;subst hv;simp[V.toList] at hl
     | cons a q=>simp[iA] at hv
    | @row e2 cb b2 cap pw mo aU cd oo=>
     rw[hu] at pw;cases pw
     simp only at hv
     have jg: ∀{q b' e' aH},At P w b2 e1 cb q b' e' aH→At P w b e es ((i,c)::q) b' e' aH:=fun h=> .step c1 hx Ez hu hy mo d1 h
     obtain ⟨b1,lr⟩:=Qs (fun q b' e' m h=>cq _ _ _ _ (jg h)) q ht hv hl
     exact ⟨b1,jg lr⟩
theorem Qt (S:aC P w I β hp B M w0) {α:Type}: ∀{bs:List BS} {j:Nat} {h:Hand} {k:Hand→Rd α} {r:α} {rd:List Nat},(qh P bs j h k).run C hp=some (r,rd)→
  ∃h' fc d u,(k h').run C hp=some (r,fc)∧Ext P w I β hp h h' d u∧d.length=Ey bs∧
   ∀rest,(eR bs (d++rest)).length=bs.length∧∃o:Nat→Option Nat,
    (∀(i:Nat) blk,(eR bs (d++rest))[i]? =some blk→∃p,ei h'.pl (j+i)=some p∧eb P w β hp p (o i) blk)∧
    mD P w I β hp h' u fun I' μ hp0=> ∀(i:Nat) blk,(eR bs (d++rest))[i]? =some blk→(∀b,bt P w (o i) blk b→¬I' b)→dY P w I' μ hp0 (o i) blk
 | [],j,h,k,r,rd,hr=>⟨h,rd,[],[],hr,Ext.refl h,rfl,fun rest=>⟨rfl,fun _=>none,fun i blk hb=>by simp[eR] at hb,fun I' μ hp0 _ _ _ _ _ _ i blk hb=>by simp[eR] at hb⟩⟩
 | b::bs,j,h,k,r,rd,hr=>by
  simp only[qh] at hr
  have fin: ∀{h1:Hand} {ji:List Nat} {d1:List V} {u1:List (Nat × ag)} {o1:Option Nat} {p:Place},(qh P bs (j+1) h1 k).run C hp=some (r,ji)→Ext P w I β hp h h1 d1 u1→d1.length=b.size→ei h.pl j=some p→
    (∀rest,eb P w β hp p o1 (fU b (d1++rest)))→(∀rest,mD P w I β hp h1 u1 fun I' μ hp0=>(∀bb,bt P w o1 (fU b (d1++rest)) bb→¬I' bb)→dY P w I' μ hp0 o1 (fU b (d1++rest)))→
    ∃h' fc d u,(k h').run C hp=some (r,fc)∧Ext P w I β hp h h' d u∧d.length=Ey (b::bs)∧
     ∀rest,(eR (b::bs) (d++rest)).length=(b::bs).length∧∃o:Nat→Option Nat,
      (∀(i:Nat) blk,(eR (b::bs) (d++rest))[i]? =some blk→∃p,ei h'.pl (j+i)=some p∧eb P w β hp p (o i) blk)∧
      mD P w I β hp h' u fun I' μ hp0=> ∀(i:Nat) blk,(eR (b::bs) (d++rest))[i]? =some blk→(∀b,bt P w (o i) blk b→¬I' b)→dY P w I' μ hp0 (o i) blk:=by
   intro h1 ji d1 u1 o1 p hk he hd bn hl ht
   obtain ⟨h2,sP,d2,u2,b1,b2,b3,b4⟩:=Qt S hk
   refine ⟨h2,sP,d1++d2,u1++u2,b1,he.trans b2,by simp only[List.length_append,Ey];omega,fun rest=> ?_⟩
   obtain ⟨c1,o,c2,c3⟩:=b4 rest
   simp only[eR]
   rw[show (d1++d2++rest).drop b.size=d2++rest by rw[List.append_assoc];exact nv hd,List.append_assoc]
   refine ⟨by simp[c1],fun i=>match i with|0=>o1|i+1=>o i,fun i blk hb=> ?_,fun I' μ hp0 i1 i2 ρ m dz dh i blk hb cS=> ?_⟩
   ·cases i with
    | zero=>
     simp at hb
     subst hb
     exact ⟨p,b2.look (he.look bn),hl _⟩
    | succ i=>
     obtain ⟨q,e1,e2⟩:=c2 i blk (by simpa using hb)
     exact ⟨q,by rw[show j+(i+1)=j+1+i by omega];exact e1,e2⟩
   ·cases i with
    | zero=>
     simp at hb
     subst hb
     exact ((ht _).later b2) I' μ hp0 i1 i2 ρ m dz dh cS
    | succ i=>exact c3.more I' μ hp0 i1 i2 ρ m dz dh i blk (by simpa using hb) cS
  cases bn:ei h.pl j with
  | none=>rw[bn] at hr;cases hr
  | some p=>
   rw[bn] at hr
   cases p with
   | blk id=>
    obtain ⟨l1,hr⟩:=run_get hr
    cases aa:hp id with
    | none=>rw[aa] at hr;cases hr
    | some blk=>
     rw[aa] at hr
     cases blk with
     | dead=>cases hr
     | var T0 cs=>
      cases b<;>simp only at hr<;>first|(cases hr;done)|skip
      rename_i T1 ss
      obtain ⟨hT,hr1⟩:=aD hr
      clear hr
      rw[Nat.beq_eq] at hT
      subst hT
      have cG:=S.h.rel id _ aa
      generalize ho:β id=o at cG
      cases cG with
      | @var _ bb Ca T hb hh hs hI hx gp=>
       obtain ⟨h1,ji,d1,u1,a1,a2,a3,a5,a4⟩:=JO S hr1 (vs:=Ca.toList) (by simpa using hs) (fun j v x hj cz=>hx j v x (by simpa using hj) cz)
       refine fin (o1:=β id) a1 a2 a3 bn (fun rest=> .var aa) fun rest I' μ hp0 i1 i2 ρ m dz dh cS=> ?_
       obtain ⟨k1,k2⟩:=a4 I' μ hp0 i1 i2 ρ m dz dh rest
       exact .var (ho.trans hb) hh (by rw[k1];exact hs) (cS _ (.root (by simp[fU]) (ho.trans hb))) (fun i v y hi hy=>k2 i v y (by simpa using hi) hy) gp
     | arr e' es fz=>
      cases fz with
      | true=>cases hr
      | false=>
       cases b with
       | arr e fz=>
        cases fz with
        | true=>cases hr
        | false=>
         obtain ⟨hc,oB⟩:=aD hr
         clear hr
         rw[Nat.beq_eq] at hc
         subst hc
         refine fin (d1:=[.list e es]) (o1:=β id) oB (Ext.leaf h _) rfl bn (fun rest=>eb.arr aa) fun rest I' μ hp0 i1 i2 ρ m dz dh cS=> ?_
         change dY P w I' μ hp0 (β id) (.arr e es false)
         have cG:=S.h.rel id _ aa
         generalize ho:β id=o at cG cS⊢
         cases cG with
         | dQ hb=>exact .dQ hb
         | arr a1 a2 a3 a4 a5 a6 a7=>
          refine .arr a1 a2 a3 a4 (fun h=>by cases h) (fun _=>cS _ (.root (by simp[fU]) a2)) fun i j x t' y1 y2 y3=> ?_
          obtain ⟨v,z1,z2⟩:=a7 i j x t' y1 y2 y3
          exact ⟨v,z1,z2.mono i1 fun _ _=>rfl⟩
       | _=>cases hr
     | nest e' es ai=>
      cases b with
      | nest e=>
       obtain ⟨hc,oB⟩:=aD hr
       clear hr
       rw[Nat.beq_eq] at hc
       subst hc
       refine fin (d1:=[.list e es]) (o1:=β id) oB (Ext.leaf h _) rfl bn (fun rest=>eb.nest aa) fun rest I' μ hp0 i1 i2 ρ m dz dh cS=> ?_
       have Qu: ∀bb,bt P w (β id) (.nest e es [0,0,0]) bb→¬I' bb:=cS
       change dY P w I' μ hp0 (β id) (.nest e es [0,0,0])
       have cG:=S.h.rel id _ aa
       generalize ho:β id=o at cG Qu⊢
       cases cG with
       | nest hb cq ov=>
        refine .nest hb (fun q b' e1 m1 hq=> ?_) ov
        obtain ⟨ok,⟨Ca,c1,c2,c3⟩,nI⟩:=cq q b' e1 m1 hq
        refine ⟨ok,⟨Ca,c1,c2,fun i j x t' y1 y2 y3=> ?_⟩,Qu _ (.row hb hq)⟩
        obtain ⟨v,z1,z2⟩:=c3 i j x t' y1 y2 y3
        exact ⟨v,z1,z2.mono i1 (fun _ _=>rfl) fun _ _ _ _ _=>rfl⟩
      | _=>cases hr
     | map t' es=>
      cases b with
      | map t=>
       obtain ⟨hc,oB⟩:=aD hr
       clear hr
       rw[Nat.beq_eq] at hc
       subst hc
       refine fin (d1:=[.list t es]) (o1:=β id) oB (Ext.leaf h _) rfl bn (fun rest=>eb.map aa) fun rest I' μ hp0 i1 i2 ρ m dz dh cS=> ?_
       change dY P w I' μ hp0 (β id) (.map t es)
       have cG:=S.h.rel id _ aa
       generalize ho:β id=o at cG cS⊢
       cases cG with
       | map a1 a2 a3 a4 a5 a6 a7=>exact .map a1 a2 a3 a4 (cS _ (.root (by simp[fU]) a2)) a6 a7
      | _=>cases hr
   | row id ver path=>
    obtain ⟨e0,es,ai,l1,k1,k2,k3,k4,k5⟩:=om hr
    obtain ⟨e',vv,m1,m2,m3⟩:=wy k5
    cases b with
    | arr e fz=>
     cases fz with
     | true=>cases m3
     | false=>
      obtain ⟨hc,m4⟩:=aD m3
      clear m3
      simp only[Bool.and_eq_true,Nat.beq_eq,Nat.blt_eq] at hc
      obtain ⟨rfl,zZ,mo⟩:=hc
      have cG:=S.h.rel id _ k1
      cases hb:β id with
      | none=>
       rw[hb] at cG
       cases cG with
       | nest ay _ _=>cases ay
      | some b0=>
       rw[hb] at cG
       cases cG with
       | nest ay cq ov=>
        cases ay
        obtain ⟨b1,dq⟩:=Qs cq path m1 m2 mo
        refine fin (d1:=[.list e vv.toList]) (o1:=some b1) m4 (Ext.leaf h _) rfl bn (fun rest=>eb.row k1 hb dq zZ k2 k3 k4 mo) fun rest I' μ hp0 i1 i2 ρ m dz dh cS=> ?_
        change dY P w I' μ hp0 (some b1) (.arr e vv.toList false)
        obtain ⟨ok,⟨Ca,c1,c2,c3⟩,nI⟩:=cq _ _ _ _ dq
        refine .arr ok rfl c1 c2 (fun h=>by cases h) (fun _=>cS _ (.root (by simp[fU]) rfl)) fun i j x t' y1 y2 y3=> ?_
        obtain ⟨v,z1,z2⟩:=c3 i j x t' y1 y2 y3
        refine ⟨v,z1,?_⟩
        generalize bI P e x j=y at z2⊢
        cases z2 with
        | fX _ p=>exact p.mono i1 fun _ _=>rfl
        | emp hu _=>exact absurd hu (Qv zZ y2 _)
        | row hu _ _ _ _=>exact absurd hu (Qv zZ y2 _)
    | _=>cases m3
where
 Qv {e t:TypeId} {j:Nat} (h:y6 P e=true) (ht:(aO P e)[j]? =some t) (e':TypeId):P.underlying t≠some (.slice e'):=by
  intro hu
  have h2:=List.all_eq_true.1 h t (List.mem_of_getElem? ht)
  rw[hu] at h2
  cases h2
end
end Go.AM
