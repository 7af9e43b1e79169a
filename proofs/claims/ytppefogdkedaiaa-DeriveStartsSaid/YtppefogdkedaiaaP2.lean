/-
  Functions of the program, lifted to plain data.
-/
import Derived.Great.BuildSlice
import Derived.Maps.Keyed
import Derived.WideKeyArr
import Derived.MapKept
import Derived.ChangeMaps4
import Derived.Carry
import Derived.Lib.AppendStr
import Derived.Laws.BytesString
import Derived.Lib.Builder
import Derived.Lib.UnsafeStr
import Derived.Test.YtppefogdkedaiaaP1
set_option linter.unusedVariables false
set_option linter.unusedSimpArgs false
namespace Go.AM
section
variable {P:Program} {w w':World} {I I':Nat→Prop} {β β':Nat→Option Nat} {hp hp':Nat→Option an} {C:ag} {B:Nat} {M:Nat→Prop} {w0:Start}
theorem V2 (S:aF P w I β hp B M w0) {t:TypeId} {a v:Value} {xa x:V} {r:R} {rd:List Nat} (ha:ao P w I β hp a xa) (hv:ao P w I β hp v x)
  (h:(Gj P t xa x).run C hp=some (r,rd)):o6 P ((Instr.storeAt t a v).run P w) w I β hp B M w0 r:=by
 unfold Gj at h
 obtain ⟨h0,h⟩:=aG h
 simp only[aK,aP] at h0
 obtain ⟨ht,hn⟩:=h0
 cases xa with
 | ptr id i c=>
  obtain ⟨l,h⟩:=run_get h
  cases ab:hp id with
  | none=>rw[ab] at h;cases h
  | some blk=>
   rw[ab] at h
   cases blk with
   | dead=>cases h
   | var T0 cs=>
    obtain ⟨MF,h⟩:=aG h
    have lQ:oU P T0=true→0<c:=fun bL=>by
     rw[bL] at MF
     simpa using MF
    obtain ⟨b,hb,rfl⟩:=ha.gD ab (by simp)
    simp only[an.sz,Nat.mul_zero,gx]
    cases o5:(yA P t cs&&eC P t x) with
    | true=>
     dsimp only at h
     rw[o5] at h
     simp only[cond_true] at h
     obtain ⟨hc,h⟩:=aG h
     obtain rfl:=aM h
     simp only[aK,jJ] at hc o5
     obtain ⟨o1,o2⟩:=My hv o5.2
     have ld:=VG o5.2
     refine Mw S ab hb ht hn (by rw[o2,ld];rfl) lQ (fun j u y hu hy=> ?_) (by rw[o2];simp[o1]) (by rw[ld];simp;omega) (Mv _ _ _ _) (fun j y hy hj u hu=> ?_) (fun j y hy hj u hu=> ?_)
     ·rw[o2] at hu
      rw[ld] at hy
      cases j with
      | zero=>simp at hu hy;subst hu;subst hy;exact hv
      | succ j=>simp at hy
     ·rw[G0] at hy
      cases vL:cs[j]? with
      | none=>rw[vL] at hy;cases hy
      | some y0=>
       rw[vL] at hy
       simp only[Option.map_some,dH] at hy
       rw[ld] at hj
       simp only[List.length_singleton] at hj
       have bz:Nat.beq c (0+j)=false:=by
        cases hq:Nat.beq c (0+j) with
        | false=>rfl
        | true=>rw[aP] at hq;omega
       rw[bz] at hy
       have:=Mk (c:=false) hv (hu y0 vL)
       rw[←hy]
       simpa using this
     ·rw[ld] at hj hu
      have V3:j=0:=by simpa using hj
      subst V3
      rw[G0] at hy
      cases vL:cs[c+0]? with
      | none=>rw[vL] at hy;cases hy
      | some y0=>
       rw[vL] at hy
       simp only[Option.map_some,dH] at hy
       have heq:Nat.beq c (0+(c+0))=true:=by rw[aP];omega
       rw[heq] at hy
       have U:ao P w I β hp u x:=hu x rfl
       have:rr true x y0=x:=VH x y0
       rw[←hy,this]
       exact U
    | false=>
     dsimp only at h
     rw[o5] at h
     simp only[cond_false] at h
     obtain ⟨hc,h⟩:=aG h
     simp only[aK,di] at hc
     obtain ⟨e1,e2⟩:=GY hv h
     obtain ⟨h1,l2,h⟩:=CT h (vs:=v.cells.toList) (by simpa using e1) (fun j u y a b=>e2 j u y (by simpa using a) b)
     obtain rfl:=aM h
     refine Mw S ab hb ht hn e1 lQ e2 h1 hc.2 (za _ _ _ hc.2) (fun j y hy hj u hu=> ?_) (fun j y hy hj u hu=> ?_)
     ·unfold ft at hy
      rw[mR _ _ _ _ hc.2] at hy
      rcases hj with hj|hj
      ·rw[aj hj] at hy;exact hu y hy
      ·rw[ai (by omega),ai (by omega)] at hy;exact hu y hy
     ·unfold ft at hy
      rw[mR _ _ _ _ hc.2,ai (by omega),aj (by omega)] at hy
      rw[show c+j-c=j by omega] at hy
      exact hu y hy
   | arr e es fz=>
    cases fz with
    | true=>cases h
    | false=>
    obtain ⟨b,hb,rfl⟩:=ha.gD ab (by simp)
    obtain ⟨au,h⟩:=aG h
    obtain ⟨⟨ys,fr⟩,l1,l2,br,h⟩:=kA h
    obtain ⟨hc,h⟩:=aG h
    obtain ⟨x0,qp,h⟩:=la h
    obtain rfl:=aM h
    simp only[aK,mA,di] at hc
    obtain ⟨dw,V4,iw⟩:=hc
    have o8:v.cells.size=x.cells.length∧∀(j:Nat) u y,v.cells.toList[j]? =some u→x.cells[j]? =some y→ao P w I β hp u y:=by
     cases x with
     | agg xs=>
      obtain ⟨cs,rfl,h1,U⟩:=hv.kB
      exact ⟨h1,fun j u y a b=>U j u y (by simpa[Value.cells] using a) b⟩
     | _=>
      simp only[V.cells] at br iw⊢
      simp only[rq] at br
      obtain ⟨⟨y1,u1⟩,l3,l4,hq,br⟩:=kA br
      obtain ⟨q1,q2⟩:=CH S.h.rel hq hv
      obtain ⟨⟨y2,u2⟩,l5,l6,zi,br⟩:=kA br
      cases zi
      have:=aM br
      cases this
      obtain ⟨tl,tg⟩:=tq iw
      have fi:=tg 0 _ y1 (bB (by rw[tl];exact Nat.one_pos)) rfl
      have bZ:=q2 (iz P w I β hp u1) (fun _ h=> .inl h) (fun p hp b h=> .inr ⟨p,hp,h⟩)
      have ho:=bZ.pure fi
      have Hd:v.cells= #[v]:=by cases ho<;>rfl
      rw[Hd]
      refine ⟨rfl,fun j u y hu hy=> ?_⟩
      cases j with
      | zero=>simp at hu hy;subst hu;subst hy;exact hv
      | succ j=>simp at hy
    obtain ⟨k1,k2,k3⟩:=GQ S.h.rel br (vs:=v.cells.toList) (by simpa using o8.1) o8.2
    obtain ⟨qn,S1⟩:=y4 S k2
    have zh:bG hp fr id=some (.arr e es false):=by
     rcases ti (hp:=hp) (l:=fr) (id:=id) with h|⟨b',hm,_⟩
     ·exact h.trans ab
     ·exfalso
      have V5:jL (fr.map (·.1)) id=true:=vF (gd.2 ⟨_,hm,rfl⟩)
      rw[V5] at dw;cases dw
    have MG:=k3 (iz P w I β hp fr) (fun _ h=> .inl h) (fun p hp b h=> .inr ⟨p,hp,h⟩)
    obtain ⟨tl,tg⟩:=tq iw
    have vz:=(jT au).1
    have tv:ys.length=v.cells.size:=by rw[k1,o8.1]
    have hcn:c+v.cells.size≤P.cellsOf e:=by rw[o8.1];exact V4
    have hr:=S1.h.rel id _ zh
    cases hr with
    | dv aA=>simp at qp
    | @arr _ _ _ b' Ca GX aA hh hs hf dW hx=>
     rw[hb] at aA
     cases aA
     have lf:i<es.length:=(bt.1 qp).1
     have hbound:i*P.cellsOf e+P.cellsOf e≤Ca.size:=by
      have:(i+1)*P.cellsOf e≤es.length*P.cellsOf e:=dp _ lf
      rw[db] at this
      omega
     simp only[an.sz]
     have rM:i*P.cellsOf e+c+v.cells.size≤Ca.size:=by omega
     have cH: ¬iz P w I β hp fr b:=dW rfl
     have h1: ∀u∈v.cells.toList,u.oneCell'=true:=by
      intro u hu
      obtain ⟨j,hj⟩:=ri hu
      have b7:j<ys.length:=by rw[tv];simpa using (bt.1 hj).1
      have nZ:j<(((flat P e).drop c).take x.cells.length).length:=by rw[tl];exact b7
      exact (MG j u ys[j] hj (bB b7)).one (tg j _ ys[j] (bB nZ) (bB b7))
     have cN:=GZ (t:=t) (o:=i*P.cellsOf e+c) (v:=v) ht (by rw[o8.1];exact hn.symm) hh rM h1
     have hlen:(Ca.toList.take (i*P.cellsOf e+c)++(v.cells.toList++Ca.toList.drop (i*P.cellsOf e+c+v.cells.toList.length))).length=Ca.size:=by
      rw[za _ _ _ (by simpa using rM)];simp
     have bZ:(parts P e x0).length=P.cellsOf e:=by rw[vC];exact fh au
     have zb:=CU S1 (blk':= .arr e (es.set i (cm P e (ft (parts P e x0) c ys))) false)
      (Cb:=(Ca.toList.take (i*P.cellsOf e+c)++(v.cells.toList++Ca.toList.drop (i*P.cellsOf e+c+v.cells.toList.length))).toArray) zh (by simp) ⟨rfl,by simp⟩ hb cH (by simp) hh (by simpa using hlen)
      (fun hle eE=> .arr au rfl eE (by simp only[pO,nH];omega) (fun h=>by cases h) (fun _=>cH) fun i' j z t' hz nZ hj=>by
       simp only[mB]
       rw[mR _ _ _ _ (by simpa using rM)]
       simp only[Array.length_toList]
       rw[List.getElem?_set] at hz
       by_cases iD:i=i'
       ·subst iD
        rw[aj rfl,aj lf] at hz
        cases hz
        have C6:j<(parts P e x0).length:=by omega
        have tw:(ft (parts P e x0) c ys)[j]? =if j<c then (parts P e x0)[j]? else if j<c+ys.length then ys[j-c]? else (parts P e x0)[j]? :=by
         unfold ft;exact mR _ _ _ _ (by omega)
        by_cases qi:j<c
        ·rw[aj (by omega)]
         rw[aj qi] at tw
         obtain ⟨u,t2,a1,a2,a3⟩:=CQ hx au qp (bB C6)
         rw[nZ] at a1;cases a1
         refine ⟨u,by simpa using a2,?_⟩
         rw[qj (tw.trans (bB C6)) nZ]
         exact a3.mono hle.c7 hle.b6
        ·rw[ai qi] at tw
         by_cases fR:j<c+ys.length
         ·rw[aj fR] at tw
          rw[ai (by omega),aj (by omega)]
          have o9:j-c<ys.length:=by omega
          have MH:j-c<v.cells.toList.length:=by simp;omega
          have ahl:j-c<v.cells.size:=by omega
          refine ⟨v.cells.toList[j-c],?_,?_⟩
          ·rw[show i*P.cellsOf e+j-(i*P.cellsOf e+c)=j-c by omega]
           exact bB MH
          ·rw[qj (tw.trans (bB o9)) nZ]
           have V6:(((flat P e).drop c).take x.cells.length)[j-c]? =some t':=by
            rw[eK (by omega),gP,show c+(j-c)=j by omega,←rJ]
            exact nZ
           exact ((MG (j-c) _ ys[j-c] (bB MH) (bB o9)).pure (tg (j-c) t' ys[j-c] V6 (bB o9))).mono hle.c7 hle.b6
         ·rw[ai fR] at tw
          rw[ai (by omega),ai (by omega)]
          obtain ⟨u,t2,a1,a2,a3⟩:=CQ hx au qp (bB C6)
          rw[nZ] at a1;cases a1
          refine ⟨u,by simpa using a2,?_⟩
          rw[qj (tw.trans (bB C6)) nZ]
          exact a3.mono hle.c7 hle.b6
       ·rw[ai iD] at hz
        obtain ⟨u,a2,a3⟩:=hx i' j z t' hz nZ hj
        have bz:i'*P.cellsOf e+j<i*P.cellsOf e+c∨i*P.cellsOf e+c+v.cells.size≤i'*P.cellsOf e+j:=by
         rcases oN i' i with aO|pb
         ·left
          have:(i'+1)*P.cellsOf e≤i*P.cellsOf e:=dp _ aO
          rw[db] at this
          omega
         ·right
          have:(i+1)*P.cellsOf e≤i'*P.cellsOf e:=dp _ (by omega)
          rw[db] at this
          omega
        refine ⟨u,?_,a3.mono hle.c7 hle.b6⟩
        rcases bz with bz|bz
        ·rw[aj bz];simpa using a2
        ·rw[ai (by omega),ai (by omega)];simpa using a2)
     exact ⟨_,_,_,cN,qn.trans zb.1,zb.2,rfl⟩
   | map _ _=>cases h
   | nest e es aq=>
    obtain ⟨b,hb,rfl⟩:=ha.gD ab (by simp)
    exact ME S ht hn hv ab hb .here h
 | cw id ver path i c=>
  obtain ⟨e0,es,aq,l,ab,h1,U,h3,h⟩:=nU h
  obtain ⟨b,b1,e1,l1,hb,c8,rfl⟩:=ha.Mh ab h1 U h3
  exact ME S ht hn hv ab hb c8 h
 | _=>cases h
end
section
variable {P:Program} {w w':World} {I I':Nat→Prop} {β β':Nat→Option Nat} {hp hp':Nat→Option an} {C:ag} {B:Nat} {M:Nat→Prop} {w0:Start}
theorem He: ∀{ts:List TypeId} {vs:List Value} {j:Nat} {y:V},(iR P ts vs)[j]? =some y→∃t v,ts[j]? =some t∧vs[j]? =some v∧y=oT P t v
 | [],vs,j,y,h=>by simp[iR] at h
 | _::_,[],j,y,h=>by simp[iR] at h
 | t::ts,v::vs,0,y,h=>by simp[iR] at h;exact ⟨t,v,rfl,rfl,h.symm⟩
 | t::ts,v::vs,j+1,y,h=>by
  simp only[iR,List.getElem?_cons_succ] at h
  obtain ⟨t',v',a,b,c⟩:=He h
  exact ⟨t',v',by simpa using a,by simpa using b,c⟩
theorem MI: ∀{ts:List TypeId} {vs:List Value},ts.length=vs.length→(iR P ts vs).length=vs.length
 | [],[],_=>rfl
 | [],_::_,h=>by simp at h
 | _::_,[],h=>by simp at h
 | t::ts,v::vs,h=>by simp[iR,MI (ts:=ts) (vs:=vs) (by simpa using h)]
theorem jW {e:TypeId} (h:cI P e=true): ∃i z,P.info? e=some i∧i.zero=some z∧i.size=P.cellsOf e∧z.cells.size=P.cellsOf e∧zeroCells P e=iR P (flat P e) z.cells.toList:=by
 unfold cI at h
 simp only[aK,aP,jJ] at h
 obtain ⟨h1,U,_,h3⟩:=h
 cases hi:P.info? e with
 | none=>rw[hi] at h3;cases h3
 | some i=>
  rw[hi] at h3
  simp only[Option.bind_some] at h3
  cases hz:i.zero with
  | none=>rw[hz] at h3;cases h3
  | some z=>
   rw[hz] at h3
   simp only[aP] at h3
   exact ⟨i,z,rfl,hz,by simp[Program.cellsOf,hi],h3,by simp[zeroCells,hi,hz]⟩
theorem MJ {e:TypeId} (h:cI P e=true): ∃i z,P.info? e=some i∧i.zero=some z∧z.cells.size=(zeroCells P e).length∧z.cells.size=P.cellsOf e∧
  ∀(j:Nat) v x,z.cells[j]? =some v→(zeroCells P e)[j]? =some x→ao P w I β hp v x:=by
 obtain ⟨i,z,h1,U,h3,h4,h5⟩:=jW h
 have hl:(flat P e).length=z.cells.toList.length:=by rw[(jT h).1];simpa using h4.symm
 refine ⟨i,z,h1,U,?_,h4,fun j v x hv hx=> ?_⟩
 ·rw[h5,MI hl];simp
 ·rw[h5] at hx
  obtain ⟨t,v',_,vD,rfl⟩:=He hx
  have:v'=v:=by
   have e1:z.cells[j]? =some v':=by simpa using vD
   rw[hv] at e1;exact (cX e1).symm
  subst this
  exact ao.const t v'
theorem mS {nb:Nat} {b:an} {v:V} {upd:List (Nat × an)} {r:R} {rd:List Nat} (h:(iS nb b v upd).run C hp=some (r,rd)):hp nb=none∧r=⟨v,(nb,b)::upd⟩:=by
 obtain ⟨l,h⟩:=run_get h
 cases hn:hp nb with
 | none=>rw[hn] at h;exact ⟨rfl,(aM h).symm⟩
 | some x=>rw[hn] at h;cases h
theorem MK (S:aF P w I β hp B M w0) {nb:Nat} {xs:List V} {C0:Array Value} {T:TypeId} (hn:hp nb=none) (hs:C0.size=xs.length)
  (hx: ∀(j:Nat) v x,C0[j]? =some v→xs[j]? =some x→ao P w I β hp v x) (fQ:Mc P w.heap.size T C0):
  Le P w I β hp (w.alloc (.cells C0 T)) I (aH β nb (some w.heap.size)) (aH hp nb (some (.var T xs)))∧aF P (w.alloc (.cells C0 T)) I (aH β nb (some w.heap.size)) (aH hp nb (some (.var T xs))) B M w0∧
  ao P (w.alloc (.cells C0 T)) I (aH β nb (some w.heap.size)) (aH hp nb (some (.var T xs))) (.pointer (some ⟨w.heap.size,0,none⟩)) (.ptr nb 0 0):=by
 obtain ⟨h1,U⟩:=GS S (blk:= .var T xs) (c:=C0) (T:=T) hn (fun b' h=>(cX (h.flat (by simp))).symm) (fun hle eE cH=> .var rfl eE hs cH (fun j v x a b=>(hx j v x a b).mono hle) fQ)
 refine ⟨h1,U,?_⟩
 have:=ao.ptr (P:=P) (w:=w.alloc (.cells C0 T)) (I:=I) (β:=aH β nb (some w.heap.size)) (hp:=aH hp nb (some (.var T xs))) (i:=0) (c:=0) (blk:= .var T xs) (cM _ _ _) (by simp) (cM _ _ _)
 simpa using this
theorem V7 (S:aF P w I β hp B M w0) {e:TypeId} {nb:Nat} {r:R} {rd:List Nat}
  (h:(Rd.aC (cI P e&&(!(oU P e)||L7 (zeroCells P e))) (iS nb (.var e (zeroCells P e)) (.ptr nb 0 0) [])).run C hp=some (r,rd)):cR P ((Instr.alloc e true (.tuple #[])).run P w) w I β hp B M w0 r:=by
 obtain ⟨au,h⟩:=aG h
 rw[aK] at au
 obtain ⟨au,lQ⟩:=au
 obtain ⟨hn,rfl⟩:=mS h
 obtain ⟨i,z,h1,U,h3,h4,h5⟩:=MJ (w:=w) (I:=I) (β:=β) (hp:=hp) au
 obtain ⟨a,b,c⟩:=MK S (T:=e) hn h3 h5 fun bL=>by
  rw[bL,pP,Bool.false_or] at lQ
  cases hz:zeroCells P e with
  | nil=>rw[hz] at lQ;cases lQ
  | cons y l=>
   rw[hz] at lQ h3 h5
   cases y<;>first|(cases lQ;done)|skip
   have aO:0<z.cells.size:=by rw[h3];simp
   have:=h5 0 z.cells[0] .df (kj aO) rfl
   left
   rw[kj aO]
   generalize z.cells[0]=u at this
   cases this;rfl
 exact ⟨_,_,_,_,by simp[Instr.alloc,zeroValue,typeInfo,h1,U,newVar,newRow],a,b,c⟩
theorem V8 (S:aF P w I β hp B M w0) {e:TypeId} {nb:Nat} {x:V} {v:Value} {r:R} {rd:List Nat} (hv:ao P w I β hp v x)
  (h:(Rd.aC (!(oU P e)) <| kW x.cells (iS nb (.var e x.cells) (.ptr nb 0 0) [])).run C hp=some (r,rd)):cR P ((Instr.box e v).run P w) w I β hp B M w0 r:=by
 obtain ⟨lQ,h⟩:=aG h
 obtain ⟨e1,e2⟩:=GY hv h
 obtain ⟨_,l,h⟩:=CT h (vs:=v.cells.toList) (by simpa using e1) (fun j u y a b=>e2 j u y (by simpa using a) b)
 obtain ⟨hn,rfl⟩:=mS h
 obtain ⟨a,b,c⟩:=MK S (T:=e) hn e1 e2 fun bL=>by rw[bL] at lQ;cases lQ
 exact ⟨_,_,_,_,by simp[Instr.box,newVar,newRow],a,b,c⟩
theorem foldl_set (off:Nat): ∀(vs:List Value) (k:Nat) (cs:Array Value) (i:Nat),off+k+vs.length≤cs.size→
  ((vs.zipIdx k).foldl (fun cs p=>cs.setIfInBounds (off+p.2) p.1) cs)[i]? =if i<off+k then cs[i]? else if i<off+k+vs.length then vs[i-(off+k)]? else cs[i]?
 | [],k,cs,i,h=>by simp;intro h1 U;omega
 | v::vs,k,cs,i,h=>by
  simp only[List.zipIdx_cons,List.foldl_cons]
  simp only[List.length_cons] at h⊢
  rw[foldl_set off vs (k+1) _ i (by simp;omega)]
  by_cases h1:i<off+k
  ·rw[aj (by omega),aj h1]
   rw[BX (by omega)]
  ·rw[ai h1]
   by_cases U:i=off+k
   ·subst U
    rw[aj (by omega),aj (by omega)]
    rw[Gg (by omega)]
    simp
   ·rw[ai (by omega)]
    by_cases h3:i<off+k+(vs.length+1)
    ·rw[aj (by omega),aj h3,show i-(off+k)=(i-(off+(k+1)))+1 by omega]
     simp
    ·rw[ai (by omega),ai h3,BX (by omega)]
theorem ML (off:Nat): ∀(vs:List Value) (k:Nat) (cs:Array Value),((vs.zipIdx k).foldl (fun cs p=>cs.setIfInBounds (off+p.2) p.1) cs).size=cs.size
 | [],k,cs=>rfl
 | v::vs,k,cs=>by
  simp only[List.zipIdx_cons,List.foldl_cons]
  rw[ML off vs (k+1)]
  simp
theorem MM {cells:Array Value} {off:Nat} {v:Value} (h:off+v.cells.size≤cells.size) (i:Nat):
  (v.cells.zipIdx.foldl (fun cs (p:Value × Nat)=>cs.setIfInBounds (off+p.2) p.1) cells)[i]? =if i<off then cells[i]? else if i<off+v.cells.size then v.cells[i-off]? else cells[i]? :=by
 have:=foldl_set off v.cells.toList 0 cells i (by simpa using h)
 rw[←BY]
 simpa[Array.toList_zipIdx] using this
theorem MN {cells:Array Value} {off:Nat} {v:Value}:(v.cells.zipIdx.foldl (fun cs (p:Value × Nat)=>cs.setIfInBounds (off+p.2) p.1) cells).size=cells.size:=by
 have:=ML off v.cells.toList 0 cells
 rw[←BY]
 simpa[Array.toList_zipIdx] using this
inductive vM (P:Program) (w:World) (I:Nat→Prop) (β:Nat→Option Nat) (hp:Nat→Option an):List (Nat × Value)→List (Nat × V)→Prop
 | nil:vM P w I β hp [] []
 | cons {i:Nat} {v:Value} {x:V} {vs:List (Nat × Value)} {xs:List (Nat × V)}:v.cells.size=x.cells.length→(∀(j:Nat) u y,v.cells[j]? =some u→x.cells[j]? =some y→ao P w I β hp u y)→
   vM P w I β hp vs xs→vM P w I β hp ((i,v)::vs) ((i,x)::xs)
theorem MO (place:Nat→Option (Nat × Nat)): ∀{vs:List (Nat × Value)} {px:List (Nat × V)} {cells:Array Value} {xs ys:List V},vM P w I β hp vs px→cells.size=xs.length→
  (∀(j:Nat) v x,cells[j]? =some v→xs[j]? =some x→ao P w I β hp v x)→s0 place xs px=some ys→
  ∃pc:Array Value,Instr.fill place cells vs=some pc∧pc.size=ys.length∧∀(j:Nat) v x,pc[j]? =some v→ys[j]? =some x→ao P w I β hp v x
 | _,_,cells,xs,ys,.nil,hs,hx,h=>by
  simp only[s0,dH] at h
  subst h
  exact ⟨cells,by simp[Instr.fill],hs,hx⟩
 | _,_,cells,xs,ys,@vM.cons _ _ _ _ _ i v x vs px h1 U h3,hs,hx,h=>by
  simp only[s0] at h
  cases bZ:place i with
  | none=>rw[bZ] at h;cases h
  | some os=>
   obtain ⟨off,size⟩:=os
   rw[bZ] at h
   simp only at h
   cases hc:(Nat.beq x.cells.length size&&Nat.ble (off+size) xs.length) with
   | false=>rw[hc] at h;cases h
   | true=>
    rw[hc] at h
    simp only[cond_true] at h
    simp only[aK,aP,di] at hc
    have hv:off+v.cells.size≤cells.size:=by omega
    have hb:off+x.cells.length≤xs.length:=by omega
    have hl:(ft xs off x.cells).length=xs.length:=za _ _ _ hb
    obtain ⟨pc,f1,f2,f3⟩:=MO place (cells:=v.cells.zipIdx.foldl (fun cs (p:Value × Nat)=>cs.setIfInBounds (off+p.2) p.1) cells) (xs:=ft xs off x.cells) h3 (by rw[MN,hl,hs])
     (fun j u y hu hy=>by
      rw[MM hv] at hu
      unfold ft at hy
      rw[mR _ _ _ _ hb] at hy
      by_cases j1:j<off
      ·rw[aj j1] at hu hy;exact hx j u y hu hy
      ·rw[ai j1] at hu hy
       by_cases j2:j<off+x.cells.length
       ·rw[aj (by omega)] at hu
        rw[aj j2] at hy
        exact U (j-off) u y hu hy
       ·rw[ai (by omega)] at hu
        rw[ai j2] at hy
        exact hx j u y hu hy) h
    refine ⟨pc,?_,f2,f3⟩
    simp only[Instr.fill,bZ]
    rw[ai (by simp;omega)]
    exact f1
theorem V9 {t:TypeId} {parts:Array (Nat × Value)} {cells:Array Value} {z:Value} {i:TypeInfo} (hi:P.info? t=some i) (hz:i.zero=some z) (h:Instr.fill (placeOf P t) z.cells parts.toList=some cells) (ha:bE P t=true)
  (bZ: ∀fs,P.underlying t=some (.struct fs)→(fs.toList.mapM fun f=>(P.info? f.type).map fun i=>(f.offset,i.size)).isSome=true) (qq: ∀n e,P.underlying t=some (.array n e)→(P.info? e).isSome=true):
  (Instr.build t parts).run P w= .ok (.agg cells) w:=by
 refine run_build w t parts cells ?_
 unfold Program.built
 unfold bE at ha
 rw[hi]
 split at ha
 ·rename_i fs hu
  have:=bZ fs hu
  cases hm:fs.toList.mapM fun f=>(P.info? f.type).map fun i=>(f.offset,i.size) with
  | none=>rw[hm] at this;cases this
  | some Gx=>
   simp only[hu,hz,hm]
   have hq:placeOf P t=fun i=>Gx[i]? :=by simp[placeOf,hu,hm]
   rw[hq] at h
   simpa using h
 ·rename_i n e hu
  have:=qq n e hu
  cases js:P.info? e with
  | none=>rw[js] at this;cases this
  | some ie=>
   simp only[hu,hz,js]
   have hq:placeOf P t=fun i=>some (i*ie.size,ie.size):=by simp[placeOf,hu,js]
   rw[hq] at h
   exact h
 ·cases ha
theorem MP {α:Type}: ∀(xs ys:List V) (k:Rd α),kW (xs++ys) k=kW xs (kW ys k)
 | [],_,_=>rfl
 | x::xs,ys,k=>by simp only[List.cons_append,kW,MP xs ys k]
theorem MQ {a:Act} {sl:Nat→V} (hs:kz P w I β hp a sl) {G:Nat→V} (hg:ga P G w I) (t:TypeId) {α:Type}: ∀{l:List (Nat × Operand)} {k:Rd α} {r:α} {rd:List Nat},
  (kW ((l.map fun p=>(aN P G t sl p.2).cells).flatten) k).run C hp=some (r,rd)→
  vM P w I β hp (l.map fun p=>(p.1,a.eval p.2)) (l.map fun p=>(p.1,aN P G t sl p.2))∧∃eF,k.run C hp=some (r,eF)
 | [],k,r,rd,h=>⟨.nil,rd,h⟩
 | (i,x)::l,k,r,rd,h=>by
  simp only[cF,List.flatten_cons,MP] at h
  obtain ⟨e1,e2⟩:=GY (hs.ev hg t x) h
  obtain ⟨_,l1,h⟩:=CT h (vs:=(a.eval x).cells.toList) (by simpa using e1) (fun j u y a b=>e2 j u y (by simpa using a) b)
  obtain ⟨h1,U⟩:=MQ hs hg t h
  exact ⟨.cons e1 e2 h1,U⟩
theorem Wa (S:aF P w I β hp B M w0) {a:Act} {sl:Nat→V} (hs:kz P w I β hp a sl) {G:Nat→V} (hg:ga P G w I) {t ty:TypeId} {ps:Array (Nat × Operand)} {r:R} {rd:List Nat}
  (h:(Rd.aC (cI P t&&(bE P t&&Cr P t)) (kW ((ps.toList.map fun p=>(aN P G ty sl p.2).cells).flatten)
   (vh (s0 (placeOf P t) (zeroCells P t) (ps.toList.map fun p=>(p.1,aN P G ty sl p.2))) fun cs=> .ret ⟨.agg cs,[]⟩))).run C hp=some (r,rd)):
  cR P ((Instr.build t (ps.map fun (i,x)=>(i,a.eval x))).run P w) w I β hp B M w0 r:=by
 obtain ⟨au,h⟩:=aG h
 simp only[aK] at au
 obtain ⟨h1,l,h⟩:=MQ hs hg ty h
 cases hf:s0 (placeOf P t) (zeroCells P t) (ps.toList.map fun p=>(p.1,aN P G ty sl p.2)) with
 | none=>rw[hf] at h;cases h
 | some cs=>
  rw[hf] at h
  obtain rfl:=aM h
  obtain ⟨i,z,hi,hz,h3,h4,h5⟩:=MJ (w:=w) (I:=I) (β:=β) (hp:=hp) au.1
  obtain ⟨cells,f1,f2,f3⟩:=MO (placeOf P t) h1 h3 h5 hf
  have MR:=au.2.2
  refine .same S (v:= .agg cells) (V9 hi hz (by simpa using f1) au.2.1 (fun fs hu=> ?_) (fun n e hu=> ?_)) (.agg f2 f3)
  ·simpa[Cr,hu] using MR
  ·simpa[Cr,hu] using MR
theorem Wb (cy: ∀id blk,hp id=some blk→dI P w I β hp (β id) blk) {x:V} {v:Value} {ys:List V} {fr:List (Nat × an)} {rd:List Nat} {ts:List TypeId} (hv:ao P w I β hp v x)
  (h:(rq P x.cells).run C hp=some ((ys,fr),rd)) (ht:pT P ts ys=true):
  v.cells.size=x.cells.length∧∀(j:Nat) u y,v.cells.toList[j]? =some u→x.cells[j]? =some y→ao P w I β hp u y:=by
 cases x with
 | agg xs=>
  obtain ⟨cs,rfl,h1,U⟩:=hv.kB
  exact ⟨h1,fun j u y a b=>U j u y (by simpa[Value.cells] using a) b⟩
 | _=>
  simp only[V.cells] at h⊢
  simp only[rq] at h
  obtain ⟨⟨y1,u1⟩,l3,l4,hq,h⟩:=kA h
  obtain ⟨q1,q2⟩:=CH cy hq hv
  obtain ⟨⟨y2,u2⟩,l5,l6,zi,h⟩:=kA h
  cases zi
  have:=aM h
  cases this
  obtain ⟨tl,tg⟩:=tq ht
  have fi:=tg 0 _ y1 (bB (by rw[tl];exact Nat.one_pos)) rfl
  have bZ:=q2 (iz P w I β hp u1) (fun _ h=> .inl h) (fun p hp b h=> .inr ⟨p,hp,h⟩)
  have ho:=bZ.pure fi
  have Hd:v.cells= #[v]:=by cases ho<;>rfl
  rw[Hd]
  refine ⟨rfl,fun j u y hu hy=> ?_⟩
  cases j with
  | zero=>simp at hu hy;subst hu;subst hy;exact hv
  | succ j=>simp at hy
def vN (P:Program) (w:World) (I:Nat→Prop) (e:TypeId) (cells:Array Value) (es:List V):Prop:=
 cells.size=es.length*P.cellsOf e∧∀(i j:Nat) (x:V) (t':TypeId),es[i]? =some x→(aR P e)[j]? =some t'→j<P.cellsOf e→∃v,cells[i*P.cellsOf e+j]? =some v∧Pure P w I t' v (bH P e x j)
theorem vN.set {e:TypeId} {cells:Array Value} {es ys:List V} {i:Nat} {v:Value} (h:vN P w I e cells es) (hi:i<es.length) (hv:v.cells.size=P.cellsOf e) (hy:ys.length=P.cellsOf e)
  (hr: ∀(j:Nat) (t':TypeId) (u:Value) (y:V),(aR P e)[j]? =some t'→v.cells[j]? =some u→ys[j]? =some y→Pure P w I t' u y):
  vN P w I e (v.cells.zipIdx.foldl (fun cs (p:Value × Nat)=>cs.setIfInBounds (i*P.cellsOf e+p.2) p.1) cells) (es.set i (cm P e ys)):=by
 obtain ⟨h1,U⟩:=h
 have hb:i*P.cellsOf e+v.cells.size≤cells.size:=by
  have:(i+1)*P.cellsOf e≤es.length*P.cellsOf e:=dp _ hi
  rw[db] at this
  omega
 refine ⟨by rw[MN,nH,h1],fun i' j x t' hx ht hj=> ?_⟩
 rw[MM hb]
 rw[List.getElem?_set] at hx
 by_cases iD:i=i'
 ·subst iD
  rw[aj rfl,aj hi] at hx
  cases hx
  rw[ai (by omega),aj (by omega),show i*P.cellsOf e+j-i*P.cellsOf e=j by omega]
  have h3:j<v.cells.size:=by omega
  have h4:j<ys.length:=by omega
  refine ⟨v.cells[j],kj h3,?_⟩
  rw[qj (bB h4) ht]
  exact hr j t' _ _ ht (kj h3) (bB h4)
 ·rw[ai iD] at hx
  have bz:i'*P.cellsOf e+j<i*P.cellsOf e∨i*P.cellsOf e+v.cells.size≤i'*P.cellsOf e+j:=by
   rcases oN i' i with aO|pb
   ·left
    have:(i'+1)*P.cellsOf e≤i*P.cellsOf e:=dp _ aO
    rw[db] at this
    omega
   ·right
    have:(i+1)*P.cellsOf e≤i'*P.cellsOf e:=dp _ (by omega)
    rw[db] at this
    omega
  rcases bz with bz|bz
  ·rw[aj bz];exact U i' j x t' hx ht hj
  ·rw[ai (by omega),ai (by omega)];exact U i' j x t' hx ht hj
theorem Wc {t':TypeId} {v:Value} (fi:eC P t' (vb (oT P t' v))=true):Pure P w I t' v (vb (oT P t' v)):=by
 have hc:=ao.const (P:=P) (w:=w) (I:=I) (β:=fun _=>none) (hp:=fun _=>none) t' v
 cases tx:oT P t' v<;>rw[tx] at fi hc<;>simp only[vb] at fi⊢
 case int k n=>rw[hc.dE];exact Plain.pure (v:= .int k n) (y:= .int k n) rfl fi
 case bool b=>rw[hc.jU];exact Plain.pure (v:= .bool b) (y:= .bool b) rfl fi
 case str l=>obtain ⟨s,e1,e2⟩:=hc.lP;rw[e1];exact Plain.pure (v:= .string s) (y:= .str l) ⟨s,rfl,e2⟩ fi
 case nilS e'=>
  cases hc
  exact Plain.pure (y:= .list e' []) (iv.any fun _=>rfl) fi
 case list e' es=>
  cases hc with
  | list hp=>exact Plain.pure (y:= .list e' es) hp fi
 all_goals (unfold eC at fi;split at fi<;>simp_all)
theorem zj {e:TypeId} (h:lI P e=true): ∃i z,P.info? e=some i∧i.zero=some z∧i.size=P.cellsOf e∧z.cells.size=P.cellsOf e∧
  ∀(j:Nat) (t':TypeId),(aR P e)[j]? =some t'→j<P.cellsOf e→∃v,z.cells[j]? =some v∧Pure P w I t' v (bH P e (cm P e (ek P e)) j):=by
 unfold lI at h
 simp only[aK] at h
 obtain ⟨i,z,h1,U,h3,h4,h5⟩:=jW h.1
 refine ⟨i,z,h1,U,h3,h4,fun j t' ht hj=> ?_⟩
 obtain ⟨tl,tg⟩:=tq h.2
 have b7:j<(ek P e).length:=by rw[←tl,(jT h.1).1];exact hj
 have hz:=bB b7
 have fi:=tg j t' _ (by rw[←rJ];exact ht) hz
 refine ⟨z.cells[j],kj (by omega),?_⟩
 rw[qj hz ht]
 have tz:(ek P e)[j]=vb (oT P t' z.cells[j]):=by
  have:(ek P e)[j]? =((zeroCells P e)[j]?).map vb:=by simp[ek]
  rw[hz] at this
  cases hc:(zeroCells P e)[j]? with
  | none=>rw[hc] at this;cases this
  | some y=>
   rw[hc] at this
   simp only[Option.map_some,dH] at this
   rw[h5] at hc
   obtain ⟨t2,v2,a1,a2,rfl⟩:=He hc
   have Wd:t2=t':=by
    rw[←rJ,ht] at a1;exact (cX a1).symm
   have qc:v2=z.cells[j]:=by
    have We:j<z.cells.size:=by omega
    have:z.cells.toList[j]? =some z.cells[j]:=by simp[We]
    rw[this] at a2;exact (cX a2).symm
   rw[this,Wd,qc]
 rw[tz] at fi⊢
 exact Wc fi
end
section
variable {P:Program} {w w':World} {I I':Nat→Prop} {β β':Nat→Option Nat} {hp hp':Nat→Option an} {C:ag} {B:Nat} {M:Nat→Prop} {w0:Start}
theorem vO (S:aF P w I β hp B M w0) {nb cap:Nat} {e:TypeId} {es:List V} {C0:Array Value} (au:cI P e=true) (hn:hp nb=none) (hs:C0.size=cap*P.cellsOf e) (hl:es.length≤cap) (hm:cap≤maxLen)
  (hx: ∀(i j:Nat) (x:V) (t':TypeId),es[i]? =some x→(aR P e)[j]? =some t'→j<P.cellsOf e→∃v,C0[i*P.cellsOf e+j]? =some v∧Pure P w I t' v (bH P e x j)):
  Le P w I β hp (w.alloc (.cells C0 e)) I (aH β nb (some w.heap.size)) (aH hp nb (some (.arr e es false)))∧aF P (w.alloc (.cells C0 e)) I (aH β nb (some w.heap.size)) (aH hp nb (some (.arr e es false))) B M w0∧
  ao P (w.alloc (.cells C0 e)) I (aH β nb (some w.heap.size)) (aH hp nb (some (.arr e es false))) (.slice (some ⟨w.heap.size,0,none⟩) es.length cap) (.whole e nb):=by
 obtain ⟨h1,U⟩:=GS S (blk:= .arr e es false) (c:=C0) (T:=e) hn (fun b' h=>(cX (h.flat (by simp))).symm) (fun hle eE cH=> .arr au rfl eE (by rw[hs];exact dp _ hl) (fun h=>by cases h) (fun _=>cH) fun i j x t' a b c=>by
  obtain ⟨v,hv,hp⟩:=hx i j x t' a b c
  exact ⟨v,hv,hp.mono hle.c7 hle.b6⟩)
 refine ⟨h1,U,.whole (cM _ _ _) (cM _ _ _) ?_ hl hm⟩
 rw[mN (heap_alloc_new w (.cells C0 e)),hs]
theorem At.only {b b':Nat} {e e':TypeId} {es aI:List V} {q:Path} (hz: ∀(i j:Nat) x t' e1 l,es[i]? =some x→(aR P e)[j]? =some t'→bH P e x j= .list e1 l→l=[])
  (h:At P w b e es q b' e' aI):q=[]∧b'=b∧e'=e∧aI=es:=by
 cases h with
 | here=>exact ⟨rfl,rfl,rfl,rfl⟩
 | step h1 U h3 h4 h5 h6=>have:=hz _ _ _ _ _ _ U h3 h5;subst this;simp at h6
theorem lO.p9 {t:TypeId} {v:Value} {x:V} (h:Pure P w I t v x) (hz: ∀e1 l,x= .list e1 l→l=[]):lO P w I t v x:=by
 cases h with
 | int h=>exact .fx (by unfold fu;rw[h]) (.int h)
 | bool h=>exact .fx (by unfold fu;rw[h]) (.bool h)
 | str h hl=>exact .fx (by unfold fu;rw[h]) (.str h hl)
 | nil h=>exact .emp h fun _=>rfl
 | emp h=>exact .emp h fun h=>by cases h
 | list g hu hl _ _ _ _=>
  have:=hz _ _ rfl
  subst this
  simp at hl
  subst hl
  exact .emp hu fun h=>by cases h
theorem Wf (S:aF P w I β hp B M w0) {nb cap:Nat} {e:TypeId} {es:List V} {C0:Array Value} (au:cI P e=true) (hn:hp nb=none) (hs:C0.size=cap*P.cellsOf e) (hl:es.length≤cap) (hm:cap≤maxLen)
  (hx: ∀(i j:Nat) (x:V) (t':TypeId),es[i]? =some x→(aR P e)[j]? =some t'→j<P.cellsOf e→∃v,C0[i*P.cellsOf e+j]? =some v∧Pure P w I t' v (bH P e x j))
  (hz: ∀(i j:Nat) x t' e1 l,es[i]? =some x→(aR P e)[j]? =some t'→bH P e x j= .list e1 l→l=[]):
  Le P w I β hp (w.alloc (.cells C0 e)) I (aH β nb (some w.heap.size)) (aH hp nb (some (.nest e es [0,0,0])))∧aF P (w.alloc (.cells C0 e)) I (aH β nb (some w.heap.size)) (aH hp nb (some (.nest e es [0,0,0]))) B M w0∧
  ao P (w.alloc (.cells C0 e)) I (aH β nb (some w.heap.size)) (aH hp nb (some (.nest e es [0,0,0]))) (.slice (some ⟨w.heap.size,0,none⟩) es.length cap) (.whole e nb):=by
 obtain ⟨h1,U⟩:=GS S (blk:= .nest e es [0,0,0]) (c:=C0) (T:=e) hn (fun b' h=>by
   cases h with
   | root _ h=>exact (cX h).symm
   | row h ha=>cases h;exact (At.only hz ha).2.1)
  (fun hle eE cH=> .nest rfl (fun q b' e' aI ha=>by
   obtain ⟨rfl,rfl,rfl,rfl⟩:=At.only hz ha
   refine ⟨au,⟨C0,eE,by rw[hs];exact dp _ hl,fun i j x t' a b c=> ?_⟩,cH⟩
   obtain ⟨v,hv,hp⟩:=hx i j x t' a b c
   exact ⟨v,hv,.p9 (hp.mono hle.c7 hle.b6) fun e1 l h=>hz i j x t' e1 l a b h⟩)
   fun q1 q2 b' e1 cf e2 bX a1 a2=>(At.only hz a1).1.trans (At.only hz a2).1.symm)
 refine ⟨h1,U,.ee (cM _ _ _) (cM _ _ _) ?_ hl hm⟩
 rw[mN (heap_alloc_new w (.cells C0 e)),hs]
theorem MS (cy: ∀id blk,hp id=some blk→dI P w I β hp (β id) blk) {a:Act} {sl:Nat→V} (hs:kz P w I β hp a sl) {G:Nat→V} (hg:ga P G w I) {e:TypeId} {len:Nat}: ∀{l:List (Nat × Operand)} {ps:List (Nat × V)} {upd:List (Nat × an)} {rd:List Nat},
  (yD P e len (l.map fun p=>(p.1,aN P G e sl p.2))).run C hp=some ((ps,upd),rd)→cI P e=true→(∀p∈upd,yW hp p)∧∀I':Nat→Prop,(∀b,I b→I' b)→(∀p∈upd,∀b,rI P w β hp p.1 b→I' b)→
   ∀(cells:Array Value) (es:List V),es.length=len→vN P w I' e cells es→∃pc,Instr.fill (fun i=>some (i*P.cellsOf e,P.cellsOf e)) cells (l.map fun p=>(p.1,a.eval p.2))=some pc∧vN P w I' e pc (yC es ps)∧(yC es ps).length=len
 | [],ps,upd,rd,h,_=>by
  cases h
  exact ⟨by simp,fun I' _ _ cells es hl he=>⟨cells,by simp[Instr.fill],he,hl⟩⟩
 | (i,x)::l,ps,upd,rd,h,au=>by
  simp only[cF,yD] at h
  obtain ⟨⟨ys,u1⟩,l1,l2,h1,h⟩:=kA h
  obtain ⟨hc,h⟩:=aG h
  obtain ⟨⟨ps',u2⟩,l3,l4,U,h⟩:=kA h
  have:=aM h
  cases this
  simp only[aK,jJ] at hc
  obtain ⟨hi,fi⟩:=hc
  obtain ⟨tl,tg⟩:=tq fi
  have vE:=hs.ev hg e x
  obtain ⟨v1,v2⟩:=Wb cy vE h1 fi
  obtain ⟨k1,k2,k3⟩:=GQ cy h1 (vs:=(a.eval x).cells.toList) (by simpa using v1) v2
  obtain ⟨m1,m2⟩:=MS cy hs hg U au
  refine ⟨fun p hp=> ?_,fun I' i1 i2 cells es hl he=> ?_⟩
  ·rcases ej.1 hp with h|h
   ·exact k2 p h
   ·exact m1 p h
  ·have bZ:=k3 I' i1 (fun p hp=>i2 p (ej.2 (.inl hp)))
   have aU:=(jT au).1
   have tv:ys.length=P.cellsOf e:=by rw[←tl,aU]
   have Mx:(a.eval x).cells.size=P.cellsOf e:=by rw[v1,←k1,tv]
   have gE:=he.set (i:=i) (ys:=ys) (by omega) Mx tv (fun j t' u y ht hu hy=>by
    exact (bZ j u y (by simpa using hu) hy).pure (tg j t' y (by rw[←rJ];exact ht) hy))
   obtain ⟨pc,f1,f2,f3⟩:=m2 I' i1 (fun p hp=>i2 p (ej.2 (.inr hp))) _ (es.set i (cm P e ys)) (by simpa using hl) gE
   refine ⟨pc,?_,f2,f3⟩
   have hb:i*P.cellsOf e+P.cellsOf e≤cells.size:=by
    rw[he.1,hl]
    have:(i+1)*P.cellsOf e≤len*P.cellsOf e:=dp _ hi
    rw[db] at this
    omega
   simp only[cF,Instr.fill]
   rw[ai (by simp;omega)]
   exact f1
theorem MT {z:Array Value} {n k:Nat} (hk:k<n) (hz:0<z.size):((Array.range n).map (z[· %z.size]!))[k]? =z[k %z.size]? :=by
 have hm:k %z.size<z.size:=Nat.mod_lt _ hz
 simp[hk,hm]
theorem C7 {e:TypeId} (h:lI P e=true) {i:TypeInfo} {z:Value} (hi:P.info? e=some i) (hz:i.zero=some z) (n m:Nat) (kU:n≤m):
  ∀(k j:Nat) (x:V) (t':TypeId),(List.replicate n (cm P e (ek P e)))[k]? =some x→(aR P e)[j]? =some t'→j<P.cellsOf e→
   ∃v,((Array.range (m*P.cellsOf e)).map (z.cells[· %z.cells.size]!))[k*P.cellsOf e+j]? =some v∧Pure P w I t' v (bH P e x j):=by
 intro k j x t' hx ht hj
 obtain ⟨i2,z2,h1,U,h3,h4,h5⟩:=zj (w:=w) (I:=I) h
 rw[hi] at h1;cases h1
 rw[hz] at U;cases U
 rw[List.getElem?_replicate] at hx
 split at hx
 ·rename_i hk
  cases hx
  obtain ⟨v,hv,hp⟩:=h5 j t' ht hj
  refine ⟨v,?_,hp⟩
  have hb:k*P.cellsOf e+j<m*P.cellsOf e:=by
   have:(k+1)*P.cellsOf e≤m*P.cellsOf e:=dp _ (by omega)
   rw[db] at this
   omega
  rw[MT hb (by omega),h4,show (k*P.cellsOf e+j) %P.cellsOf e=j by rw[nJ,Nat.mul_add_mod];exact Nat.mod_eq_of_lt hj]
  exact hv
 ·cases hx
theorem Wg {P:Program} (w:World) (t e:TypeId) (len:Nat) (parts:Array (Nat × Value)) (cells:Array Value) (ie:TypeInfo) (z:Value)
  (hu:P.underlying t=some (.slice e)) (js:P.info? e=some ie) (hz:ie.zero=some z) (Wh: ¬len*ie.size>2^24)
  (h:Instr.fill (fun i=>some (i*ie.size,ie.size)) ((Array.range (len*ie.size)).map (z.cells[· %z.cells.size]!)) parts.toList=some cells):
  (Instr.buildSlice t len parts).run P w= .ok (.slice (some ⟨w.heap.size,0,none⟩) len len) (w.alloc (.cells cells e)):=by
 by_cases kU:len*ie.size=0
 ·have h0: ∀g:Nat→Value,(Array.range (len*ie.size)).map g= #[]:=by intro g;exact Array.eq_empty_of_size_eq_zero (by simp[kU])
  have hp: ∀(u:Array Value),(Pure.pure u:Sem (Array Value)).run P w= .ok u w:=fun _=>rfl
  rw[h0] at h
  simp only[Instr.buildSlice,Sem.run_bind,run_underlying hu,Result.andThen_ok,sizeOf,typeInfo,js]
  have h1:(Array.range (len*ie.size)).map (fun _:Nat=>(default:Value))= #[]:=h0 _
  have hs: ¬16777216<len*ie.size:=by omega
  simp[js,hs,kU]
  simp only[kU] at h1
  simp[h1,h,newRow]
 ·exact run_buildSlice w t e len parts cells ie z hu js hz Wh kU h
theorem Wi (S:aF P w I β hp B M w0) {a:Act} {sl:Nat→V} (hs:kz P w I β hp a sl) {G:Nat→V} (hg:ga P G w I) {t e:TypeId} {len nb:Nat} {ps:Array (Nat × Operand)} {r:R} {rd:List Nat} (hu:P.underlying t=some (.slice e))
  (h:(Rd.aC (lI P e&&Nat.ble (len*P.cellsOf e) (2^24)) ((yD P e len (ps.toList.map fun p=>(p.1,aN P G e sl p.2))).bind fun r=>
    iS nb (.arr e (yC (List.replicate len (cm P e (ek P e))) r.1) false) (.whole e nb) r.2)).run C hp=some (r,rd)):
  cR P ((Instr.buildSlice t len (ps.map fun (i,x)=>(i,a.eval x))).run P w) w I β hp B M w0 r:=by
 obtain ⟨hc,h⟩:=aG h
 simp only[aK,di] at hc
 obtain ⟨cJ,rE⟩:=hc
 have au:cI P e=true:=by
  unfold lI at cJ;simp only[aK] at cJ;exact cJ.1
 obtain ⟨⟨pv,upd⟩,l1,l2,h1,h⟩:=kA h
 obtain ⟨hn,rfl⟩:=mS h
 obtain ⟨m1,m2⟩:=MS S.h.rel hs hg h1 au
 obtain ⟨qn,S1⟩:=y4 S m1
 obtain ⟨i,z,hi,hz,h3,h4,_⟩:=zj (w:=w) (I:=I) cJ
 have k9:=(jT au).2
 have h0:vN P w (iz P w I β hp upd) e ((Array.range (len*P.cellsOf e)).map (z.cells[· %z.cells.size]!)) (List.replicate len (cm P e (ek P e))):=
  ⟨by simp,C7 cJ hi hz len len (bW _)⟩
 obtain ⟨cells,f1,f2,f3⟩:=m2 (iz P w I β hp upd) (fun _ h=> .inl h) (fun p hp b h=> .inr ⟨p,hp,h⟩) _ _ (by simp) h0
 have jX:bG hp upd nb=none:=by
  rcases ti (hp:=hp) (l:=upd) (id:=nb) with h|⟨b',hm,_⟩
  ·exact h.trans hn
  ·obtain ⟨e1,cf,_,h5⟩:=m1 _ hm
   simp only[hn] at h5
   rcases h5 with ⟨_,h5⟩|⟨_,h5⟩<;>cases h5
 have nV:len≤maxLen:=by
  have:len*1≤len*P.cellsOf e:=sR _ k9
  simp only[maxLen]
  omega
 obtain ⟨n1,n2,n3⟩:=vO S1 (cap:=len) au jX (by rw[f2.1,f3]) (by rw[f3];exact bW _) nV f2.2
 have cN:=Wg w t e len (ps.map fun (i,x)=>(i,a.eval x)) cells i z hu hi hz (by rw[h3];omega) (by rw[h3];simpa using f1)
 refine ⟨_,_,_,_,cN,qn.trans n1,n2,?_⟩
 rw[f3] at n3
 exact n3
theorem MU (S:aF P w I β hp B M w0) {t e:TypeId} {nb:Nat} {kl kc:IntKind} {n m:Int} {r:R} {rd:List Nat} (hu:P.underlying t=some (.slice e))
  (h:(Rd.aC (lI P e&&(decide (0≤n)&&(decide (n≤m)&&Nat.ble (m.toNat*P.bytesOf e) bS)))
    (iS nb (.arr e (List.replicate n.toNat (cm P e (ek P e))) false) (.whole e nb) [])).run C hp=some (r,rd)):
  cR P ((Instr.makeSlice t (.int kl n) (.int kc m)).run P w) w I β hp B M w0 r:=by
 obtain ⟨hc,h⟩:=aG h
 simp only[aK,di,dR] at hc
 obtain ⟨cJ,h0,kU,dF⟩:=hc
 have au:cI P e=true:=by
  unfold lI at cJ;simp only[aK] at cJ;exact cJ.1
 obtain ⟨hn,rfl⟩:=mS h
 obtain ⟨i,z,hi,hz,h3,h4,_⟩:=zj (w:=w) (I:=I) cJ
 have lS:P.bytesOf e=i.bytes:=by simp[Program.bytesOf,hi]
 have Hf:m≤9223372036854775807:=by
  have h1:m.toNat*1≤m.toNat*P.bytesOf e:=sR _ (vr au)
  simp only[bS] at dF
  omega
 have cN:=run_make (P:=P) w t e i z hu hi hz kl kc n m h0 kU (by
  rw[lS] at dF
  simp only[bS] at dF
  have:(i.bytes:Int)*m=((m.toNat*i.bytes:Nat):Int):=by
   rw[Int.natCast_mul,Int.toNat_of_nonneg (by omega),Int.mul_comm]
  rw[this]
  omega) Hf
 have hlen:(List.replicate n.toNat (cm P e (ek P e))).length=n.toNat:=by simp
 obtain ⟨n1,n2,n3⟩:=vO S (cap:=m.toNat) (es:=List.replicate n.toNat (cm P e (ek P e))) (C0:=madeCells z.cells (m.toNat*i.size)) au hn (by rw[size_madeCells,h3]) (by rw[hlen];omega) (by simp only[maxLen];omega)
  (by rw[h3];exact C7 cJ hi hz n.toNat m.toNat (by omega))
 refine ⟨_,_,_,_,cN,n1,n2,?_⟩
 rw[hlen] at n3
 exact n3
theorem Hg: ∀{l:List V} {j:Nat} {e1:TypeId} {k:List V},yM l=true→V.nth l j= .list e1 k→k=[]
 | [],j,e1,k,_,h=>by cases j<;>cases h
 | x::l,0,e1,k,hn,h=>by
  simp only[V.nth] at h
  subst h
  cases k with
  | nil=>rfl
  | cons _ _=>cases hn
 | x::l,j+1,e1,k,hn,h=>by
  refine Hg (l:=l) (j:=j) ?_ h
  cases x with
  | list e2 k2=>
   cases k2 with
   | nil=>exact hn
   | cons _ _=>cases hn
  | _=>exact hn
theorem Wj {e:TypeId} {n:Nat} (au:cI P e=true) (h:yM (ek P e)=true):
  ∀(i j:Nat) x t' e1 l,(List.replicate n (cm P e (ek P e)))[i]? =some x→(aR P e)[j]? =some t'→bH P e x j= .list e1 l→l=[]:=by
 intro i j x t' e1 l hx ht hl
 have:=List.eq_of_mem_replicate (jg hx)
 subst this
 unfold bH cm at hl
 cases ha:bE P e with
 | true=>rw[ha] at hl;exact Hg h hl
 | false=>rw[ha] at hl;exact Hg h hl
theorem Wk (S:aF P w I β hp B M w0) {t e:TypeId} {nb:Nat} {kl kc:IntKind} {n m:Int} {r:R} {rd:List Nat} (hu:P.underlying t=some (.slice e))
  (h:(Rd.aC (lI P e&&(decide (0≤n)&&(decide (n≤m)&&Nat.ble (m.toNat*P.bytesOf e) bS)))
    (Rd.aC (yM (ek P e)) (iS nb (.nest e (List.replicate n.toNat (cm P e (ek P e))) [0,0,0]) (.whole e nb) []))).run C hp=some (r,rd)):
  cR P ((Instr.makeSlice t (.int kl n) (.int kc m)).run P w) w I β hp B M w0 r:=by
 obtain ⟨hc,h⟩:=aG h
 simp only[aK,di,dR] at hc
 obtain ⟨cJ,h0,kU,dF⟩:=hc
 have au:cI P e=true:=by
  unfold lI at cJ;simp only[aK] at cJ;exact cJ.1
 obtain ⟨Wl,h⟩:=aG h
 obtain ⟨hn,rfl⟩:=mS h
 obtain ⟨i,z,hi,hz,h3,h4,_⟩:=zj (w:=w) (I:=I) cJ
 have lS:P.bytesOf e=i.bytes:=by simp[Program.bytesOf,hi]
 have Hf:m≤9223372036854775807:=by
  have h1:m.toNat*1≤m.toNat*P.bytesOf e:=sR _ (vr au)
  simp only[bS] at dF
  omega
 have cN:=run_make (P:=P) w t e i z hu hi hz kl kc n m h0 kU (by
  rw[lS] at dF
  simp only[bS] at dF
  have:(i.bytes:Int)*m=((m.toNat*i.bytes:Nat):Int):=by
   rw[Int.natCast_mul,Int.toNat_of_nonneg (by omega),Int.mul_comm]
  rw[this]
  omega) Hf
 have hlen:(List.replicate n.toNat (cm P e (ek P e))).length=n.toNat:=by simp
 obtain ⟨n1,n2,n3⟩:=Wf S (cap:=m.toNat) (es:=List.replicate n.toNat (cm P e (ek P e))) (C0:=madeCells z.cells (m.toNat*i.size)) au hn (by rw[size_madeCells,h3]) (by rw[hlen];omega) (by simp only[maxLen];omega)
  (by rw[h3];exact C7 cJ hi hz n.toNat m.toNat (by omega))
  (Wj au Wl)
 refine ⟨_,_,_,_,cN,n1,n2,?_⟩
 rw[hlen] at n3
 exact n3
theorem Pure.one {t:TypeId} {v:Value} {x:V} (h:Pure P w I t v x):v.oneCell'=true:=by cases h<;>rfl
structure Row (P:Program) (w:World) (I:Nat→Prop) (e:TypeId) (v:Value) (xs:List V) (a:Addr) (c:Nat) (news:List Value):Prop where
 val:v= .slice (some a) xs.length c
 len:news.length=xs.length*P.cellsOf e
 cell: ∀(j:Nat) u,news[j]? =some u→w.cell? (a.add j)=some u
 el: ∀(i j:Nat) (x:V) (t':TypeId),xs[i]? =some x→(aR P e)[j]? =some t'→j<P.cellsOf e→∃u,news[i*P.cellsOf e+j]? =some u∧Pure P w I t' u (bH P e x j)
theorem Row.one {e:TypeId} {v:Value} {xs:List V} {a:Addr} {c:Nat} {news:List Value} (h:Row P w I e v xs a c news) (au:cI P e=true): ∀u∈news,u.oneCell'=true:=by
 intro u hu
 obtain ⟨k,hk⟩:=ri hu
 have hU:=(bt.1 hk).1
 have k9:=(jT au).2
 rw[h.len] at hU
 have hi:k/P.cellsOf e<xs.length:=Nat.div_lt_of_lt_mul (by rw[nJ];exact hU)
 have hj:k %P.cellsOf e<P.cellsOf e:=Nat.mod_lt _ k9
 have gj:k %P.cellsOf e<(aR P e).length:=by rw[fh au];exact hj
 obtain ⟨u',fA,hp⟩:=h.el (k/P.cellsOf e) (k %P.cellsOf e) _ _ (bB hi) (bB gj) hj
 rw[Nat.div_add_mod'] at fA
 rw[hk] at fA
 cases fA
 exact hp.one
theorem MV {e:TypeId} {es:List V} {b:Nat} {Ca:Array Value} {off len cap o:Nat} (hh:w.heap[b]? =some (.cells Ca e (0,0))) (hs:es.length*P.cellsOf e≤Ca.size)
  (hx: ∀(i j:Nat) (x:V) (t':TypeId),es[i]? =some x→(aR P e)[j]? =some t'→j<P.cellsOf e→∃v,Ca[i*P.cellsOf e+j]? =some v∧Pure P w I t' v (bH P e x j))
  (ky:off+len≤es.length) (ho:0<len→o=off*P.cellsOf e):
  Row P w I e (.slice (some ⟨b,o,none⟩) len cap) ((es.drop off).take len) ⟨b,o,none⟩ cap ((Ca.toList.drop (off*P.cellsOf e)).take (len*P.cellsOf e)):=by
 have hlen:((es.drop off).take len).length=len:=by simp;omega
 have hb:(off+len)*P.cellsOf e≤Ca.size:=lH (dp _ ky) hs
 rw[db] at hb
 refine ⟨by rw[hlen],by rw[hlen];simp;omega,fun j u hj=> ?_,fun i j x t' gh ht hj=> ?_⟩
 ·have b7:=(bt.1 hj).1
  have Hh:j<len*P.cellsOf e:=by
   rw[eL] at b7;omega
  have jo:0<len:=by
   rcases Nat.eq_zero_or_pos len with h|h
   ·rw[h] at Hh;simp at Hh
   ·exact h
  rw[eK Hh,gP] at hj
  rw[mQ,cell?_cells hh,ho jo]
  simpa using hj
 ·have hi:i<len:=by rw[←hlen];exact (bt.1 gh).1
  rw[eK hi,gP] at gh
  obtain ⟨u,hu,hp⟩:=hx (off+i) j x t' gh ht hj
  refine ⟨u,?_,hp⟩
  have:i*P.cellsOf e+j<len*P.cellsOf e:=by
   have:(i+1)*P.cellsOf e≤len*P.cellsOf e:=dp _ hi
   rw[db] at this
   omega
  rw[eK this,gP]
  rw[db] at hu
  rw[←nG]
  simpa using hu
theorem C8 (cy: ∀id blk,hp id=some blk→dI P w I β hp (β id) blk) {e:TypeId} {v:Value} {x:V} {k:List V→Rd R} {r:R} {rd:List Nat} (au:cI P e=true) (hv:ao P w I β hp v x)
  (h:(ry e x k).run C hp=some (r,rd)): ∃xs,(((∃a,v= .slice a 0 0)∧xs=[])∨∃a c news,Row P w I e v xs a c news)∧∃l,(k xs).run C hp=some (r,l):=by
 cases hv with
 | list hp'=>
  obtain ⟨hc,U⟩:=aG h
  clear h
  rw[aP] at hc
  subst hc
  cases hp' with
  | nil=>exact ⟨[],.inl ⟨⟨_,rfl⟩,rfl⟩,rd,U⟩
  | @emp a cap=>exact ⟨[],.inr ⟨a,cap,[],⟨rfl,by simp,fun j u hj=>by simp at hj,fun i j x t' hx _ _=>by simp at hx⟩⟩,rd,U⟩
  | @list b o len cap es g hl bY hI fP hx=>
   refine ⟨_,.inr ⟨⟨b,o,none⟩,cap,(List.range (len*P.cellsOf e)).map fun k=>g (k/P.cellsOf e) (k %P.cellsOf e),⟨by rw[hl],by rw[hl];simp,fun j u hj=> ?_,fun i j x t' gh ht hj=> ?_⟩⟩,rd,U⟩
   ·obtain ⟨b7,hG⟩:=bt.1 hj
    simp at b7 hG
    have k9:=(jT au).2
    have hi:j/P.cellsOf e<len:=Nat.div_lt_of_lt_mul (by rw[nJ];exact b7)
    have fR:j %P.cellsOf e<P.cellsOf e:=Nat.mod_lt _ k9
    rw[mQ,←hG]
    have:=fP (j/P.cellsOf e) (j %P.cellsOf e) hi fR
    rwa [Nat.div_add_mod'] at this
   ·have hi:i<len:=by rw[←hl];exact (bt.1 gh).1
    have hb:i*P.cellsOf e+j<len*P.cellsOf e:=by
     have:(i+1)*P.cellsOf e≤len*P.cellsOf e:=dp _ hi
     rw[db] at this
     omega
    refine ⟨g i j,?_,hx i j x t' gh ht⟩
    have e1:(i*P.cellsOf e+j)/P.cellsOf e=i:=by
     rw[nJ,Nat.mul_add_div (jT au).2,Nat.div_eq_of_lt hj,Nat.add_zero]
    have e2:(i*P.cellsOf e+j) %P.cellsOf e=j:=by
     rw[nJ,Nat.mul_add_mod];exact Nat.mod_eq_of_lt hj
    simp[hb,e1,e2]
 | nilS=>
  obtain ⟨hc,h⟩:=aG h
  exact ⟨[],.inl ⟨⟨_,rfl⟩,rfl⟩,rd,h⟩
 | dt ab hb=>
  obtain ⟨l,h⟩:=run_get h
  simp only[ab] at h
  obtain ⟨hc,h⟩:=aG h
  exact ⟨[],.inl ⟨⟨_,rfl⟩,rfl⟩,l,h⟩
 | @whole e' id es fz b cap ab hb aU bY hm=>
  obtain ⟨l,h⟩:=run_get h
  simp only[ab] at h
  obtain ⟨hc,U⟩:=aG h
  clear h
  simp only[aK,aP] at hc
  obtain ⟨rfl,_⟩:=hc
  have hr:=cy _ _ ab
  cases hr with
  | dv aA=>rw[aA] at hb;cases hb
  | arr GX aA hh hs hf dW hx=>
   rw[hb] at aA;cases aA
   have:=MV (cap:=cap) (off:=0) (len:=es.length) (o:=0) hh hs hx (by omega) (fun _=>by simp)
   exact ⟨es,.inr ⟨_,_,_,by simpa using this⟩,l,U⟩
 | fy ab hb=>
  obtain ⟨l,h⟩:=run_get h
  simp only[ab] at h
  obtain ⟨hc,h⟩:=aG h
  exact ⟨[],.inl ⟨⟨_,rfl⟩,rfl⟩,l,by simpa using h⟩
 | @sub e' id off len es fz b o cap ab hb ky bY ho=>
  obtain ⟨l,h⟩:=run_get h
  simp only[ab] at h
  obtain ⟨hc,U⟩:=aG h
  clear h
  simp only[aK,aP] at hc
  obtain ⟨rfl,_⟩:=hc
  have hr:=cy _ _ ab
  cases hr with
  | dv aA=>rw[aA] at hb;cases hb
  | arr GX aA hh hs hf dW hx=>
   rw[hb] at aA;cases aA
   exact ⟨_,.inr ⟨_,_,_,MV (cap:=cap) hh hs hx ky ho⟩,l,U⟩
 | dV ab=>
  obtain ⟨l,h⟩:=run_get h
  simp only[ab] at h
  cases h
 | fO ab=>
  obtain ⟨l,h⟩:=run_get h
  simp only[ab] at h
  cases h
 | undef=>cases h
 | int=>cases h
 | bool=>cases h
 | str=>cases h
 | agg=>cases h
 | bd=>cases h
 | df=>cases h
 | fn=>cases h
 | pref=>cases h
 | jR=>cases h
 | ptr=>cases h
 | jl=>cases h
 | jm=>cases h
 | row=>cases h
 | cw=>cases h
 | dj=>cases h
 | gZ=>cases h
 | cl=>cases h
 | ee ab=>
  obtain ⟨l,h⟩:=run_get h
  simp only[ab] at h
  cases h
theorem MW {t ty e:TypeId} {i:TypeInfo} (ht:P.underlying t=some (.slice e)) (hi:P.info? e=some i) (a:Option Addr) (n cap:Nat) (x:Value) (hx: ∃a c,x= .slice a 0 c) (hn:n≤cap):
  (Builtin.append_ #[t,t] ty #[.slice a n cap,x]).run P w= .ok (.slice a n cap) w:=by
 obtain ⟨a',c,rfl⟩:=hx
 cases a' with
 | none=>cases a<;>simp[Builtin.append_,run_underlying ht,sizeOf,typeInfo,hi,Builtin.lenOf,Builtin.firstCells,hn,storeCells]
 | some a'=>cases a<;>simp[Builtin.append_,run_underlying ht,sizeOf,typeInfo,hi,Builtin.lenOf,Builtin.firstCells,hn,storeCells,loadCells,loadCellsFrom]
theorem C9 {e:TypeId} {es xs:List V} {n:Nat} {c:List Value} {news:List Value} (hn:es.length=n)
  (h1: ∀(i j:Nat) (x:V) (t':TypeId),es[i]? =some x→(aR P e)[j]? =some t'→j<P.cellsOf e→∃v,c[i*P.cellsOf e+j]? =some v∧Pure P w I t' v (bH P e x j))
  (U: ∀(i j:Nat) (x:V) (t':TypeId),xs[i]? =some x→(aR P e)[j]? =some t'→j<P.cellsOf e→∃v,news[i*P.cellsOf e+j]? =some v∧Pure P w I t' v (bH P e x j))
  (hb:n*P.cellsOf e≤c.length) (rest:List Value):
  ∀(i j:Nat) (x:V) (t':TypeId),(es++xs)[i]? =some x→(aR P e)[j]? =some t'→j<P.cellsOf e→∃v,(c.take (n*P.cellsOf e)++news++rest)[i*P.cellsOf e+j]? =some v∧Pure P w I t' v (bH P e x j):=by
 intro i j x t' hx ht hj
 have hl:(c.take (n*P.cellsOf e)).length=n*P.cellsOf e:=by simp;omega
 by_cases hi:i<n
 ·rw[ij (by omega)] at hx
  obtain ⟨v,hv,hp⟩:=h1 i j x t' hx ht hj
  have:i*P.cellsOf e+j<n*P.cellsOf e:=by
   have:(i+1)*P.cellsOf e≤n*P.cellsOf e:=dp _ hi
   rw[db] at this
   omega
  exact ⟨v,by rw[cj,ij (by omega),eK this];exact hv,hp⟩
 ·rw[ik (by omega),hn] at hx
  obtain ⟨v,hv,hp⟩:=U (i-n) j x t' hx ht hj
  have gF:i-n<xs.length:=(bt.1 hx).1
  have e1:i*P.cellsOf e+j-n*P.cellsOf e=(i-n)*P.cellsOf e+j:=by
   rw[Nat.sub_mul]
   have:n*P.cellsOf e≤i*P.cellsOf e:=dp _ (by omega)
   omega
  have h3:(i-n)*P.cellsOf e+j<news.length:=(bt.1 hv).1
  refine ⟨v,?_,hp⟩
  have h4:n*P.cellsOf e≤i*P.cellsOf e+j:=by
   have:n*P.cellsOf e≤i*P.cellsOf e:=dp _ (by omega)
   omega
  rw[cj,ik (by omega),hl,e1,ij h3]
  exact hv
theorem Pure.drew {t:TypeId} {v:Value} {x:V} (h:Pure P w I t v x):Pure P w.drew I t v x:=Pure.mono (w:=w) (w':=w.drew) (fun _ h=>h) (fun _ _=>rfl) h
theorem Wm (w:World) (t ty e:TypeId) (i:TypeInfo) (z:Value) (ht:P.underlying t=some (.slice e)) (hi:P.info? e=some i) (hz:i.zero=some z)
  (a0:Option Addr) (a:Addr) (n c:Nat) (news:List Value) (hl:news.length=n*i.size) (Db: ∀j v,news[j]? =some v→w.cell? (a.add j)=some v)
  (h0:0<n) (Dc:(n:Int)≤9223372036854775807) (Dd:n*i.bytes≤281474976710656):
  (Builtin.append_ #[t,t] ty #[.slice a0 0 0,.slice (some a) n c]).run P w=
   .ok (.slice (some ⟨w.heap.size,0,none⟩) n (grownCap w n 0 e)) (w.drew.alloc (.cells (news.toArray++Builtin.zeroCells z.cells (grownCap w n 0 e-n)) e)):=by
 cases a0 with
 | none=>exact run_append_nil w t ty e i z ht hi hz a n c news hl Db h0 Dc Dd
 | some b=>
  have:=run_append_grow (P:=P) w t ty e i z ht hi hz b 0 0 [] (by simp) (by simp) a n c news hl Db (by omega) (by omega) (by rw[gx,nextslicecap_zero h0];omega)
  simpa using this
theorem Hi (S:aF P w I β hp B M w0) {t ty e:TypeId} {nb:Nat} {x:Value} {xs:List V} (hu:P.underlying t=some (.slice e)) (au:cI P e=true) (hn:hp nb=none)
  (dF:xs.length*P.bytesOf e≤bS) {a0:Option Addr} (hx:((∃a,x= .slice a 0 0)∧xs=[])∨∃a c news,Row P w I e x xs a c news):
  ∃v w' β',(Builtin.append_ #[t,t] ty #[.slice a0 0 0,x]).run P w= .ok v w'∧Le P w I β hp w' I β' (aH hp nb (some (.arr e xs false)))∧aF P w' I β' (aH hp nb (some (.arr e xs false))) B M w0∧
   ao P w' I β' (aH hp nb (some (.arr e xs false))) v (.whole e nb):=by
 obtain ⟨i,z,hi,hz,h3,h4,_⟩:=jW au
 have tA:=vr au
 have lS:P.bytesOf e=i.bytes:=by simp[Program.bytesOf,hi]
 have hlen:xs.length≤2^45:=by
  have:xs.length*1≤xs.length*P.bytesOf e:=sR _ tA
  simp only[bS] at dF
  omega
 have empty:xs=[]→(∃a c,x= .slice a 0 c)→∃v w' β',(Builtin.append_ #[t,t] ty #[.slice a0 0 0,x]).run P w= .ok v w'∧Le P w I β hp w' I β' (aH hp nb (some (.arr e xs false)))∧aF P w' I β' (aH hp nb (some (.arr e xs false))) B M w0∧
   ao P w' I β' (aH hp nb (some (.arr e xs false))) v (.whole e nb):=by
  intro gk Hj
  subst gk
  obtain ⟨a1,a2⟩:=CJ S e hn
  exact ⟨_,_,_,MW hu hi a0 0 0 x Hj (bW _),a1,a2,.dt (cM _ _ _) (cM _ _ _)⟩
 rcases hx with ⟨⟨_,rfl⟩,rfl⟩|⟨a,c,news,hr⟩
 ·exact empty rfl ⟨_,_,rfl⟩
 ·by_cases h0:xs.length=0
  ·have gk:xs=[]:=kR h0
   refine empty gk ⟨some a,c,?_⟩
   rw[hr.val,h0]
  ·have cN:=Wm (P:=P) w t ty e i z hu hi hz a0 a xs.length c news (by rw[hr.len,h3]) hr.cell (by omega) (by omega) (by rw[←lS];simp only[bS] at dF;omega)
   have pb:=grownCap_ge w xs.length 0 e
   have tB:grownCap w xs.length 0 e≤maxLen:=grownCap_le_maxLen w xs.length 0 e (by simp only[maxLen];omega)
   obtain ⟨n1,n2,n3⟩:=vO S.drew (nb:=nb) (cap:=grownCap w xs.length 0 e) (es:=xs) (C0:=news.toArray++Builtin.zeroCells z.cells (grownCap w xs.length 0 e-xs.length)) au hn
    (by simp only[BZ,pO,size_zeroCells,h4,hr.len,←db];congr 1;omega) pb tB
    (fun i' j y t' hy ht hj=>by
     obtain ⟨u,fA,hp⟩:=hr.el i' j y t' hy ht hj
     have aO:=(bt.1 fA).1
     refine ⟨u,?_,Pure.drew hp⟩
     rw[Array.getElem?_append_left (by simpa using aO)]
     simpa using fA)
   rw[hr.val]
   exact ⟨_,_,_,cN,(Le.drew w I β hp).trans n1,n2,n3⟩
theorem Wn (S:aF P w I β hp B M w0) {t ty e:TypeId} {nb:Nat} {s x:Value} {sv xv:V} {r:R} {rd:List Nat} (hu:P.underlying t=some (.slice e)) (hs:ao P w I β hp s sv) (hx:ao P w I β hp x xv)
  (h:(vg P nb e sv xv).run C hp=some (r,rd)):cR P ((Builtin.append_ #[t,t] ty #[s,x]).run P w) w I β hp B M w0 r:=by
 unfold vg at h
 obtain ⟨au,h⟩:=aG h
 obtain ⟨xs,ll,l0,h⟩:=C8 S.h.rel au hx h
 cases sv with
 | nilS e'=>
  obtain ⟨hc,h⟩:=aG h
  simp only[aK,aP,di] at hc
  obtain ⟨hn,rfl⟩:=mS h
  obtain ⟨a0,rfl⟩: ∃a0,s= .slice a0 0 0:=by cases hs;exact ⟨_,rfl⟩
  obtain ⟨v,w',β',a1,a2,a3,a4⟩:=Hi (ty:=ty) S hu au hn hc.2 ll
  exact ⟨v,w',I,β',a1,a2,a3,a4⟩
 | whole e' id=>
  obtain ⟨l,h⟩:=run_get h
  cases ab:hp id with
  | none=>rw[ab] at h;cases h
  | some blk=>
   rw[ab] at h
   cases blk with
   | dead=>cases h
   | var _=>cases h
   | nest _ _ _=>cases h
   | map _ _=>cases h
   | arr dq es fz=>
    cases fz with
    | true=>cases h
    | false=>
     obtain ⟨hc,h⟩:=aG h
     obtain ⟨hn,rfl⟩:=mS h
     simp only[aK,aP,di] at hc
     obtain ⟨Hk,Hl,dF⟩:=hc
     subst Hk
     subst Hl
     have bz:nb≠id:=fun e=>by rw[e,ab] at hn;cases hn
     obtain ⟨k1,k2⟩:=CK S ab
     have jX:aH hp id (some an.dead) nb=none:=by rw[dX _ _ bz];exact hn
     cases hs with
     | dV hd=>rw[ab] at hd;cases hd
     | ee hd=>rw[ab] at hd;cases hd
     | dt hd hb=>
      rw[ab] at hd
      cases hd
      simp only[List.length_nil,gx] at dF
      have Wo:((∃a,x= .slice a 0 0)∧xs=[])∨∃a c news,Row P w I e x xs a c news:=ll
      obtain ⟨v,w',β',a1,a2,a3,a4⟩:=Hi (ty:=ty) k2 hu au jX dF Wo
      exact ⟨v,w',I,β',a1,k1.trans a2,a3,a4⟩
     | @whole _ _ aI mJ b cap hd hb aU bY hm=>
      rw[ab] at hd
      cases hd
      have hr:=S.h.rel id _ ab
      cases hr with
      | dv aA=>rw[aA] at hb;cases hb
      | @arr _ _ _ b' Ca _ aA hh pd hf dW lT=>
       rw[hb] at aA
       cases aA
       obtain ⟨i,z,hi,hz,h3,h4,_⟩:=jW au
       have tA:=vr au
       have lS:P.bytesOf e=i.bytes:=by simp[Program.bytesOf,hi]
       have hlen:es.length+xs.length≤2^45:=by
        have:(es.length+xs.length)*1≤(es.length+xs.length)*P.bytesOf e:=sR _ tA
        simp only[bS] at dF
        omega
       rw[mN hh] at aU
       have qf: ∀aD blk',aH hp id (some an.dead) aD=some blk'→¬bu P w (β aD) blk' b:=by
        intro aD blk' h1 U
        by_cases iD:aD=id
        ·subst iD;rw[cM] at h1;cases h1;exact U.alive rfl
        ·rw[dX _ _ iD] at h1
         exact iD (S.h.inj aD id blk' _ b h1 ab U (.root (by simp) hb))
       have Hm:=S.h.rG id _ b ab (by simp) hb
       have room: ∀(C':Array Value) (w':World) (ys:List V),w'.heap[b]? =some (.cells C' e (0,0))→C'.size=Ca.size→(∀b',b'≠b→w'.heap[b']? =w.heap[b']?)→w.heap.size≤w'.heap.size→(w'.os=w.os∧w'.output=w.output)→ys.length≤cap→
         (∀(i j:Nat) (y:V) (t':TypeId),ys[i]? =some y→(aR P e)[j]? =some t'→j<P.cellsOf e→∃v,C'[i*P.cellsOf e+j]? =some v∧Pure P w I t' v (bH P e y j))→
         Le P w I β hp w' I (aH β nb (some b)) (aH (aH hp id (some .dead)) nb (some (.arr e ys false)))∧aF P w' I (aH β nb (some b)) (aH (aH hp id (some .dead)) nb (some (.arr e ys false))) B M w0∧
         ao P w' I (aH β nb (some b)) (aH (aH hp id (some .dead)) nb (some (.arr e ys false))) (.slice (some ⟨b,0,none⟩) ys.length cap) (.whole e nb):=by
        intro C' w' ys hC n0 Wp Wq Wr tv hy
        obtain ⟨a1,a2⟩:=y5 k2 (blk:= .arr e ys false) (w':=w') jX qf (dW rfl) (fun b' h _=>Wp b' h) Wq Wr Hm
         (fun b' h=>(cX (h.flat (by simp))).symm) (fun hle=> .arr au rfl hC (by rw[n0,←aU];exact dp _ tv) (fun h=>by cases h) (fun _=>dW rfl) fun i j y t' a b c=>by
          obtain ⟨v,hv,hp⟩:=hy i j y t' a b c
          exact ⟨v,hv,hp.mono hle.c7 hle.b6⟩)
        refine ⟨k1.trans a1,a2,.whole (cM _ _ _) (cM _ _ _) ?_ tv hm⟩
        rw[mN hC,n0,aU]
       have same:xs=[]→(∃a c,x= .slice a 0 c)→cR P ((Builtin.append_ #[t,t] ty #[.slice (some ⟨b,0,none⟩) es.length cap,x]).run P w) w I β hp B M w0 ⟨.whole e nb,[(nb,.arr e (es++xs) false),(id,.dead)]⟩:=by
        intro gk Hj
        subst gk
        rw[c6]
        obtain ⟨a1,a2,a3⟩:=room Ca w es hh rfl (fun _ _=>rfl) (bW _) ⟨rfl,rfl⟩ bY lT
        exact ⟨_,_,_,_,MW hu hi _ _ _ x Hj bY,a1,a2,a3⟩
       rcases ll with ⟨⟨_,rfl⟩,rfl⟩|⟨a,c,news,cz⟩
       ·exact same rfl ⟨_,_,rfl⟩
       ·have h1:=cz.one au
        have lk:es.length*P.cellsOf e≤Ca.toList.length:=by simpa using pd
        by_cases rP:es.length+xs.length≤cap
        ·have zk:es.length*P.cellsOf e+news.length≤Ca.size:=by rw[cz.len,←db,←aU];exact dp _ rP
         have cN:=run_append_room (P:=P) w t ty e i hu hi b es.length cap Ca hh a xs.length c news (by rw[cz.len,h3]) cz.cell h1 rP (by rw[h3];exact zk)
         rw[h3] at cN
         have cJ:=C9 (P:=P) (w:=w) (I:=I) (n:=es.length) (c:=Ca.toList) rfl (fun i j y t' a b c=>by
          obtain ⟨v,hv,hp⟩:=lT i j y t' a b c
          exact ⟨v,by simpa using hv,hp⟩) cz.el lk (Ca.toList.drop (es.length*P.cellsOf e+news.length))
         obtain ⟨a1,a2,a3⟩:=room (Ca.toList.take (es.length*P.cellsOf e)++news++Ca.toList.drop (es.length*P.cellsOf e+news.length)).toArray (w.setRow b _) (es++xs)
          (setRow_heap w b Ca _ e _ hh) (by simp;omega) (fun b' aA=>setRow_other w b b' _ aA) (by simp) ⟨rfl,rfl⟩ (by simpa using rP)
          (fun i j y t' a b c=>by
           obtain ⟨v,hv,hp⟩:=cJ i j y t' a b c
           exact ⟨v,by simpa using hv,hp⟩)
         rw[cz.val]
         rw[bR] at a3
         exact ⟨_,_,_,_,cN,a1,a2,a3⟩
        ·have hold: ∀(j:Nat) v,(Ca.toList.take (es.length*P.cellsOf e))[j]? =some v→w.cell? ((⟨b,0,none⟩:Addr).add j)=some v:=by
          intro j v hj
          have b7:=(bt.1 hj).1
          have fR:j<es.length*P.cellsOf e:=by rw[eL] at b7;omega
          rw[eK fR] at hj
          rw[mQ,cell?_cells hh,gx]
          simpa using hj
         have cN:=run_append_grow (P:=P) w t ty e i z hu hi hz ⟨b,0,none⟩ es.length cap (Ca.toList.take (es.length*P.cellsOf e)) (by rw[h3];simp;omega) hold a xs.length c news (by rw[cz.len,h3]) cz.cell (by omega) (by omega)
          (growslice_fits (by omega) (by rw[←lS];simp only[bS] at dF;omega))
         have pb:=grownCap_ge w (es.length+xs.length) cap e
         have tB:grownCap w (es.length+xs.length) cap e≤maxLen:=grownCap_le_maxLen w _ cap e (by simp only[maxLen];omega)
         have cJ:=C9 (P:=P) (w:=w) (I:=I) (n:=es.length) (c:=Ca.toList) rfl (fun i j y t' a b c=>by
          obtain ⟨v,hv,hp⟩:=lT i j y t' a b c
          exact ⟨v,by simpa using hv,hp⟩) cz.el lk (Builtin.zeroCells z.cells (grownCap w (es.length+xs.length) cap e-(es.length+xs.length))).toList
         obtain ⟨n1,n2,n3⟩:=vO k2.drew (nb:=nb) (cap:=grownCap w (es.length+xs.length) cap e) (es:=es++xs)
          (C0:=(Ca.toList.take (es.length*P.cellsOf e)).toArray++news.toArray++Builtin.zeroCells z.cells (grownCap w (es.length+xs.length) cap e-(es.length+xs.length))) au jX
          (by
           have e1:(Ca.toList.take (es.length*P.cellsOf e)).length=es.length*P.cellsOf e:=by simp;omega
           simp only[BZ,pO,size_zeroCells,h4,cz.len,e1,←db];congr 1;omega) (by simpa using pb) tB
          (fun i j y t' a b c=>by
           obtain ⟨v,hv,hp⟩:=cJ i j y t' a b c
           refine ⟨v,?_,Pure.drew hp⟩
           rw[←rj]
           simpa using hv)
         rw[cz.val]
         rw[bR] at n3
         exact ⟨_,_,_,_,cN,(k1.trans (Le.drew w I β _)).trans n1,n2,n3⟩
 | _=>cases h
end
section
variable {P:Program} {w w':World} {I I':Nat→Prop} {β β':Nat→Option Nat} {hp hp':Nat→Option an} {C:ag} {B:Nat} {M:Nat→Prop} {w0:Start}
theorem run_copy_none (w:World) {dT sT ty elem:TypeId} {i:TypeInfo} (a0:Option Addr) (MX Ws:Nat) (a1:Option Addr) (MY Wt:Nat) (hu:P.underlying dT=some (.slice elem)) (hi:P.info? elem=some i) (h0:Nat.min MY MX=0):
  (Builtin.copy_ #[dT,sT] ty #[.slice a0 MX Ws,.slice a1 MY Wt]).run P w= .ok (goInt 0) w:=by
 cases a0<;>cases a1<;>simp[Builtin.copy_,run_underlying hu,Builtin.lenOf,Builtin.firstCells,sizeOf,typeInfo,hi,h0,storeCells,loadCells,loadCellsFrom]
theorem Wu (S:aF P w I β hp B M w0) {t u ty e:TypeId} {s x:Value} {sv xv:V} {r:R} {rd:List Nat} (hu:P.underlying t=some (.slice e)) (hs:ao P w I β hp s sv) (hx:ao P w I β hp x xv)
  (h:(Gr P e sv xv).run C hp=some (r,rd)):cR P ((Builtin.copy_ #[t,u] ty #[s,x]).run P w) w I β hp B M w0 r:=by
 unfold Gr at h
 obtain ⟨au,h'⟩:=aG h
 clear h
 simp only[aK,aP] at au
 obtain ⟨au,h1⟩:=au
 obtain ⟨xs,ll,l0,h⟩:=C8 S.h.rel au hx h'
 obtain ⟨i,z,hi,hz,aU,_⟩:=jW au
 cases sv<;>simp only at h<;>first|(cases h;done)|skip
 rename_i e' id
 obtain ⟨l,U⟩:=run_get h
 clear h
 cases ab:hp id with
 | none=>rw[ab] at U;cases U
 | some blk=>
  rw[ab] at U
  cases blk<;>simp only at U<;>first|(cases U;done)|skip
  rename_i e2 es fz
  cases fz with
  | true=>cases U
  | false=>
  obtain ⟨hc,h3⟩:=aG U
  simp only[aK,aP] at hc
  obtain ⟨rfl,rfl⟩:=hc
  obtain rfl:=aM h3
  have mT:min xs.length es.length=0→(Builtin.copy_ #[t,u] ty #[s,x]).run P w= .ok (goInt 0) w→cR P ((Builtin.copy_ #[t,u] ty #[s,x]).run P w) w I β hp B M w0 ⟨.int .i64 (min xs.length es.length:Nat),[(id,.arr e (xs.take es.length++es.drop xs.length) false)]⟩:=by
   intro h0 hr
   have he:xs.take es.length++es.drop xs.length=es:=by
    rcases Nat.le_total xs.length es.length with hl|hl
    ·have:xs=[]:=kR (by omega)
     simp[this]
    ·have:es=[]:=kR (by omega)
     simp[this]
   have fQ:bG hp [(id,.arr e (xs.take es.length++es.drop xs.length) false)]=hp:=by
    rw[he];exact GC hp id _ ab
   refine ⟨goInt 0,w,I,β,hr,?_⟩
   simp only[fQ,h0]
   exact ⟨Le.refl w I β hp,S,.int⟩
  cases hs with
  | dV hd=>rw[ab] at hd;cases hd
  | ee hd=>rw[ab] at hd;cases hd
  | @dt _ _ fz a hd hb=>
   rw[ab] at hd
   cases hd
   refine mT (by simp) ?_
   rcases ll with ⟨⟨a',rfl⟩,rfl⟩|⟨a',c,news,cz⟩
   ·exact run_copy_none w _ _ _ _ _ _ hu hi (by simp)
   ·rw[cz.val];exact run_copy_none w _ _ _ _ _ _ hu hi (by simp)
  | @whole _ _ aI mJ b cap hd hb zl bY hm=>
   have eo:=hd
   rw[ab] at hd
   cases hd
   rcases ll with ⟨⟨a',rfl⟩,rfl⟩|⟨a',c,news,cz⟩
   ·exact mT (by simp) (run_copy_none w _ _ _ _ _ _ hu hi (by simp))
   have hr:=S.h.rel id _ ab
   cases hr with
   | dv aA=>rw[aA] at hb;cases hb
   | @arr _ _ _ b' Ca _ aA hh pd hf dW lT=>
    rw[hb] at aA
    cases aA
    have lh:news.length=xs.length:=by rw[cz.len,h1,mC]
    rw[h1,mC] at pd
    have kE:(news.take es.length).length=Nat.min xs.length es.length:=by
     rw[eL,lh,Nat.min_comm]
    have MZ:Nat.min xs.length es.length=min xs.length es.length:=rfl
    have cN:=run_copy_row (P:=P) w t u ty e b 0 es.length cap a' xs.length c Ca e (news.take es.length) hu (by rw[hi];simp[aU,h1]) hh kE
     (fun j v hj=>cz.cell j v (by
      have:=(bt.1 hj).1
      rw[eL] at this
      rwa [eK (by omega)] at hj)) (by rw[kE,MZ];omega) (fun v hv=>cz.one au v (List.mem_of_mem_take hv))
    rw[cz.val]
    have hq:(goInt (news.take es.length).length)= .int .i64 ((min xs.length es.length:Nat):Int):=by rw[kE];rfl
    have iY:(xs.take es.length++es.drop xs.length).length=es.length:=by simp;omega
    have n0:(Ca.toList.take 0++news.take es.length++Ca.toList.drop (0+(news.take es.length).length)).toArray.size=Ca.size:=by
     simp only[pO,bR,oO,eL,kE,MZ]
     simp
     omega
    obtain ⟨a1,a2⟩:=CU S (blk':= .arr e (xs.take es.length++es.drop xs.length) false) (Cb:=(Ca.toList.take 0++news.take es.length++Ca.toList.drop (0+(news.take es.length).length)).toArray) ab (by simp) ⟨rfl,iY.symm⟩ hb (dW rfl) (by simp) hh n0
     (fun hle eE=> .arr au rfl eE (by rw[n0,iY,h1,mC];exact pd) (fun h=>by cases h) (fun _=>dW rfl) fun i j y t' hy ht hj=>by
      rw[h1] at hj⊢
      obtain rfl:j=0:=by omega
      rw[mC,Nat.add_zero]
      have qs:=(bt.1 hy).1
      rw[iY] at qs
      by_cases bP:i<xs.length
      ·rw[ij (by rw[eL];omega),eK qs] at hy
       obtain ⟨u',k1,k2⟩:=cz.el i 0 y t' hy ht (by omega)
       rw[h1,mC,Nat.add_zero] at k1
       refine ⟨u',?_,k2.mono hle.c7 hle.b6⟩
       simp only[List.take_zero,List.nil_append,mB]
       rw[ij (by rw[eL];omega),eK qs]
       exact k1
      ·have e1:(xs.take es.length).length=xs.length:=by rw[eL];omega
       rw[ik (by omega),e1,gP,show xs.length+(i-xs.length)=i by omega] at hy
       obtain ⟨u',k1,k2⟩:=lT i 0 y t' hy ht (by omega)
       rw[h1,mC,Nat.add_zero] at k1
       refine ⟨u',?_,k2.mono hle.c7 hle.b6⟩
       simp only[List.take_zero,List.nil_append,mB,gx]
       have e2:(news.take es.length).length=xs.length:=by rw[eL];omega
       rw[ik (by omega),e2,gP,show xs.length+(i-xs.length)=i by omega]
       simpa using k1)
    exact ⟨_,_,_,_,cN,a1,a2,by rw[hq];exact .int⟩
theorem Wv (S:aF P w I β hp B M w0) {t ty e:TypeId} {x:Value} {xv:V} {r:R} {rd:List Nat} (hu:P.underlying t=some (.slice e)) (hx:ao P w I β hp x xv)
  (h:(Gq P e xv).run C hp=some (r,rd)):cR P ((Builtin.clear_ #[t] ty #[x]).run P w) w I β hp B M w0 r:=by
 unfold Gq at h
 obtain ⟨cJ,h'⟩:=aG h
 clear h
 have au:cI P e=true:=by
  unfold lI at cJ;simp only[aK] at cJ;exact cJ.1
 obtain ⟨i,z,hi,hz,aU,zm,Ww⟩:=zj (w:=w) (I:=I) cJ
 have k9:=(jT au).2
 cases xv<;>simp only at h'<;>first|(cases h';done)|skip
 rename_i e' id off len
 obtain ⟨l,U⟩:=run_get h'
 clear h'
 cases ab:hp id with
 | none=>rw[ab] at U;cases U
 | some blk=>
  rw[ab] at U
  cases blk<;>simp only at U<;>first|(cases U;done)|skip
  rename_i e2 es fz
  cases fz with
  | true=>cases U
  | false=>
  obtain ⟨hc,h3⟩:=aG U
  simp only[aK,aP] at hc
  obtain ⟨rfl,rfl⟩:=hc
  obtain rfl:=aM h3
  have mT:len=0→(Builtin.clear_ #[t] ty #[x]).run P w= .ok (.tuple #[]) w→cR P ((Builtin.clear_ #[t] ty #[x]).run P w) w I β hp B M w0 ⟨.bd [],[(id,.arr e (es.take off++(List.replicate len (cm P e (ek P e))++es.drop (off+len))) false)]⟩:=by
   intro h0 hr
   subst h0
   have fQ:bG hp [(id,.arr e (es.take off++(List.replicate 0 (cm P e (ek P e))++es.drop (off+0))) false)]=hp:=by
    simp only[List.replicate_zero,List.nil_append,Nat.add_zero,B0]
    exact GC hp id _ ab
   refine ⟨.tuple #[],w,I,β,hr,?_⟩
   simp only[fQ]
   exact ⟨Le.refl w I β hp,S,.bd rfl fun j v x hj hx=>by simp at hx⟩
  cases hx with
  | fO hd=>rw[ab] at hd;cases hd
  | @fy _ _ _ a0 hd hb=>exact mT rfl (by cases a0<;>simp[Builtin.clear_,run_underlying hu])
  | @sub _ _ _ _ aI mJ b o cap hd hb ky bY ho=>
   by_cases hlen:len=0
   ·refine mT hlen ?_
    subst hlen
    simp[Builtin.clear_,run_underlying hu]
   have Wx:0<len:=by omega
   have eo:=hd
   rw[ab] at hd
   cases hd
   have hr:=S.h.rel id _ ab
   cases hr with
   | dv aA=>rw[aA] at hb;cases hb
   | @arr _ _ _ b' Ca _ aA hh pd hf dW lT=>
    rw[hb] at aA
    cases aA
    have ho:=ho Wx
    subst ho
    have tz:(Builtin.zeroCells z.cells len).toList.length=len*P.cellsOf e:=by rw[Array.length_toList,size_zeroCells,zm]
    have hmul:off*P.cellsOf e+len*P.cellsOf e≤es.length*P.cellsOf e:=by rw[←db];exact dp _ ky
    have qo: ∀v∈(Builtin.zeroCells z.cells len).toList,v.oneCell'=true:=by
     intro v hv
     obtain ⟨k,hk⟩:=ri hv
     have hU:=(bt.1 hk).1
     rw[tz] at hU
     have Wy:(Builtin.zeroCells z.cells len)[k]? =z.cells[k %z.cells.size]? :=MT (z:=z.cells) (n:=len*z.cells.size) (by rw[zm];exact hU) (by rw[zm];exact k9)
     rw[rj,Wy] at hk
     have hm:k %z.cells.size<P.cellsOf e:=by rw[zm];exact Nat.mod_lt _ k9
     have Wz:k %z.cells.size<(aR P e).length:=by rw[fh au];exact hm
     obtain ⟨v',vD,hp'⟩:=Ww (k %z.cells.size) _ (bB Wz) hm
     rw[hk] at vD
     cases vD
     generalize bH P e (cm P e (ek P e)) (k %z.cells.size)=y at hp'
     cases hp'<;>rfl
    have bL:=run_storeCells_at P b (off*P.cellsOf e) e (Builtin.zeroCells z.cells len).toList 0 Ca w hh (by rw[tz];omega) qo
    simp only[Nat.add_zero] at bL
    have cN:(Builtin.clear_ #[t] ty #[.slice (some ⟨b,off*P.cellsOf e,none⟩) len cap]).run P w= .ok (.tuple #[]) (w.setRow b (Ca.toList.take (off*P.cellsOf e)++(Builtin.zeroCells z.cells len).toList++Ca.toList.drop (off*P.cellsOf e+(Builtin.zeroCells z.cells len).toList.length)).toArray):=by
     obtain ⟨n,rfl⟩: ∃n,len=n+1:=⟨len-1,by omega⟩
     simp[Builtin.clear_,run_underlying hu,zeroValue,typeInfo,hi,hz,bL]
    have iY:(es.take off++(List.replicate len (cm P e (ek P e))++es.drop (off+len))).length=es.length:=by simp;omega
    have n0:(Ca.toList.take (off*P.cellsOf e)++(Builtin.zeroCells z.cells len).toList++Ca.toList.drop (off*P.cellsOf e+(Builtin.zeroCells z.cells len).toList.length)).toArray.size=Ca.size:=by
     simp only[pO,bR,oO,eL,tz,Array.length_toList]
     omega
    obtain ⟨a1,a2⟩:=CU S (blk':= .arr e (es.take off++(List.replicate len (cm P e (ek P e))++es.drop (off+len))) false) ab (by simp) ⟨rfl,iY.symm⟩ hb (dW rfl) (by simp) hh n0
     (fun hle eE=> .arr au rfl eE (by rw[n0,iY];exact pd) (fun h=>by cases h) (fun _=>dW rfl) fun i' j y t' hy ht hj=>by
      have gG:=mR es (List.replicate len (cm P e (ek P e))) off i' (by simp;omega)
      rw[sS] at gG
      rw[gG] at hy
      have hC:(Ca.toList.take (off*P.cellsOf e)++(Builtin.zeroCells z.cells len).toList++Ca.toList.drop (off*P.cellsOf e+(Builtin.zeroCells z.cells len).toList.length)).toArray[i'*P.cellsOf e+j]? =
        if i'*P.cellsOf e+j<off*P.cellsOf e then Ca.toList[i'*P.cellsOf e+j]? else if i'*P.cellsOf e+j<off*P.cellsOf e+len*P.cellsOf e then (Builtin.zeroCells z.cells len).toList[i'*P.cellsOf e+j-off*P.cellsOf e]? else Ca.toList[i'*P.cellsOf e+j]? :=by
       have:=mR Ca.toList (Builtin.zeroCells z.cells len).toList (off*P.cellsOf e) (i'*P.cellsOf e+j) (by rw[tz,Array.length_toList];omega)
       rw[mB,cj,this,tz]
      by_cases Hn:i'<off
      ·rw[aj Hn] at hy
       have:(i'+1)*P.cellsOf e≤off*P.cellsOf e:=dp _ Hn
       rw[db] at this
       rw[aj (by omega)] at hC
       obtain ⟨u,k1,k2⟩:=lT i' j y t' hy ht hj
       exact ⟨u,hC.trans (by simpa using k1),k2.mono hle.c7 hle.b6⟩
      ·rw[ai Hn] at hy
       have h1:off*P.cellsOf e≤i'*P.cellsOf e:=dp _ (by omega)
       rw[ai (by omega)] at hC
       by_cases gF:i'<off+len
       ·rw[aj gF] at hy
        have:(i'+1)*P.cellsOf e≤(off+len)*P.cellsOf e:=dp _ gF
        rw[db,db] at this
        rw[aj (by omega)] at hC
        obtain ⟨v,k1,k2⟩:=C7 (w:=w) (I:=I) cJ hi hz len len (bW _) (i'-off) j y t' hy ht hj
        refine ⟨v,hC.trans ?_,k2.mono hle.c7 hle.b6⟩
        rw[show i'*P.cellsOf e+j-off*P.cellsOf e=(i'-off)*P.cellsOf e+j by rw[Nat.sub_mul];omega,rj]
        unfold Builtin.zeroCells
        rw[zm] at k1⊢
        exact k1
       ·rw[ai gF] at hy
        have:(off+len)*P.cellsOf e≤i'*P.cellsOf e:=dp _ (by omega)
        rw[db] at this
        rw[ai (by omega)] at hC
        obtain ⟨u,k1,k2⟩:=lT i' j y t' hy ht hj
        exact ⟨u,hC.trans (by simpa using k1),k2.mono hle.c7 hle.b6⟩)
    exact ⟨_,_,_,_,cN,a1,a2,.bd rfl fun j v x hj hx=>by simp at hx⟩
end
section
variable {P:Program} {w w':World} {I I':Nat→Prop} {β β':Nat→Option Nat} {hp hp':Nat→Option an} {C:ag} {B:Nat} {M:Nat→Prop} {w0:Start}
theorem WA (S:aF P w I β hp B M w0) {s:TypeId} {f:Nat} {v:Value} {x:V} {r:R} {rd:List Nat} (hv:ao P w I β hp v x)
  (h:(Gv P s f x).run C hp=some (r,rd)):cR P ((Instr.field s v f).run P w) w I β hp B M w0 r:=by
 unfold Gv Cj at h
 split at h
 ·rename_i fs hu
  cases hf:fs[f]? with
  | none=>rw[hf] at h;cases h
  | some fd=>
   rw[hf] at h
   simp only[vh] at h
   obtain ⟨ht,h⟩:=aG h
   obtain ⟨d,tC⟩:=y9 ht
   obtain ⟨i,hi⟩:=vB tC
   have aU:i.size=P.cellsOf fd.type:=by simp[Program.cellsOf,hi]
   cases x with
   | agg xs=>
    obtain ⟨cs,rfl,h1,U⟩:=hv.kB
    dsimp only at h
    cases ha:bE P fd.type with
    | true=>
     rw[ha] at h
     simp only[cond_true] at h
     obtain ⟨hc,h⟩:=aG h
     obtain rfl:=aM h
     rw[di] at hc
     refine .same S (v:= .agg (cs.extract fd.offset (fd.offset+P.cellsOf fd.type))) ?_ (.agg (by simp;omega) fun j u y fA hy=> ?_)
     ·simp[Instr.field,run_underlying hu,hf,part,GV tC,ha,asAgg,sizeOf,typeInfo,hi,aU]
     ·have hj:j<P.cellsOf fd.type:=by
       have:=(gQ.1 fA).1
       simp at this;omega
      rw[eK hj,gP] at hy
      refine U (fd.offset+j) u y ?_ hy
      rw[Array.getElem?_extract] at fA
      split at fA
      ·exact fA
      ·cases fA
    | false=>
     rw[ha] at h
     simp only[cond_false] at h
     obtain ⟨y,hy,h⟩:=la h
     obtain rfl:=aM h
     have aO:fd.offset<cs.size:=by rw[h1];exact (bt.1 hy).1
     refine .same S (v:=cs[fd.offset]) ?_ (U _ _ _ (kj aO) hy)
     simp[Instr.field,run_underlying hu,hf,part,GV tC,ha,asAgg,aO]
   | _=>cases h
 ·cases h
theorem WB (S:aF P w I β hp B M w0) {i:Nat} {v:Value} {xs:List V} {r:R} {rd:List Nat} (hv:ao P w I β hp v (.bd xs))
  (h:(Rd.opt xs[i]? fun v=> .ret ⟨v,[]⟩).run C hp=some (r,rd)):cR P ((Instr.extract v i).run P w) w I β hp B M w0 r:=by
 obtain ⟨cs,rfl,h1,U⟩:=hv.tm
 obtain ⟨y,hy,h⟩:=la h
 obtain rfl:=aM h
 have aO:i<cs.size:=by rw[h1];exact (bt.1 hy).1
 exact .same S (v:=cs[i]) (by simp[Instr.extract,aO]) (U _ _ _ (kj aO) hy)
theorem WC (S:aF P w I β hp B M w0) {t:TypeId} {s:ByteArray} {l:List UInt8} {k:IntKind} {i:Int} {r:R} {rd:List Nat} (hu:P.underlying t=some .string) (hs:s.data.toList=l)
  (h:(Rd.opt (bif decide (0≤i) then (l[i.toNat]?).map fun b=>V.int .u8 b.toNat else none) fun v=> .ret ⟨.int .u8 v.toInt,[]⟩).run C hp=some (r,rd)):
  cR P ((Instr.index t (.string s) (.int k i)).run P w) w I β hp B M w0 r:=by
 obtain ⟨v,hv,h⟩:=la h
 obtain rfl:=aM h
 cases hc:decide (0≤i) with
 | false=>rw[hc] at hv;cases hv
 | true=>
  rw[hc] at hv
  simp only[cond_true] at hv
  have h0:0≤i:=by simpa using hc
  cases hb:l[i.toNat]? with
  | none=>rw[hb] at hv;cases hv
  | some b=>
   rw[hb] at hv
   simp only[Option.map_some,dH] at hv
   subst hv
   have WD:s[i.toNat]? =some b:=by
    subst hs
    obtain ⟨aO,he⟩:=bt.1 hb
    have Ho:i.toNat<s.size:=by simpa using aO
    rw[getElem?_pos s i.toNat Ho]
    congr 1
   refine .same S (v:= .int .u8 b.toNat) ?_ .int
   simp[Instr.index,asIntOf,run_underlying hu,h0,WD]
theorem Hp (S:aF P w I β hp B M w0) (mx:Bool): ∀{vs:List Value} {xs:List V} {v:Value} {x:V} {r:R} {rd:List Nat},ao P w I β hp v x→vs.length=xs.length→
  (∀(j:Nat) u y,vs[j]? =some u→xs[j]? =some y→ao P w I β hp u y)→(vi mx x xs).run C hp=some (r,rd)→
  cR P ((vs.foldlM (if mx then Builtin.max2 else Builtin.min2) v).run P w) w I β hp B M w0 r
 | [],[],v,x,r,rd,hv,_,_,h=>by
  have:r=⟨x,[]⟩:=by
   cases x<;>(simp only[vi] at h;exact (aM h).symm)
  subst this
  exact .same S (by simp) hv
 | [],_::_,v,x,r,rd,hv,hl,_,h=>by simp at hl
 | _::_,[],v,x,r,rd,hv,hl,_,h=>by simp at hl
 | u::vs,y::xs,v,x,r,rd,hv,hl,hx,h=>by
  cases x<;>cases y<;>simp only[vi] at h<;>first|(cases h;done)|skip
  rename_i k a k' b
  obtain ⟨hc,h4⟩:=aG h
  clear h
  obtain rfl:k=k':=by simpa using hc
  have hu:=hx 0 u _ rfl rfl
  rw[hv.dE,hu.dE]
  have ih:=Hp S mx (vs:=vs) (xs:=xs) (v:= .int k (bif mx then (if b>a then b else a) else (if b<a then b else a))) .int (by simpa using hl)
   (fun j u y h1 U=>hx (j+1) u y (by simpa using h1) (by simpa using U)) h4
  cases mx with
  | true=>simpa[List.foldlM_cons,Builtin.max2] using ih
  | false=>simpa[List.foldlM_cons,Builtin.min2] using ih
theorem qt {n cap:Nat} {isS:Bool} {lo hi:Option V} {lov hiv:Option Value} {k:Nat→Nat→Rd R} {r:R} {rd:List Nat} (hn:n≤cap)
  (iE: ∀x,lo=some x→∃v,lov=some v∧ao P w I β hp v x) (gH: ∀x,hi=some x→∃v,hiv=some v∧ao P w I β hp v x) (mU:lo=none→lov=none) (oa:hi=none→hiv=none)
  (h:(rz n lo hi k).run C hp=some (r,rd)): ∃l u,l≤u∧u≤n∧(Instr.sliceBounds isS n cap lov hiv none).run P w= .ok (l,u,cap) w∧(k l u).run C hp=some (r,rd):=by
 have ok: ∀(kk:IntKind) (i:Int) (y:Nat) (c:BoundsCode),0≤i→i≤y→(Instr.sliceBound (.int kk i) y c).run P w= .ok i.toNat w:=by
  intro kk i y c h1 U
  simp[Instr.sliceBound,asIntOf,h1,U]
 unfold rz at h
 cases lo with
 | none=>
  rw[mU rfl]
  cases hi with
  | none=>
   rw[oa rfl]
   exact ⟨0,n,ki _,bW _,by simp[Instr.sliceBounds],h⟩
  | some x=>
   obtain ⟨v,rfl,hv⟩:=gH x rfl
   cases x<;>simp only at h<;>first|(cases h;done)|skip
   rename_i kk u
   obtain ⟨hc,h⟩:=aG h
   simp only[aK,dR] at hc
   rw[hv.dE]
   have:=ok kk u cap (if isS then .sliceAcap else .sliceAlen) hc.1 (by omega)
   exact ⟨0,u.toNat,ki _,by omega,by simp[Instr.sliceBounds,this],h⟩
 | some x=>
  obtain ⟨v,rfl,hv⟩:=iE x rfl
  cases hi with
  | none=>
   rw[oa rfl]
   cases x<;>simp only at h<;>first|(cases h;done)|skip
   rename_i kk l
   obtain ⟨hc,h⟩:=aG h
   simp only[aK,dR] at hc
   rw[hv.dE]
   have:=ok kk l n .sliceB hc.1 (by omega)
   exact ⟨l.toNat,n,by omega,bW _,by simp[Instr.sliceBounds,this],h⟩
  | some y=>
   obtain ⟨v2,rfl,qc⟩:=gH y rfl
   cases x<;>cases y<;>simp only at h<;>first|(cases h;done)|skip
   rename_i kk l WE u
   obtain ⟨hc,h⟩:=aG h
   simp only[aK,dR] at hc
   rw[hv.dE,qc.dE]
   have h1:=ok WE u cap (if isS then .sliceAcap else .sliceAlen) (by omega) (by omega)
   have U:=ok kk l u.toNat .sliceB hc.1 (by omega)
   exact ⟨l.toNat,u.toNat,by omega,by omega,by simp[Instr.sliceBounds,h1,U],h⟩
theorem De {a:Option Addr} {t e:TypeId} {i:TypeInfo} (hu:P.underlying t=some (.slice e)) (hi:P.info? e=some i) {lov hiv:Option Value}
  (hb:(Instr.sliceBounds true 0 0 lov hiv none).run P w= .ok (0,0,0) w):(Instr.sliceAt t (.slice a 0 0) lov hiv none).run P w= .ok (.slice a 0 0) w:=by
 cases a<;>simp[Instr.sliceAt,Instr.slice,run_underlying hu,hb,sizeOf,typeInfo,hi]
theorem Hq {t e:TypeId} {i:TypeInfo} {b o len cap l u:Nat} (hu:P.underlying t=some (.slice e)) (hi:P.info? e=some i) {lov hiv:Option Value} (huc:u≤cap)
  (hb:(Instr.sliceBounds true len cap lov hiv none).run P w= .ok (l,u,cap) w): ∃o',(0<u-l→o'=o+l*i.size)∧(Instr.sliceAt t (.slice (some ⟨b,o,none⟩) len cap) lov hiv none).run P w= .ok (.slice (some ⟨b,o',none⟩) (u-l) (cap-l)) w:=by
 by_cases hc:cap=l
 ·subst hc
  refine ⟨o,fun h=>by omega,?_⟩
  ·simp[Instr.sliceAt,Instr.slice,run_underlying hu,hb,sizeOf,typeInfo,hi]
 ·refine ⟨o+l*i.size,fun _=>rfl,?_⟩
  simp[Instr.sliceAt,Instr.slice,run_underlying hu,hb,sizeOf,typeInfo,hi,hc,mQ]
theorem WG (s:ByteArray) (l:List UInt8) (h:s.data.toList=l) (a b:Nat):(s.extract a b).data.toList=(l.drop a).take (b-a):=by
 subst h
 simp[ByteArray.data_extract]
theorem WH (S:aF P w I β hp B M w0) {t:TypeId} {v:Value} {x:V} {lo hi:Option V} {lov hiv:Option Value} {r:R} {rd:List Nat} (hv:ao P w I β hp v x)
  (iE: ∀x,lo=some x→∃v,lov=some v∧ao P w I β hp v x) (gH: ∀x,hi=some x→∃v,hiv=some v∧ao P w I β hp v x) (mU:lo=none→lov=none) (oa:hi=none→hiv=none)
  (h:(Cp P t x lo hi).run C hp=some (r,rd)):cR P ((Instr.sliceAt t v lov hiv none).run P w) w I β hp B M w0 r:=by
 unfold Cp at h
 cases hu:P.underlying t with
 | none=>rw[hu] at h;cases h
 | some d=>
  rw[hu] at h
  cases d<;>simp only at h<;>first|(cases h;done)|skip
  case string=>
   cases x<;>simp only at h<;>first|(cases h;done)|skip
   rename_i l
   obtain ⟨s,rfl,hs⟩:=hv.lP
   have aU:l.length=s.size:=by rw[←hs];simp
   obtain ⟨a,u,h1,U,h3,h4⟩:=qt (isS:=false) (cap:=s.size) (by omega) iE gH mU oa h
   obtain rfl:=aM h4
   rw[aU] at h3
   refine .same S (v:= .string (s.extract a u)) ?_ (.str (WG s l hs a u))
   simp[Instr.sliceAt,Instr.slice,run_underlying hu,h3]
  case slice e=>
   cases x<;>simp only at h<;>first|(cases h;done)|skip
   case list e' es=>
    obtain ⟨hc,h⟩:=aG h
    simp only[aK,aP] at hc
    obtain ⟨dw,au⟩:=hc
    obtain ⟨i,z,dJ,_,aU,_⟩:=jW au
    cases hv with
    | list hp'=>
     cases hp' with
     | nil=>
      obtain ⟨a,u,h1,U,h3,h4⟩:=qt (n:=0) (isS:=true) (cap:=0) (bW _) iE gH mU oa h
      obtain rfl:=aM h4
      obtain rfl:u=0:=by omega
      obtain rfl:a=0:=by omega
      exact .same S (De hu dJ h3) (by simpa using ao.list iv.nil)
     | @emp ad cap=>
      obtain ⟨a,u,h1,U,h3,h4⟩:=qt (n:=0) (isS:=true) (cap:=cap) (ki _) iE gH mU oa h
      obtain rfl:=aM h4
      obtain rfl:u=0:=by omega
      obtain rfl:a=0:=by omega
      refine .same S (v:= .slice (some ad) 0 cap) ?_ (by simpa using ao.list iv.emp)
      by_cases hc:cap=0
      ·subst hc
       simp[Instr.sliceAt,Instr.slice,run_underlying hu,h3,sizeOf,typeInfo,dJ]
      ·simp[Instr.sliceAt,Instr.slice,run_underlying hu,h3,sizeOf,typeInfo,dJ,hc,Addr.add]
     | @list b o len cap _ g hl bY hI fP hx=>
      obtain ⟨a,u,h1,U,h3,h4⟩:=qt (isS:=true) (cap:=cap) (by omega) iE gH mU oa h
      obtain rfl:=aM h4
      rw[hl] at U h3
      obtain ⟨o',iX,cN⟩:=Hq (b:=b) (o:=o) hu dJ (by omega) h3
      have gl:e=e':=dw
      refine .same S cN (.list ?_)
      rw[←gl]
      rw[←gl] at fP hx hI
      have hlen:((es.drop a).take (u-a)).length=u-a:=by simp;omega
      refine .list (fun i j=>g (a+i) j) hlen (by omega) (fun h=>hI (rb h (dp _ (by omega)))) (fun i j hi hj=> ?_) (fun i j y t' hy ht=> ?_)
      ·have:=fP (a+i) j (by omega) hj
       rw[db,nG,←nG o] at this
       rw[iX (by omega),aU]
       exact this
      ·have hi:i<u-a:=by rw[←hlen];exact (bt.1 hy).1
       rw[eK hi,gP] at hy
       exact hx (a+i) j y t' hy ht
   case whole e' id=>
    obtain ⟨l,h⟩:=run_get h
    cases ab:hp id with
    | none=>rw[ab] at h;cases h
    | some blk=>
     rw[ab] at h
     cases blk<;>simp only at h<;>first|(cases h;done)|skip
     rename_i dq es fz
     obtain ⟨hc,h9⟩:=aG h
     clear h
     simp only[aK,aP] at hc
     obtain ⟨dw,iw,au⟩:=hc
     obtain ⟨i,z,dJ,_,aU,_⟩:=jW au
     cases hv with
     | dV hd=>rw[ab] at hd;cases hd
     | ee hd=>rw[ab] at hd;cases hd
     | dt hd hb=>
      rw[ab] at hd
      cases hd
      obtain ⟨a,u,h1,U,h3,h4⟩:=qt (n:=0) (isS:=true) (cap:=0) (bW _) iE gH mU oa h9
      obtain rfl:=aM h4
      obtain rfl:u=0:=by omega
      obtain rfl:a=0:=by omega
      exact .same S (De hu dJ h3) (.fy ab hb)
     | @whole _ _ aI mJ b cap hd hb zl bY hm=>
      have eo:=hd
      rw[ab] at hd
      cases hd
      obtain ⟨a,u,h1,U,h3,h4⟩:=qt (isS:=true) (cap:=cap) bY iE gH mU oa h9
      obtain rfl:=aM h4
      obtain ⟨o',iX,cN⟩:=Hq (b:=b) (o:=0) hu dJ (by omega) h3
      have gl:e=e':=dw
      exact .same S cN (.sub eo hb (by omega) (by omega) (fun h=>by rw[iX h,aU,gl,gx]))
   case sub e' id off len=>
    obtain ⟨l,h⟩:=run_get h
    cases ab:hp id with
    | none=>rw[ab] at h;cases h
    | some blk=>
     rw[ab] at h
     cases blk<;>simp only at h<;>first|(cases h;done)|skip
     rename_i dq es fz
     obtain ⟨hc,h⟩:=aG h
     simp only[aK,aP] at hc
     obtain ⟨dw,iw,au⟩:=hc
     obtain ⟨i,z,dJ,_,aU,_⟩:=jW au
     cases hv with
     | fO hd=>rw[ab] at hd;cases hd
     | fy hd hb=>
      have eo:=hd
      obtain ⟨a,u,h1,U,h3,h4⟩:=qt (isS:=true) (cap:=0) (bW _) iE gH mU oa h
      obtain rfl:=aM h4
      obtain rfl:u=0:=by omega
      obtain rfl:a=0:=by omega
      exact .same S (De hu dJ h3) (.fy eo hb)
     | @sub _ _ _ _ aI mJ b o cap hd hb ky bY ho=>
      have eo:=hd
      obtain ⟨a,u,h1,U,h3,h4⟩:=qt (isS:=true) (cap:=cap) bY iE gH mU oa h
      obtain rfl:=aM h4
      obtain ⟨o',iX,cN⟩:=Hq (b:=b) (o:=o) hu dJ (by omega) h3
      have gl:e=e':=dw
      exact .same S cN (.sub eo hb (by omega) (by omega) (fun h=>by rw[iX h,aU,ho (by omega),gl,db]))
theorem WI (S:aF P w I β hp B M w0) {t:TypeId} {v:Value} {x:V} {lo hi mx:Option V} {lov hiv M0:Option Value} {r:R} {rd:List Nat} (hv:ao P w I β hp v x)
  (iE:lo=none→lov=none) (gH: ∀y,hi=some y→∃u,hiv=some u∧ao P w I β hp u y) (nV: ∀y,mx=some y→∃u,M0=some u∧ao P w I β hp u y)
  (h:(Gt P t x lo hi mx).run C hp=some (r,rd)):cR P ((Instr.sliceAt t v lov hiv M0).run P w) w I β hp B M w0 r:=by
 unfold Gt at h
 cases hu:P.underlying t with
 | none=>rw[hu] at h;cases h
 | some d=>
  rw[hu] at h
  cases d<;>(try (cases h;done))
  rename_i e
  cases lo<;>(try (cases h;done))
  cases hi<;>(try (cases h;done))
  rename_i vP
  cases vP<;>(try (cases h;done))
  cases mx<;>(try (cases h;done))
  rename_i WJ
  cases WJ<;>(try (cases h;done))
  obtain ⟨hc,h9⟩:=aG h
  clear h
  have h:=h9
  clear h9
  simp only[aK,dR] at hc
  obtain ⟨rfl,rfl,au⟩:=hc
  obtain ⟨i,z,dJ,_,_,_⟩:=jW au
  obtain ⟨u1,rfl,k1⟩:=gH _ rfl
  obtain ⟨u2,rfl,k2⟩:=nV _ rfl
  rw[k1.dE,k2.dE,iE rfl]
  have run: ∀{k k2:IntKind} (a:Option Addr) (len cap:Nat),(Instr.sliceAt t (.slice a len cap) none (some (.int k 0)) (some (.int k2 0))).run P w= .ok (.slice a 0 0) w:=by
   intro k k2 a len cap
   cases a<;>simp[Instr.sliceAt,Instr.slice,Instr.sliceBounds,Instr.sliceBound,asIntOf,run_underlying hu,sizeOf,typeInfo,dJ]
  cases x<;>(try (cases h;done))
  ·simp only at h
   obtain rfl:=aM h
   cases hv with
   | list hp'=>cases hp'<;>exact .same S (run _ _ _) .nilS
  ·simp only at h
   obtain rfl:=aM h
   cases hv
   exact .same S (run _ _ _) .nilS
  ·rename_i e' id
   simp only at h
   obtain ⟨l,h⟩:=run_get h
   cases ab:hp id with
   | none=>rw[ab] at h;cases h
   | some blk=>
    rw[ab] at h
    cases blk<;>simp only at h<;>first|(cases h;done)|skip
    all_goals
     obtain rfl:=aM h
     cases hv with
     | dV hd=>rw[ab] at hd;cases hd
     | ee hd=>exact .same S (run _ _ _) .nilS
     | dt hd hb=>exact .same S (run _ _ _) .nilS
     | whole hd=>exact .same S (run _ _ _) .nilS
theorem WK (S:aF P w I β hp B M w0) {t:TypeId} {v ix:Value} {x y:V} {r:R} {rd:List Nat} (hv:ao P w I β hp v x) (hy:ao P w I β hp ix y)
  (h:(Gw P t x y).run C hp=some (r,rd)):cR P ((Instr.indexAt t v ix).run P w) w I β hp B M w0 r:=by
 unfold Gw at h
 cases hu:P.underlying t with
 | none=>rw[hu] at h;cases h
 | some d=>
  rw[hu] at h
  cases y<;>(try (cases d<;>cases h;done))
  rename_i k i
  rw[hy.dE]
  cases d<;>simp only at h<;>first|(cases h;done)|skip
  case slice e=>
   have run: ∀(b o len cap:Nat) (ie:TypeInfo),P.info? e=some ie→0≤i→i<(len:Int)→(Instr.indexAt t (.slice (some ⟨b,o,none⟩) len cap) (.int k i)).run P w= .ok (.pointer (some ⟨b,o+i.toNat*ie.size,none⟩)) w:=by
    intro b o len cap ie js h0 h1
    simp[Instr.indexAt,asIntOf,run_underlying hu,h0,h1,sizeOf,typeInfo,js,mQ]
   cases x<;>simp only at h<;>first|(cases h;done)|skip
   case list e' es=>
    obtain ⟨hc,h⟩:=aG h
    simp only[aK,aP] at hc
    obtain ⟨dw,au⟩:=hc
    have gl:e=e':=dw
    obtain ⟨ie,z,dJ,_,aU,_⟩:=jW au
    obtain ⟨el,cJ,h⟩:=la h
    obtain rfl:=aM h
    unfold idx at cJ
    cases h0:decide (0≤i) with
    | false=>rw[h0] at cJ;cases cJ
    | true=>
     rw[h0] at cJ
     simp only[cond_true] at cJ
     have vQ:0≤i:=by simpa using h0
     have aO:i.toNat<es.length:=(bt.1 cJ).1
     cases hv with
     | list hp'=>
      cases hp' with
      | nil=>simp at aO
      | emp=>simp at aO
      | @list b o len cap _ g hl bY hI fP hx=>
       rw[←gl] at fP hx hI
       refine .same S (run b o len cap ie dJ vQ (by omega)) ?_
       have bZ:=vC (P:=P) e el
       have Hr:=fh au
       have M1:(bif bE P e then flat P e else [e])=aR P e:=rfl
       rw[M1]
       refine .pref (by rw[bZ]) (fun _=>hI ?_) (fun j t' y' ht y6=> ?_)
       ·have:=Nat.mul_pos (show 0<len by omega) (jT au).2
        exact this
       ·obtain ⟨t2,a1,a2⟩:=GW y6
        rw[ht] at a1;cases a1
        have hj:j<P.cellsOf e:=by rw[←Hr];exact (bt.1 ht).1
        have gB:=hx i.toNat j el t' cJ ht
        refine ⟨g i.toNat j,?_,?_⟩
        ·rw[aU,nG];exact fP i.toNat j (by omega) hj
        ·rw[a2,gB.rK];exact gB
   case whole e' id=>
    obtain ⟨l,h⟩:=run_get h
    cases ab:hp id with
    | none=>rw[ab] at h;cases h
    | some blk=>
     rw[ab] at h
     cases blk<;>simp only at h<;>first|(cases h;done)|skip
     rename_i dq es fz
     obtain ⟨hc,h⟩:=aG h
     simp only[aK,aP] at hc
     obtain ⟨dw,iw⟩:=hc
     obtain ⟨ep,h⟩:=aG h
     simp only[aK,dR] at ep
     obtain rfl:=aM h
     cases hv with
     | dV hd=>rw[ab] at hd;cases hd
     | ee hd=>rw[ab] at hd;cases hd
     | dt hd hb=>rw[ab] at hd;cases hd;simp at ep;omega
     | @whole _ _ aI mJ b cap hd hb zl bY hm=>
      have eo:=hd
      rw[ab] at hd
      cases hd
      have hr:=S.h.rel id _ ab
      cases hr with
      | dv aA=>rw[aA] at hb;cases hb
      | arr au aA hh hs hf dW hx=>
       have gl:e=e':=dw
       obtain ⟨ie,z,dJ,_,aU,_⟩:=jW au
       rw[←gl] at dJ aU
       refine .same S (run b 0 _ cap ie dJ ep.1 ep.2) ?_
       have:=ao.ptr (P:=P) (w:=w) (I:=I) (i:=i.toNat) (c:=0) eo (by simp) hb
       simp only[an.sz] at this
       rw[gx,aU,gl]
       simpa using this
     rename_i dq es aq
     obtain ⟨hc,h⟩:=aG h
     simp only[aK,aP] at hc
     obtain ⟨dw,iw⟩:=hc
     obtain ⟨ep,h⟩:=aG h
     simp only[aK,dR] at ep
     obtain rfl:=aM h
     cases hv with
     | dV hd=>rw[ab] at hd;cases hd
     | dt hd hb=>rw[ab] at hd;cases hd
     | whole hd=>rw[ab] at hd;cases hd
     | @ee _ _ aI vers' b cap hd hb zl bY hm=>
      have eo:=hd
      rw[ab] at hd
      cases hd
      have au:=(S.rows eo hb .here).ok
      have gl:e=e':=dw
      obtain ⟨ie,z,dJ,_,aU,_⟩:=jW au
      rw[←gl] at dJ aU
      refine .same S (run b 0 _ cap ie dJ ep.1 ep.2) ?_
      have:=ao.ptr (P:=P) (w:=w) (I:=I) (i:=i.toNat) (c:=0) eo (by simp) hb
      simp only[an.sz] at this
      rw[gx,aU,gl]
      simpa using this
   case row e' id ver path=>
    obtain ⟨e0,es,aq,l,ab,h1,U,h3,h⟩:=nU h
    obtain ⟨e2,v',k1,k2,h⟩:=vu h
    obtain ⟨hc,h⟩:=aG h
    simp only[aK,aP] at hc
    obtain ⟨dw,iw⟩:=hc
    obtain ⟨ep,h⟩:=aG h
    simp only[aK,dR] at ep
    obtain rfl:=aM h
    cases hv with
    | jl hd hp'=>rw[ab] at hd;cases hd;exact absurd hp' (vw h1 U h3)
    | @row v _ e0 t1 _ ver b i1 c1 q es l1 aq hd hb hq G9 ht fP=>
     have WM:=fP
     obtain ⟨b',e3,aI,Ca,T,f,x,m1,m2,m3,m4,m5,m6⟩:=fP
     have iA:=hd
     rw[ab] at iA
     cases iA
     obtain ⟨n1,n2⟩:=CG m1 m3 m4 ht m5
     rw[n2] at k2
     cases k2
     simp only[V.toList] at ep
     have hR:=S.rows hd hb m1
     obtain ⟨C1,c2,c3,c4⟩:=hR.cells
     rw[m2] at c2
     cases c2
     have hj:c1<P.cellsOf e3:=by
      rw[←fh hR.ok];exact (bt.1 m4).1
     obtain ⟨v2,d1,d2⟩:=c4 _ _ _ _ m3 m4 hj
     rw[m6] at d1
     cases d1
     rw[m5] at d2
     cases d2 with
     | fx a _=>unfold fu at a;rw[ht] at a;cases a
     | emp _ _=>simp at ep;omega
     | @row _ _ b1 cap _ hl _ _ _=>
      have au:=(S.rows hd hb (m1.snoc m2 m3 m4 ht m5 hl m6)).ok
      have gl:e=e':=dw
      obtain ⟨ie,z,dJ,_,aU,_⟩:=jW au
      rw[←gl] at dJ aU
      refine .same S (run b1 0 _ cap ie dJ ep.1 ep.2) ?_
      have:=ao.cw (P:=P) (I:=I) (i:=i.toNat) (c:=0) hd hb hq G9 ht hl WM
      rw[gx,aU,gl]
      simpa using this
   case sub e' id off len=>
    obtain ⟨l,h⟩:=run_get h
    cases ab:hp id with
    | none=>rw[ab] at h;cases h
    | some blk=>
     rw[ab] at h
     cases blk<;>simp only at h<;>first|(cases h;done)|skip
     rename_i dq es fz
     obtain ⟨hc,h⟩:=aG h
     simp only[aK,aP] at hc
     obtain ⟨dw,iw⟩:=hc
     obtain ⟨ep,h⟩:=aG h
     simp only[aK,dR] at ep
     obtain rfl:=aM h
     cases hv with
     | fO hd=>rw[ab] at hd;cases hd
     | fy hd hb=>simp at ep;omega
     | @sub _ _ _ _ aI mJ b o cap hd hb ky bY ho=>
      have eo:=hd
      rw[ab] at hd
      cases hd
      have hr:=S.h.rel id _ ab
      cases hr with
      | dv aA=>rw[aA] at hb;cases hb
      | arr au aA hh hs hf dW hx=>
       have gl:e=e':=dw
       obtain ⟨ie,z,dJ,_,aU,_⟩:=jW au
       rw[←gl] at dJ aU
       refine .same S (run b o _ cap ie dJ ep.1 ep.2) ?_
       have:=ao.ptr (P:=P) (w:=w) (I:=I) (i:=off+i.toNat) (c:=0) eo (by simp) hb
       simp only[an.sz] at this
       rw[ho (by omega),aU,gl,←db]
       simpa using this
  case array n e=>
   have run: ∀(b o:Nat) (ie:TypeInfo),P.info? e=some ie→0≤i→i<(n:Int)→(Instr.indexAt t (.pointer (some ⟨b,o,none⟩)) (.int k i)).run P w= .ok (.pointer (some ⟨b,o+i.toNat*ie.size,none⟩)) w:=by
    intro b o ie js h0 h1
    simp[Instr.indexAt,asIntOf,run_underlying hu,h0,h1,sizeOf,typeInfo,js,mQ,Instr.sureAddr]
   cases x<;>simp only at h<;>first|(cases h;done)|skip
   case ptr id j c=>
    obtain ⟨⟨blk,ab,hd⟩,l,h⟩:=vA h
    obtain ⟨ep,h⟩:=aG h
    simp only[aK,dR] at ep
    obtain rfl:=aM h
    obtain ⟨b,hb,rfl⟩:=hv.gD ab hd
    obtain ⟨d,tC⟩:=y9 ep.1
    obtain ⟨ie,js⟩:=vB tC
    have aU:ie.size=P.cellsOf e:=by simp[Program.cellsOf,js]
    refine .same S (run b _ ie js ep.2.1 ep.2.2) ?_
    rw[aU,nG]
    exact .ptr ab hd hb
   case pref ts cs=>
    obtain ⟨ep,h⟩:=aG h
    simp only[aK,dR] at ep
    obtain rfl:=aM h
    obtain ⟨b,o,rfl,h1,U,h3⟩:=hv.CO
    obtain ⟨d,tC⟩:=y9 ep.1
    obtain ⟨ie,js⟩:=vB tC
    have aU:ie.size=P.cellsOf e:=by simp[Program.cellsOf,js]
    refine .same S (run b _ ie js ep.2.1 ep.2.2) ?_
    rw[aU]
    exact ao.Mm h1 U h3
end
end Go.AM
namespace Go.AM
open Go.Maps
section
variable {P:Program} {w w':World} {I I':Nat→Prop} {β β':Nat→Option Nat} {hp hp':Nat→Option an} {C:ag} {B:Nat} {M:Nat→Prop} {w0:Start}
theorem WN (S:aF P w I β hp B M w0) {nb:Nat} {t:TypeId} {v:Value} {x:V} {lo hi:Option V} {lov hiv:Option Value} {r:R} {rd:List Nat} (hv:ao P w I β hp v x)
  (gH: ∀x,hi=some x→∃v,hiv=some v∧ao P w I β hp v x) (mU:lo=none→lov=none)
  (h:(Cq P nb t x lo hi).run C hp=some (r,rd)):cR P ((Instr.sliceAt t v lov hiv none).run P w) w I β hp B M w0 r:=by
 unfold Cq at h
 split at h
 case h_2=>cases h
 rename_i e e' id k hh hu
 obtain ⟨l,h1⟩:=run_get h
 cases ab:hp id with
 | none=>rw[ab] at h1;cases h1
 | some blk=>
  rw[ab] at h1
  cases blk<;>simp only at h1<;>first|(cases h1;done)|skip
  rename_i e2 es fz
  cases fz with
  | true=>cases h1
  | false=>
  obtain ⟨hc,U⟩:=aG h1
  simp only[aK,aP,dR] at hc
  obtain ⟨rfl,rfl,au,M3,M4⟩:=hc
  obtain ⟨hn,rfl⟩:=mS U
  have iE:=mU rfl
  subst iE
  obtain ⟨Hs,rfl,WO⟩:=gH _ rfl
  obtain rfl:=WO.dE
  obtain ⟨i,z,dJ,_,aU,_⟩:=jW au
  have bz:nb≠id:=fun e=>by rw[e,ab] at hn;cases hn
  obtain ⟨k1,k2⟩:=CK S ab
  have jX:aH hp id (some an.dead) nb=none:=by rw[dX _ _ bz];exact hn
  have M5: ∀cap,es.length≤cap→(Instr.sliceBounds true es.length cap none (some (.int k hh)) none).run P w= .ok (0,hh.toNat,cap) w:=by
   intro cap bY
   have hb:(rz es.length none (some (.int k hh)) fun l u=> .aC (decide (l=0∧u=hh.toNat)) (.ret (⟨.undef,[]⟩:R))).run C hp=some (⟨.undef,[]⟩,[]):=by
    simp[rz,Rd.run,M3,M4]
   obtain ⟨l,u,b1,b2,b3,b4⟩:=qt (P:=P) (w:=w) (I:=I) (β:=β) (hp:=hp) (n:=es.length) (isS:=true) (cap:=cap) (lov:=none) (hiv:=some (.int k hh)) bY (by simp) (fun x hx=>by cases hx;exact ⟨_,rfl,.int⟩) (fun _=>rfl) (by simp) hb
   obtain ⟨b5,_⟩:=aG b4
   simp only[dR] at b5
   obtain ⟨rfl,rfl⟩:=b5
   exact b3
  cases hv with
  | dV hd=>rw[ab] at hd;cases hd
  | ee hd=>rw[ab] at hd;cases hd
  | @dt _ _ _ a0 hd hb=>
   rw[ab] at hd
   cases hd
   have G2:hh=0:=by simpa using Int.le_antisymm M4 M3
   subst G2
   have aA:=M5 0 (bW _)
   obtain ⟨a1,a2⟩:=CJ k2 e jX
   refine ⟨_,w,I,_,De hu dJ aA,k1.trans a1,a2,.dt (cM _ _ _) (cM _ _ _)⟩
  | @whole _ _ aI mJ b cap hd hb zl bY hm=>
   have eo:=hd
   rw[ab] at hd
   cases hd
   have hr:=S.h.rel id _ ab
   cases hr with
   | dv aA=>rw[aA] at hb;cases hb
   | @arr _ _ _ b' Ca _ aA Df pd hf dW lT=>
    rw[hb] at aA
    cases aA
    have iY:(es.take hh.toNat).length=hh.toNat:=by rw[eL];omega
    have cN:(Instr.sliceAt t (.slice (some ⟨b,0,none⟩) es.length cap) none (some (.int k hh)) none).run P w= .ok (.slice (some ⟨b,0,none⟩) hh.toNat cap) w:=by
     have aA:=M5 cap bY
     by_cases M6:cap=0
     ·subst M6
      simp[Instr.sliceAt,Instr.slice,run_underlying hu,aA,sizeOf,typeInfo,dJ]
     ·simp[Instr.sliceAt,Instr.slice,run_underlying hu,aA,sizeOf,typeInfo,dJ,M6,mQ]
    have qf: ∀aD blk',aH hp id (some an.dead) aD=some blk'→¬bu P w (β aD) blk' b:=by
     intro aD blk' h1 U
     by_cases iD:aD=id
     ·subst iD;rw[cM] at h1;cases h1;exact U.alive rfl
     ·rw[dX _ _ iD] at h1
      exact iD (S.h.inj aD id blk' _ b h1 ab U (.root (by simp) hb))
    obtain ⟨a1,a2⟩:=y5 k2 (blk:= .arr e (es.take hh.toNat) false) (w':=w) jX qf (dW rfl) (fun _ _ _=>rfl) (bW _) ⟨rfl,rfl⟩ (S.h.rG id _ b ab (by simp) hb)
     (fun b' h=>(cX (h.flat (by simp))).symm) (fun hle=> .arr au rfl Df (by rw[iY];exact lH (dp _ (by omega)) pd) (fun h=>by cases h) (fun _=>dW rfl) fun i j y t' hy ht hj=>by
      have qs:=(bt.1 hy).1
      rw[iY] at qs
      rw[eK qs] at hy
      obtain ⟨v,hv,hp⟩:=lT i j y t' hy ht hj
      exact ⟨v,hv,hp.mono hle.c7 hle.b6⟩)
    refine ⟨_,w,I,_,cN,k1.trans a1,a2,?_⟩
    have:=ao.whole (P:=P) (w:=w) (I:=I) (β:=aH β nb (some b)) (hp:=aH (aH hp id (some .dead)) nb (some (.arr e (es.take hh.toNat) false))) (cap:=cap) (cM _ _ _) (cM _ _ _) zl (by rw[iY];omega) hm
    rw[iY] at this
    exact this
theorem qu {t:TypeId} {x:V} (h:oV P t x=true):
  (∃q n,P.underlying t=some (.int q)∧x= .int q n∧Gm q n=true)∨(∃b,P.underlying t=some .bool∧x= .bool b)∨(∃s,P.underlying t=some .string∧x= .str s∧s.length≤maxLen):=by
 unfold oV at h
 split at h
 ·rename_i q q' n hu
  simp only[aK,dR] at h
  obtain ⟨rfl,h⟩:=h
  exact .inl ⟨_,_,hu,rfl,h⟩
 ·rename_i b hu
  exact .inr (.inl ⟨_,hu,rfl⟩)
 ·rename_i s hu
  exact .inr (.inr ⟨_,hu,rfl,by simpa using h⟩)
 ·cases h
theorem size_data (s:ByteArray):s.data.toList.length=s.size:=by simp
theorem WQ {q:IntKind} {n:Int} (h:Gm q n=true):(Lit.int q n).wf=true:=h
theorem M7 {t:TypeId} {x:V} {v:Value} (h:oV P t x=true) (hv:iW v x): ∃l,mapKey P t v=some l∧∀d,P.keyLits (d+1) t [v]=some [l]:=by
 rcases qu h with ⟨q,n,hu,rfl,hn⟩|⟨b,hu,rfl⟩|⟨s,hu,rfl,hs⟩
 ·obtain rfl:v= .int q n:=hv
  have hw:=WQ hn
  exact ⟨.int q n,by simp[mapKey,hu,hw],fun d=>by simp[Program.keyLits,hu,hw]⟩
 ·obtain rfl:v= .bool b:=hv
  exact ⟨.bool b,by simp[mapKey,hu],fun d=>by simp[Program.keyLits,hu]⟩
 ·obtain ⟨s',rfl,Ht⟩:=hv
  have:s'.size≤maxLen:=by rw[←size_data,Ht];exact hs
  exact ⟨.string s'.data.toList,by simp[mapKey,hu,this],fun d=>by simp[Program.keyLits,hu,this]⟩
theorem Hu {t:TypeId}: ∀{xs:List V} {j:Nat} {x:V},pV P t xs=true→xs[j]? =some x→oV P t x=true
 | [],j,x,_,h=>by simp at h
 | y::ys,0,x,h,hx=>by
  simp only[pV,aK] at h
  simp at hx;subst hx;exact h.1
 | y::ys,j+1,x,h,hx=>by
  simp only[pV,aK] at h
  exact Hu (j:=j) h.2 (by simpa using hx)
theorem mapM_some {α β:Type} {f:α→Option β}: ∀{l:List α},(∀a∈l,∃b,f a=some b)→∃bs,l.mapM f=some bs
 | [],_=>⟨[],rfl⟩
 | a::l,h=>by
  obtain ⟨b,hb⟩:=h a (rk ..)
  obtain ⟨bs,gC⟩:=mapM_some (l:=l) fun x hx=>h x (kS _ hx)
  exact ⟨b::bs,by simp[List.mapM_cons,hb,gC]⟩
inductive Hv (P:Program) (t:TypeId) (x:V):Prop
 | one:oV P t x=true→x.cells=[x]→Hv P t x
 | arr {n:Nat} {e:TypeId} {xs:List V}:x= .agg xs→WideMaps.ArrKey P t e n→xs.length=n→0<P.types.size→pV P e xs=true→Hv P t x
theorem vR {t:TypeId} {x:V} (h:mI P t x=true):Hv P t x:=by
 unfold mI at h
 split at h
 ·rename_i n e xs hu
  simp only[aK,aP] at h
  rw[jJ] at h
  exact .arr rfl ⟨hu,h.2.2.2.1,h.2.1,h.2.2.1⟩ h.1 h.2.2.2.2.1 h.2.2.2.2.2
 ·refine .one h ?_
  rcases qu h with ⟨q,n,hu,rfl,hn⟩|⟨b,hu,rfl⟩|⟨s,hu,rfl,hs⟩<;>rfl
theorem p8.one {x:V} {v:Value} (h:p8 v x) (hx:x.cells=[x]):iW v x:=by
 cases x<;>first|exact h|skip
 simp only[V.cells] at hx
 rename_i cs
 have:=congrArg List.length hx
 cases cs with
 | nil=>simp at hx
 | cons c cs=>
  simp only[List.cons.injEq] at hx
  have:=congrArg SizeOf.sizeOf hx.1
  simp at this
  omega
theorem Dg {t:TypeId} {x:V} {v:Value} (h:mI P t x=true) (hv:p8 v x): ∃l,Go.keyOf P t v=some l:=by
 cases vR h with
 | one h1 hx=>
  obtain ⟨l,hl,_⟩:=M7 h1 (hv.one hx)
  refine ⟨l,?_⟩
  rcases qu h1 with ⟨q,n,hu,_⟩|⟨b,hu,_⟩|⟨s,hu,_⟩<;>simp only[Go.keyOf,hu,hl]
 | @arr n e xs hx A hl hp0 hf=>
  subst hx
  obtain ⟨cs,rfl,hs,hc⟩:=hv
  obtain ⟨m,hm⟩: ∃m,P.types.size=m+1:=⟨P.types.size-1,by omega⟩
  have WR:=A.keyType ⟨m,hm⟩
  have hlen:cs.toList.length=P.cellsOf t:=by rw[A.size];simp[hs,hl]
  have WS:(Value.agg cs).formed P t=true:=by simp[Value.formed,A.hu,A.size,hs,hl]
  have hex: ∀i∈List.range n,∃y,P.keyLits (m+1) e (((Value.agg cs).cells.toList.drop (i*P.cellsOf e)).take (P.cellsOf e))=some y:=by
   intro i hi
   have hi:=List.mem_range.1 hi
   rw[A.one]
   have fS:i<cs.size:=by omega
   have bP:i<xs.length:=by omega
   obtain ⟨l,_,U⟩:=M7 (Hu hf (bB bP)) (hc i cs[i] xs[i] (kj fS) (bB bP))
   have e1:((Value.agg cs).cells.toList.drop (i*1)).take 1=[cs[i]]:=by
    show (cs.toList.drop (i*1)).take 1=_
    rw[mC,List.drop_eq_getElem_cons (by simpa using fS)]
    simp
   rw[e1]
   exact ⟨_,U m⟩
  obtain ⟨bs,gC⟩:=mapM_some hex
  refine ⟨.string (keyBytes bs.flatten),?_⟩
  have WU:(Value.agg cs).cells.toList.length=P.cellsOf t:=hlen
  unfold Go.keyOf
  rw[A.hu]
  simp only[WR,WS,Bool.and_self,cE]
  unfold Program.keyLits
  rw[A.hu,hm]
  simp only[WU,cE,gC,Option.map_some]
theorem Hw {t:TypeId} {x:V} (h:mI P t x=true):Keyed P t:=by
 cases vR h with
 | one h1 hx=>
  rcases qu h1 with ⟨q,n,hu,_⟩|⟨b,hu,_⟩|⟨s,hu,_⟩
  ·exact int_keyed hu
  ·exact bool_keyed hu
  ·exact string_keyed hu
 | arr hx A hl _ hf=>exact Keyed.of_law A.law
theorem M8 {t:TypeId} {x y:V} {v u:Value} (h1:oV P t x=true) (U:oV P t y=true) (hv:iW v x) (hu:iW u y):vf x y=true↔v=u:=by
 rcases qu h1 with ⟨q,n,lU,rfl,_⟩|⟨b,lU,rfl⟩|⟨s,lU,rfl,_⟩<;>
 rcases qu U with ⟨q',n',lV,rfl,_⟩|⟨b',lV,rfl⟩|⟨s',lV,rfl,_⟩<;>
  (rw[lU] at lV;cases lV)
 ·obtain rfl:v= .int q n:=hv
  obtain rfl:u= .int q n':=hu
  simp[vf]
 ·obtain rfl:v= .bool b:=hv
  obtain rfl:u= .bool b':=hu
  simp[vf]
 ·obtain ⟨s1,rfl,e1⟩:=hv
  obtain ⟨s2,rfl,e2⟩:=hu
  simp only[vf,beq_iff_eq,Value.string.injEq,←e1,←e2]
  constructor
  ·intro h
   have:=Array.toList_inj.1 h
   cases s1;cases s2;simp_all
  ·rintro rfl;rfl
theorem M9 {t:TypeId}: ∀{xs ys:List V} {vs us:List Value},pV P t xs=true→pV P t ys=true→xs.length=ys.length→vs.length=xs.length→us.length=ys.length→
  (∀(j:Nat) v x,vs[j]? =some v→xs[j]? =some x→iW v x)→(∀(j:Nat) v x,us[j]? =some v→ys[j]? =some x→iW v x)→(sZ xs ys=true↔vs=us)
 | [],[],vs,us,_,_,_,h1,U,_,_=>by
  have e1:=kR (l:=vs) (by simpa using h1)
  have e2:=kR (l:=us) (by simpa using U)
  simp[sZ,e1,e2]
 | [],_::_,_,_,_,_,h,_,_,_,_=>by simp at h
 | _::_,[],_,_,_,_,h,_,_,_,_=>by simp at h
 | x::xs,y::ys,[],us,_,_,_,h,_,_,_=>by simp at h
 | x::xs,y::ys,v::vs,[],_,_,_,_,h,_,_=>by simp at h
 | x::xs,y::ys,v::vs,u::us,f1,f2,h,h1,U,r1,r2=>by
  simp only[pV,aK] at f1 f2
  have a:=M8 f1.1 f2.1 (r1 0 v x rfl rfl) (r2 0 u y rfl rfl)
  have b:=M9 (vs:=vs) (us:=us) f1.2 f2.2 (by simpa using h) (by simpa using h1) (by simpa using U) (fun j v x hj hx=>r1 (j+1) v x (by simpa using hj) (by simpa using hx)) (fun j v x hj hx=>r2 (j+1) v x (by simpa using hj) (by simpa using hx))
  simp only[sZ,aK,a,b,List.cons.injEq]
theorem Hy {t:TypeId} {x y:V} {v u:Value} (h1:mI P t x=true) (U:mI P t y=true) (hv:p8 v x) (hu:p8 u y):lK x y=true↔v=u:=by
 unfold lK
 cases vR h1 with
 | one f1 c1=>
  cases vR U with
  | one f2 c2=>
   rw[c1,c2]
   simp only[sZ,Bool.and_true]
   exact M8 f1 f2 (hv.one c1) (hu.one c2)
  | arr hy A hl _ hf=>
   rcases qu f1 with ⟨q,n,lU,_⟩|⟨b,lU,_⟩|⟨s,lU,_⟩<;>(rw[A.hu] at lU;cases lU)
 | arr hx A hl _ hf=>
  cases vR U with
  | one f2 c2=>
   rcases qu f2 with ⟨q,n,lU,_⟩|⟨b,lU,_⟩|⟨s,lU,_⟩<;>(rw[A.hu] at lU;cases lU)
  | arr hy A2 jh _ zn=>
   have gl:=A.hu.symm.trans A2.hu
   cases gl
   subst hx
   subst hy
   obtain ⟨cs,rfl,s1,r1⟩:=hv
   obtain ⟨ds,rfl,s2,r2⟩:=hu
   have:=M9 (vs:=cs.toList) (us:=ds.toList) hf zn (by omega) (by simpa using s1) (by simpa using s2) (fun j v x hj hx=>r1 j v x (by simpa using hj) hx) (fun j v x hj hx=>r2 j v x (by simpa using hj) hx)
   simp only[V.cells,this,Value.agg.injEq]
   exact Array.toList_inj
theorem Na {k:V}: ∀{es:List V},(∀x∈es,lK k (x.comp 0)=false)→kX k es=false∧(∀z,lL k es z=z)∧∀v,il k v es=es++[.bd [k,v]]
 | [],_=>⟨rfl,fun _=>rfl,fun _=>rfl⟩
 | e::es,h=>by
  have h0:=h e (rk ..)
  obtain ⟨a,b,c⟩:=Na (k:=k) (es:=es) fun x hx=>h x (kS _ hx)
  exact ⟨by simp[kX,h0,a],fun z=>by simp[lL,h0,b],fun v=>by simp[il,h0,c]⟩
theorem Nb {k:V}: ∀{es:List V} {j:Nat} {k' y:V},es[j]? =some (.bd [k',y])→lK k k'=true→(∀i x,i<j→es[i]? =some x→lK k (x.comp 0)=false)→
  kX k es=true∧(∀z,lL k es z=y)∧∀v,il k v es=es.set j (.bd [k',v])
 | [],j,k',y,h,_,_=>by simp at h
 | e::es,0,k',y,h,he,_=>by
  simp at h
  subst h
  exact ⟨by simp[kX,V.comp,V.nth,he],fun z=>by simp[lL,V.comp,V.nth,he],fun v=>by simp[il,V.comp,V.nth,he]⟩
 | e::es,j+1,k',y,h,he,aO=>by
  have h0:=aO 0 e (by omega) rfl
  obtain ⟨a,b,c⟩:=Nb (k:=k) (es:=es) (j:=j) (by simpa using h) he fun i x hi hx=>aO (i+1) x (by omega) (by simpa using hx)
  exact ⟨by simp[kX,h0,a],fun z=>by simp[lL,h0,b],fun v=>by simp[il,h0,c]⟩
theorem Nc {kt vt:TypeId} {E:Array MapEntry} {es:List V} {k:V} {kv:Value} (hs:E.size=es.length) (hx: ∀(j:Nat) (e:MapEntry) (x:V),E[j]? =some e→es[j]? =some x→CA P kt vt e x)
  (hn:E.toList.Pairwise (fun a b=>a.key≠b.key)) (hk:mI P kt k=true) (Dh:p8 kv k) (w:World):
  ((Instr.findKey kt kv E.toList).run P w= .ok none w∧(∀e∈E.toList,e.key≠kv)∧kX k es=false∧(∀z,lL k es z=z)∧∀v,il k v es=es++[.bd [k,v]])∨
  ∃j e k' y,(Instr.findKey kt kv E.toList).run P w= .ok (some (j,e.val)) w∧E[j]? =some e∧e.key=kv∧es[j]? =some (.bd [k',y])∧mI P kt k'=true∧p8 kv k'∧eC P vt y=true∧iW e.val y∧
   kX k es=true∧(∀z,lL k es z=y)∧∀v,il k v es=es.set j (.bd [k',v]):=by
 have K:=Hw hk
 obtain ⟨l,hl⟩:=Dg hk Dh
 have Nd: ∀(j:Nat) x,es[j]? =some x→∃e,E[j]? =some e∧CA P kt vt e x:=by
  intro j x hj
  have aO:j<E.size:=by rw[hs];exact (bt.1 hj).1
  exact ⟨E[j],kj aO,hx j _ x (kj aO) hj⟩
 have keys: ∀e∈E.toList,∃l,Go.keyOf P kt e.key=some l:=by
  intro e he
  obtain ⟨j,hj⟩:=ri he
  have gj:E[j]? =some e:=by simpa using hj
  have aO:j<es.length:=by rw[←hs];exact (gQ.1 gj).1
  obtain ⟨k',y,_,h1,U,_⟩:=hx j e es[j] gj (bB aO)
  exact Dg h1 U
 rcases K.find w hl E.toList keys with ⟨h1,U⟩|⟨j,e,h1,U,h3⟩
 ·left
  refine ⟨h1,U,Na fun x WV=> ?_⟩
  obtain ⟨j,hj⟩:=ri WV
  obtain ⟨e,he,k',y,rfl,f1,f2,_⟩:=Nd j x hj
  cases hq:lK k (V.comp (.bd [k',y]) 0) with
  | false=>rfl
  | true=>
   have:=(Hy hk f1 Dh f2).1 hq
   exact absurd this.symm (U e (jg (by simpa using he)))
 ·right
  have hE:E[j]? =some e:=by simpa using U
  have aO:j<es.length:=by rw[←hs];exact (gQ.1 hE).1
  obtain ⟨k',y,hy,f1,f2,f3,f4⟩:=hx j e es[j] hE (bB aO)
  have hj:=bB aO
  rw[hy] at hj
  rw[h3] at f2
  refine ⟨j,e,k',y,h1,hE,h3,hj,f1,f2,f3,f4,Nb hj ((Hy hk f1 Dh f2).2 rfl) fun i x hi gh=> ?_⟩
  obtain ⟨e',gE,k2,y2,rfl,g1,g2,_⟩:=Nd i x gh
  cases hq:lK k (V.comp (.bd [k2,y2]) 0) with
  | false=>rfl
  | true=>
   have:=(Hy hk g1 Dh g2).1 hq
   have i1:i<E.toList.length:=by have:=(bt.1 gh).1;simp;omega
   have i2:j<E.toList.length:=by simp;omega
   have:=B1.1 hn i j i1 i2 hi
   have a1:E.toList[i]=e':=by
    have:E.toList[i]? =some e':=by simpa using gE
    rw[bB i1] at this;exact cX this
   have a2:E.toList[j]=e:=by
    have:=U
    rw[bB i2] at this;exact cX this
   rw[a1,a2,h3] at this
   exact absurd (by rw[← ‹kv=e'.key›]) this
theorem ao.Nf {v:Value} {x:V} (h:ao P w I β hp v x) {t:TypeId} (hx:oV P t x=true):iW v x:=by
 rcases qu hx with ⟨q,n,_,rfl,_⟩|⟨b,_,rfl⟩|⟨s,_,rfl,_⟩
 ·exact h.dE
 ·exact h.jU
 ·exact h.lP
theorem ao.Ng {v:Value} {x:V} (h:ao P w I β hp v x) {t:TypeId} (hx:mI P t x=true):p8 v x:=by
 cases vR hx with
 | one f c=>
  have:=h.Nf f
  cases x<;>first|exact this|cases this
 | arr hx A hl _ hf=>
  subst hx
  obtain ⟨cs,rfl,h1,U⟩:=h.kB
  exact ⟨cs,rfl,h1,fun j u y hu hy=>(U j u y hu hy).Nf (Hu hf hy)⟩
theorem Nh {vt:TypeId} {y:V} (h:mapVal P vt=true) (ht:eC P vt y=true):(∃q n,P.underlying vt=some (.int q)∧y= .int q n)∨∃b,P.underlying vt=some .bool∧y= .bool b:=by
 unfold mapVal at h
 unfold eC at ht
 split at h
 ·rename_i q hu
  rw[hu] at ht
  cases y<;>first|(simp at ht;done)|skip
  simp only[dR] at ht
  subst ht
  exact .inl ⟨_,_,hu,rfl⟩
 ·rename_i hu
  rw[hu] at ht
  cases y<;>first|(simp at ht;done)|skip
  exact .inr ⟨_,hu,rfl⟩
 ·cases h
theorem iW.Hz {vt:TypeId} {v:Value} {y:V} (h:mapVal P vt=true) (ht:eC P vt y=true) (hv:iW v y):ao P w I β hp v y:=by
 rcases Nh h ht with ⟨q,n,_,rfl⟩|⟨b,_,rfl⟩
 ·obtain rfl:v= .int q n:=hv;exact .int
 ·obtain rfl:v= .bool b:=hv;exact .bool
theorem ao.WW {vt:TypeId} {v:Value} {y:V} (h:mapVal P vt=true) (ht:eC P vt y=true) (hv:ao P w I β hp v y):iW v y:=by
 rcases Nh h ht with ⟨q,n,_,rfl⟩|⟨b,_,rfl⟩
 ·exact hv.dE
 ·exact hv.jU
theorem WX {vt:TypeId} {z:V} (h:Cl P vt=some z) (w:World): ∃v,(zeroValue vt).run P w= .ok v w∧iW v z:=by
 unfold Cl at h
 cases hi:P.info? vt with
 | none=>rw[hi] at h;cases h
 | some i=>
  rw[hi] at h
  simp only[Option.bind_some] at h
  cases hz:i.zero with
  | none=>rw[hz] at h;cases h
  | some v=>
   rw[hz] at h
   refine ⟨v,by simp[zeroValue,typeInfo,hi,hz],?_⟩
   cases v<;>simp only at h<;>first|(cases h;done)|skip
   ·cases h;rfl
   ·cases h;rfl
theorem HA {t kt vt:TypeId} (h:kY P t=some (kt,vt)):P.underlying t=some (.map kt vt):=by
 unfold kY at h
 split at h
 ·rename_i k e hu;cases h;exact hu
 ·cases h
theorem HB (S:aF P w I β hp B M w0) {ok:Bool} {v:Value} {x:V} {b:Bool} {r:R} {rd:List Nat} {res:Result Value} (hv:ao P w I β hp v x)
  (hr:res= .ok (if ok then .tuple #[v,.bool b] else v) w) (h:(Cm ok x b).run C hp=some (r,rd)):cR P res w I β hp B M w0 r:=by
 unfold Cm at h
 obtain rfl:=aM h
 cases ok with
 | false=>exact .same S hr hv
 | true=>
  refine .same S hr (.bd rfl fun j u y hu hy=> ?_)
  match j,hu,hy with
  | 0,hu,hy=>simp at hu hy;subst hu;subst hy;exact hv
  | 1,hu,hy=>simp at hu hy;subst hu;subst hy;exact .bool
  | j+2,hu,hy=>simp at hy
theorem WY (S:aF P w I β hp B M w0) {t kt vt:TypeId} (ht:kY P t=some (kt,vt)) {m k:Value} {mx kx:V} {ok:Bool} {r:R} {rd:List Nat} (hm:ao P w I β hp m mx) (hk:ao P w I β hp k kx)
  (h:(Gn P t mx kx ok).run C hp=some (r,rd)):cR P ((Instr.lookup t m k ok).run P w) w I β hp B M w0 r:=by
 unfold Gn at h
 rw[ht] at h
 simp only at h
 cases hz:Cl P vt with
 | none=>rw[hz] at h;cases h
 | some z=>
  rw[hz] at h
  obtain ⟨hc,h'⟩:=aG h
  clear h
  have h:=h'
  clear h'
  simp only[aK] at hc
  obtain ⟨jY,zo,Di⟩:=hc
  have hu:=HA ht
  have vS:=hk.Ng jY
  have K:=Hw jY
  obtain ⟨l,hl⟩:=Dg jY vS
  obtain ⟨zv,Ni,Nj⟩:=WX hz w
  cases mx<;>simp only at h<;>first|(cases h;done)|skip
  ·rename_i t' id
   obtain ⟨lj,h'⟩:=aG h
   clear h
   have h:=h'
   clear h'
   rw[aP] at lj
   subst lj
   obtain ⟨l2,h'⟩:=run_get h
   clear h
   have h:=h'
   clear h'
   cases ab:hp id with
   | none=>rw[ab] at h;cases h
   | some blk=>
    rw[ab] at h
    cases blk<;>simp only at h<;>first|(cases h;done)|skip
    rename_i t2 es
    obtain ⟨lj,h'⟩:=aG h
    clear h
    have h:=h'
    clear h'
    rw[aP] at lj
    subst lj
    cases hm with
    | gZ hd=>rw[ab] at hd;cases hd
    | @cl _ _ b aI hd hb=>
     rw[ab] at hd
     cases hd
     have hr:=S.h.rel id _ ab
     cases hr with
     | @map _ Nk Nl _ b' clock E fA aA hh hs hI hx hn=>
      rw[hb] at aA;cases aA
      rw[hu] at fA;cases fA
      rcases Nc hs hx hn jY vS w with ⟨h1,_,h3,h4,_⟩|⟨j,e,k',y,h1,_,_,_,_,_,h6,h7,h3,h4,_⟩
      ·rw[h3,h4,y8 Di] at h
       refine HB S (iW.Hz zo Di Nj) ?_ h
       unfold Instr.lookup
       simp only[Sem.run_bind,run_underlying hu,Result.andThen_ok,Go.MapKept.run_getObj_map hh,Sem.run_pure,K.check w E.isEmpty hl,h1,Ni]
      ·rw[h3,h4,y8 h6] at h
       refine HB S (iW.Hz zo h6 h7) ?_ h
       unfold Instr.lookup
       simp only[Sem.run_bind,run_underlying hu,Result.andThen_ok,Go.MapKept.run_getObj_map hh,Sem.run_pure,K.check w E.isEmpty hl,h1]
  ·rename_i t'
   obtain ⟨lj,h⟩:=aG h
   cases hm
   rw[y8 Di] at h
   refine HB S (iW.Hz zo Di Nj) ?_ h
   have hf:(Instr.findKey kt k []).run P w= .ok none w:=by
    rcases K.find w hl [] (by simp) with ⟨h1,_⟩|⟨j,e,_,U,_⟩
    ·exact h1
    ·simp at U
   unfold Instr.lookup
   simp[run_underlying hu,K.check w true hl,hf,Ni]
theorem WZ (S:aF P w I β hp B M w0) {t:TypeId} {nb:Nat} {r:R} {rd:List Nat} (h:(Rd.aC (kY P t).isSome (iS nb (.map t []) (.cl t nb) [])).run C hp=some (r,rd)):
  cR P ((Instr.makeMap t none).run P w) w I β hp B M w0 r:=by
 obtain ⟨ht,h⟩:=aG h
 obtain ⟨hn,rfl⟩:=mS h
 obtain ⟨⟨kt,vt⟩,ht⟩:=yn.1 ht
 have hu:=HA ht
 have cH: ¬I w.heap.size:=fun h=>Nat.lt_irrefl _ (S.h.jn _ h)
 have eE:(w.alloc (.map #[] 0)).heap[w.heap.size]? =some (.map #[] 0):=heap_alloc_new w _
 obtain ⟨a1,a2⟩:=y5 S (w':=w.alloc (.map #[] 0)) (blk:= .map t []) (b:=w.heap.size) hn (fun aD blk' h ho=>Nat.lt_irrefl _ (S.h.lt h ho)) cH
  (fun b' _ aO=>heap_alloc_old w _ b' aO) (by simp) ⟨rfl,rfl⟩ (.inr S.size) (fun b' h=>(cX (h.flat (by simp))).symm)
  (fun _=> .map hu rfl eE rfl cH (fun j e x he _=>by simp at he) (by simp))
 exact ⟨_,_,_,_,Go.RowKit.run_makeMap t w,a1,a2,.cl (cM _ _ _) (cM _ _ _)⟩
theorem Nn (S:aF P w I β hp B M w0) {t kt vt:TypeId} (ht:kY P t=some (kt,vt)) {m k v:Value} {mx kx vx:V} {r:R} {rd:List Nat} (hm:ao P w I β hp m mx) (hk:ao P w I β hp k kx) (hv:ao P w I β hp v vx)
  (h:(Cn P t mx kx vx).run C hp=some (r,rd)):o6 P ((Instr.mapUpdate t m k v).run P w) w I β hp B M w0 r:=by
 unfold Cn at h
 rw[ht] at h
 obtain ⟨hc,h'⟩:=aG h
 clear h
 have h:=h'
 clear h'
 simp only[aK] at hc
 obtain ⟨jY,zo,tD⟩:=hc
 have hu:=HA ht
 have vS:=hk.Ng jY
 have vE:=ao.WW zo tD hv
 have K:=Hw jY
 obtain ⟨l,hl⟩:=Dg jY vS
 cases mx<;>simp only at h<;>first|(cases h;done)|skip
 rename_i t' id
 obtain ⟨lj,h'⟩:=aG h
 clear h
 have h:=h'
 clear h'
 rw[aP] at lj
 subst lj
 obtain ⟨l2,h'⟩:=run_get h
 clear h
 have h:=h'
 clear h'
 cases ab:hp id with
 | none=>rw[ab] at h;cases h
 | some blk=>
  rw[ab] at h
  cases blk<;>simp only at h<;>first|(cases h;done)|skip
  rename_i t2 es
  obtain ⟨lj,h'⟩:=aG h
  clear h
  have h:=h'
  clear h'
  rw[aP] at lj
  subst lj
  obtain rfl:=aM h
  cases hm with
  | gZ hd=>rw[ab] at hd;cases hd
  | @cl _ _ b aI hd hb=>
   rw[ab] at hd
   cases hd
   have hr:=S.h.rel id _ ab
   cases hr with
   | @map _ Nk Nl _ b' clock E fA aA hh hs hI hx hn=>
    rw[hb] at aA;cases aA
    rw[hu] at fA;cases fA
    have aO:b<w.heap.size:=(gQ.1 hh).1
    have fin: ∀(E':Array MapEntry) (zp:Nat),(Instr.mapUpdate t (.map (some b)) k v).run P w= .ok () {w with heap:=w.heap.setIfInBounds b (.map E' zp)}→E'.size=(il kx vx es).length→
      (∀(j:Nat) (e:MapEntry) (x:V),E'[j]? =some e→(il kx vx es)[j]? =some x→CA P kt vt e x)→E'.toList.Pairwise (fun a b=>a.key≠b.key)→
      o6 P ((Instr.mapUpdate t (.map (some b)) k v).run P w) w I β hp B M w0 ⟨.undef,[(id,.map t (il kx vx es))]⟩:=by
     intro E' zp cN Ht cp HC
     have eE:({w with heap:=w.heap.setIfInBounds b (.map E' zp)}:World).heap[b]? =some (.map E' zp):=by simp[aO]
     obtain ⟨a1,a2⟩:=CL S (w':={w with heap:=w.heap.setIfInBounds b (.map E' zp)}) (blk':= .map t (il kx vx es)) ab (by simp) rfl hb hI (by simp)
      (fun b' aA=>by simp[Array.getElem?_setIfInBounds,Ne.symm aA]) (by simp only[bsize,eE,hh]) (by simp) ⟨rfl,rfl⟩ (fun _=> .map hu rfl eE Ht hI cp HC)
     exact ⟨_,I,β,cN,a1,a2,rfl⟩
    rcases Nc hs hx hn jY vS w with ⟨h1,U,_,_,h5⟩|⟨j,e,k',y,h1,hE,No,oc,W0,W3,_,_,_,_,h5⟩
    ·have e5:=h5 vx
     refine fin (E.push {key:=k,val:=v,born:=clock}) (clock+1) ?_ (by rw[e5];simp[hs]) (fun j e x he qh=> ?_) ?_
     ·unfold Instr.mapUpdate
      simp only[Sem.run_bind,run_underlying hu,Result.andThen_ok,Go.MapKept.run_getObj_map hh,K.check w false hl,h1,Go.MapKept.run_setObj_map _ hh]
     ·rw[e5] at qh
      rw[Array.getElem?_push] at he
      split at he
      ·rename_i hj
       rw[ik (by omega),hj,hs,Nat.sub_self] at qh
       simp at he qh
       subst he;subst qh
       exact ⟨kx,vx,rfl,jY,vS,tD,vE⟩
      ·have hj:j<E.size:=(gQ.1 he).1
       rw[ij (by omega)] at qh
       exact hx j e x he qh
     ·rw[Array.toList_push,List.pairwise_append]
      refine ⟨hn,by simp,fun a ha b' aA=> ?_⟩
      simp only[eb] at aA
      subst aA
      exact U a ha
    ·have e5:=h5 vx
     have hj:j<E.size:=(gQ.1 hE).1
     refine fin (E.modify j fun e=>{e with key:=k,val:=v}) clock ?_ (by rw[e5];simp[hs]) (fun i e' x he gh=> ?_) ?_
     ·have bL:=K.stays w hl
      unfold Instr.mapUpdate
      simp only[Sem.run_bind,run_underlying hu,Result.andThen_ok,Go.MapKept.run_getObj_map hh,K.check w false hl,h1]
      simp only[hE,Option.map_some,Option.getD_some,No,bL,Result.andThen_ok,Go.MapKept.run_setObj_map _ hh]
     ·rw[e5] at gh
      rw[yo] at he
      rw[List.getElem?_set] at gh
      split at he
      ·rename_i tE
       subst tE
       rw[aj rfl,aj (by omega)] at gh
       rw[hE] at he
       simp at he gh
       subst he;subst gh
       exact ⟨k',vx,rfl,W0,W3,tD,vE⟩
      ·rename_i tE
       rw[ai tE] at gh
       exact hx i e' x he gh
     ·have tF: ∀i (h1:i<(E.modify j fun e=>{e with key:=k,val:=v}).toList.length) (U:i<E.toList.length),((E.modify j fun e=>{e with key:=k,val:=v}).toList[i]).key=(E.toList[i]).key:=by
       intro i h1 U
       simp only[Array.getElem_toList,Array.getElem_modify]
       split
       ·rename_i tE
        subst tE
        have:=(gQ.1 hE).2
        rw[this,No]
       ·rfl
      rw[B1] at hn⊢
      intro i i' h1 U iD
      have g1:i<E.toList.length:=by simpa using h1
      have g2:i'<E.toList.length:=by simpa using U
      rw[tF i h1 g1,tF i' U g2]
      exact hn i i' g1 g2 iD
theorem W4 (S:aF P w I β hp B M w0) {t ty kt vt:TypeId} {v:Value} {x:V} {r:R} {rd:List Nat} (hu:P.underlying t=some (.map kt vt)) (hv:ao P w I β hp v x)
  (h:(Co x).run C hp=some (r,rd)):cR P ((Builtin.len_ #[t] ty #[v]).run P w) w I β hp B M w0 r:=by
 unfold Co at h
 cases x<;>simp only at h<;>first|(cases h;done)|skip
 ·rename_i t' id
  obtain ⟨l2,h'⟩:=run_get h
  clear h
  have h:=h'
  clear h'
  cases ab:hp id with
  | none=>rw[ab] at h;cases h
  | some blk=>
   rw[ab] at h
   cases blk<;>simp only at h<;>first|(cases h;done)|skip
   rename_i t2 es
   obtain rfl:=aM h
   cases hv with
   | gZ hd=>rw[ab] at hd;cases hd
   | @cl _ _ b aI hd hb=>
    rw[ab] at hd
    cases hd
    have hr:=S.h.rel id _ ab
    cases hr with
    | @map _ Nk Nl _ b' clock E fA aA hh hs hI hx hn=>
     rw[hb] at aA;cases aA
     refine .same S (v:= .int .i64 E.size) (by simp[Builtin.len_,run_underlying hu,Go.MapKept.run_getObj_map hh,goInt]) ?_
     rw[hs]
     exact .int
 ·obtain rfl:=aM h
  cases hv
  exact .same S (v:= .int .i64 0) (by simp[Builtin.len_,run_underlying hu,goInt]) .int
theorem ao.HD {v:Value} {t:TypeId} (h:ao P w I β hp v (.dj t)):v= .map none:=by cases h;rfl
theorem ao.W5 {v:Value} {t t':TypeId} {id:Nat} {es:List V} (h:ao P w I β hp v (.cl t id)) (ab:hp id=some (.map t' es)): ∃b,v= .map (some b):=by
 cases h with
 | gZ h=>rw[ab] at h;cases h
 | cl h hb=>exact ⟨_,rfl⟩
theorem Np (S:aF P w I β hp B M w0) {op:BinOp} {t:TypeId} {a:Option Nat} {r:R} {rd:List Nat} (x y:Operand)
  (h:(Ci P op t a.isNone).run C hp=some (r,rd)):cR P ((do eqGuard op t x y (.map a) (.map none);binOp op t (.map a) (.map none)).run P w) w I β hp B M w0 r:=by
 unfold Ci at h
 split at h
 case h_2=>cases h
 rename_i kt vt hu
 have he:(Op.equal t (.map a) (.map none)).run P w= .ok a.isNone w:=by
  show (Op.equalIn (9999+1) t (.map a) (.map none)).run P w=_
  rw[Op.equalIn]
  cases a<;>simp[Sem.run_bind,run_underlying hu,Result.andThen_ok,Sem.run_pure]
 cases op<;>simp only at h<;>first|(cases h;done)|skip
 ·obtain rfl:=aM h
  exact .same S (by simp[eqGuard,binOp,he]) .bool
 ·obtain rfl:=aM h
  exact .same S (by simp[eqGuard,binOp,he]) .bool
end
end Go.AM
namespace Go.AM
section
variable {P:Program} {w w':World} {I I':Nat→Prop} {β β':Nat→Option Nat} {hp hp':Nat→Option an} {C:ag} {B:Nat} {M:Nat→Prop} {w0:Start}
theorem W6 {e:TypeId} (he:P.underlying e=some (.int .u8)) (hc:P.cellsOf e=1) (s:ByteArray): ∀(i j:Nat) (x:V) (t':TypeId),(s.data.toList.map dk)[i]? =some x→(aR P e)[j]? =some t'→j<P.cellsOf e→
  ∃u,(Lib.strCells s)[i*P.cellsOf e+j]? =some u∧Pure P w I t' u (bH P e x j):=by
 intro i j x t' hx ht hj
 have mV:bE P e=false:=by simp[bE,he]
 obtain rfl:j=0:=by omega
 simp only[aR,mV,cond_false,List.getElem?_cons_zero,dH] at ht
 subst ht
 rw[gf] at hx
 cases hb:s.data.toList[i]? with
 | none=>rw[hb] at hx;cases hx
 | some b=>
  rw[hb] at hx
  cases hx
  refine ⟨.int .u8 b.toNat,?_,?_⟩
  ·rw[hc,mC,Nat.add_zero]
   simp only[Lib.strCells,gf,hb,Option.map_some]
  ·simp only[bH,mV,cond_false]
   exact .int he
theorem W7 (w:World) (t u ty e:TypeId) (i:TypeInfo) (z:Value) (ht:P.underlying t=some (.slice e)) (hu:P.underlying u=some .string) (hi:P.info? e=some i) (hz:i.zero=some z)
  (s:ByteArray) (h0:0<s.size) (Dc:(s.size:Int)≤9223372036854775807) (Dd:s.size*i.bytes≤281474976710656) (a0:Option Addr):
  (Builtin.append_ #[t,u] ty #[.slice a0 0 0,.string s]).run P w=
   .ok (.slice (some ⟨w.heap.size,0,none⟩) s.size (grownCap w s.size 0 e))
    (w.drew.alloc (.cells (s.data.map (fun b=>Value.int .u8 b.toNat)++Builtin.zeroCells z.cells (grownCap w s.size 0 e-s.size)) e)):=by
 cases a0 with
 | none=>exact run_append_nil_string w t u ty e i z ht hu hi hz s h0 Dc Dd
 | some b=>
  rw[←run_append_nil_string w t u ty e i z ht hu hi hz s h0 Dc Dd]
  have hn:s.size≠0:=by omega
  have W8: ¬(9223372036854775807<(s.size:Int)):=by omega
  have W9: ¬(281474976710656<Builtin.nextslicecap s.size 0*i.bytes):=by rw[nextslicecap_zero h0];omega
  simp[Builtin.append_,run_underlying ht,run_underlying hu,sizeOf,typeInfo,zeroValue,hi,hz,Builtin.lenOf,Builtin.firstCells,hn,W8,W9,Question.forced,newRow,grownCap,loadCells,loadCellsFrom]
theorem Nq (S:aF P w I β hp B M w0) {t u ty e:TypeId} {nb:Nat} {x:ByteArray} {xs:List V} {i:TypeInfo} {z:Value} (hu:P.underlying t=some (.slice e)) (od:P.underlying u=some .string) (au:cI P e=true) (hn:hp nb=none)
 (hi:P.info? e=some i) (hz:i.zero=some z) (h3:i.size=P.cellsOf e) (h4:z.cells.size=P.cellsOf e) (vT:i.size=1) (lS:P.bytesOf e=i.bytes) (dF:xs.length*P.bytesOf e≤bS) (lW:xs.length=x.size) (lh:(Lib.strCells x).length=x.size)
 (cJ: ∀(i j:Nat) (y:V) (t':TypeId),xs[i]? =some y→(aR P e)[j]? =some t'→j<P.cellsOf e→∃u,(Lib.strCells x)[i*P.cellsOf e+j]? =some u∧Pure P w I t' u (bH P e y j)):
 ∀a0,∃v w' β',(Builtin.append_ #[t,u] ty #[.slice a0 0 0,.string x]).run P w= .ok v w'∧Le P w I β hp w' I β' (aH hp nb (some (.arr e xs false)))∧aF P w' I β' (aH hp nb (some (.arr e xs false))) B M w0∧
  ao P w' I β' (aH hp nb (some (.arr e xs false))) v (.whole e nb):=by
 intro a0
 have tA:=vr au
 have hlen:xs.length≤2^45:=by
  have:xs.length*1≤xs.length*P.bytesOf e:=sR _ tA
  simp only[bS] at dF
  omega
 by_cases h0:x.size=0
 ·have gk:xs=[]:=kR (by omega)
  subst gk
  obtain ⟨a1,a2⟩:=CJ S e hn
  have hf:=Lib.run_firstCells_string (P:=P) w 1 x
  rw[h0] at hf
  have qm:Lib.strCells x=[]:=kR (by omega)
  exact ⟨.slice a0 0 0,_,_,by cases a0<;>simp[storeCells,qm,Builtin.append_,run_underlying hu,run_underlying od,sizeOf,typeInfo,hi,vT,Builtin.lenOf,h0,hf],a1,a2,.dt (cM _ _ _) (cM _ _ _)⟩
 ·have cN:=W7 (P:=P) w t u ty e i z hu od hi hz x (by omega) (by omega) (by rw[←lS,←lW];simp only[bS] at dF;omega) a0
  have e1:(x.data.map fun b=>Value.int .u8 b.toNat)=(Lib.strCells x).toArray:=by
   apply Array.ext'
   simp[Lib.strCells]
  rw[e1,←lW] at cN
  have pb:=grownCap_ge w xs.length 0 e
  have tB:grownCap w xs.length 0 e≤maxLen:=grownCap_le_maxLen w xs.length 0 e (by simp only[maxLen];omega)
  obtain ⟨n1,n2,n3⟩:=vO S.drew (nb:=nb) (cap:=grownCap w xs.length 0 e) (es:=xs) (C0:=(Lib.strCells x).toArray++Builtin.zeroCells z.cells (grownCap w xs.length 0 e-xs.length)) au hn
   (by
    have:(Lib.strCells x).length=xs.length*P.cellsOf e:=by rw[lh,lW,←h3,vT,mC]
    simp only[BZ,pO,size_zeroCells,h4,this,←db];congr 1;omega) pb tB
   (fun i' j y t' hy ht hj=>by
    obtain ⟨u,fA,hp⟩:=cJ i' j y t' hy ht hj
    have aO:=(bt.1 fA).1
    refine ⟨u,?_,Pure.drew hp⟩
    rw[Array.getElem?_append_left (by simpa using aO)]
    simpa using fA)
  exact ⟨_,_,_,cN,(Le.drew w I β hp).trans n1,n2,n3⟩
theorem Xa (S:aF P w I β hp B M w0) {t u ty e:TypeId} {nb:Nat} {s:Value} {sv:V} {x:ByteArray} {r:R} {rd:List Nat} (hu:P.underlying t=some (.slice e)) (od:P.underlying u=some .string) (he:P.underlying e=some (.int .u8)) (hs:ao P w I β hp s sv)
  (h:(vg P nb e sv (.list e (x.data.toList.map dk))).run C hp=some (r,rd)):cR P ((Builtin.append_ #[t,u] ty #[s,.string x]).run P w) w I β hp B M w0 r:=by
 unfold vg at h
 obtain ⟨au,h⟩:=aG h
 simp only[ry] at h
 obtain ⟨_,h⟩:=aG h
 have mV:bE P e=false:=by simp[bE,he]
 have dw:P.cellsOf e=1:=by rw[←(jT au).1,yX mV];rfl
 obtain ⟨i,z,hi,hz,h3,h4,_⟩:=jW au
 have vT:i.size=1:=by rw[h3,dw]
 have tA:=vr au
 have lS:P.bytesOf e=i.bytes:=by simp[Program.bytesOf,hi]
 have Dj:=W6 (P:=P) (w:=w) (I:=I) he dw x
 have lW:(x.data.toList.map dk).length=x.size:=by simp
 have lh:(Lib.strCells x).length=x.size:=Lib.strCells_length x
 have h1:=Lib.strCells_oneCell x
 generalize gk:x.data.toList.map dk=xs at*
 cases sv with
 | nilS e'=>
  obtain ⟨hc,h⟩:=aG h
  simp only[aK,aP,di] at hc
  obtain ⟨hn,rfl⟩:=mS h
  obtain ⟨a0,rfl⟩: ∃a0,s= .slice a0 0 0:=by cases hs;exact ⟨_,rfl⟩
  obtain ⟨v,w',β',a1,a2,a3,a4⟩:=Nq S hu od au hn hi hz h3 h4 vT lS hc.2 lW lh Dj _
  exact ⟨v,w',I,β',a1,a2,a3,a4⟩
 | whole e' id=>
  obtain ⟨l,h⟩:=run_get h
  cases ab:hp id with
  | none=>rw[ab] at h;cases h
  | some blk=>
   rw[ab] at h
   cases blk with
   | dead=>cases h
   | var _=>cases h
   | nest _ _ _=>cases h
   | map _ _=>cases h
   | arr dq es fz=>
    cases fz with
    | true=>cases h
    | false=>
     obtain ⟨hc,h⟩:=aG h
     obtain ⟨hn,rfl⟩:=mS h
     simp only[aK,aP,di] at hc
     obtain ⟨Hk,Hl,dF⟩:=hc
     subst Hk
     subst Hl
     have bz:nb≠id:=fun e=>by rw[e,ab] at hn;cases hn
     obtain ⟨k1,k2⟩:=CK S ab
     have jX:aH hp id (some an.dead) nb=none:=by rw[dX _ _ bz];exact hn
     cases hs with
     | dV hd=>rw[ab] at hd;cases hd
     | ee hd=>rw[ab] at hd;cases hd
     | dt hd hb=>
      rw[ab] at hd
      cases hd
      simp only[List.length_nil,gx] at dF
      obtain ⟨v,w',β',a1,a2,a3,a4⟩:=Nq k2 hu od au jX hi hz h3 h4 vT lS dF lW lh Dj _
      exact ⟨v,w',I,β',a1,k1.trans a2,a3,a4⟩
     | @whole _ _ aI mJ b cap hd hb aU bY hm=>
      rw[ab] at hd
      cases hd
      have hr:=S.h.rel id _ ab
      cases hr with
      | dv aA=>rw[aA] at hb;cases hb
      | @arr _ _ _ b' Ca _ aA hh pd hf dW lT=>
       rw[hb] at aA
       cases aA
       have hlen:es.length+xs.length≤2^45:=by
        have:(es.length+xs.length)*1≤(es.length+xs.length)*P.bytesOf e:=sR _ tA
        simp only[bS] at dF
        omega
       rw[mN hh] at aU
       have qf: ∀aD blk',aH hp id (some an.dead) aD=some blk'→¬bu P w (β aD) blk' b:=by
        intro aD blk' h1 U
        by_cases iD:aD=id
        ·subst iD;rw[cM] at h1;cases h1;exact U.alive rfl
        ·rw[dX _ _ iD] at h1
         exact iD (S.h.inj aD id blk' _ b h1 ab U (.root (by simp) hb))
       have Hm:=S.h.rG id _ b ab (by simp) hb
       have lk:es.length*P.cellsOf e≤Ca.toList.length:=by simpa using pd
       have Nr:(Lib.strCells x).length=xs.length*P.cellsOf e:=by rw[lh,lW,dw,mC]
       by_cases rP:es.length+xs.length≤cap
       ·have zk:es.length*P.cellsOf e+(Lib.strCells x).length≤Ca.size:=by rw[Nr,←db,←aU];exact dp _ rP
        have cN:=Lib.run_append_room_string (P:=P) w t u ty e i hu od hi vT b es.length cap Ca hh x (by rw[←lW];exact rP) (by rw[←lh];rw[dw,mC] at zk;exact zk)
        have cJ:=C9 (P:=P) (w:=w) (I:=I) (n:=es.length) (c:=Ca.toList) rfl (fun i j y t' a b c=>by
         obtain ⟨v,hv,hp⟩:=lT i j y t' a b c
         exact ⟨v,by simpa using hv,hp⟩) Dj lk (Ca.toList.drop (es.length*P.cellsOf e+(Lib.strCells x).length))
        generalize vK:(Ca.toList.take es.length++Lib.strCells x++Ca.toList.drop (es.length+x.size)).toArray=C' at cN
        have n0:C'.size=Ca.size:=by
         rw[dw,mC] at zk
         rw[←vK];simp;omega
        have Ns:(w.setRow b C').heap[b]? =some (.cells C' e (0,0)):=setRow_heap w b Ca C' e _ hh
        obtain ⟨a1,a2⟩:=y5 k2 (blk:= .arr e (es++xs) false) (w':=w.setRow b C') jX qf (dW rfl) (fun b' h _=>setRow_other w b b' _ h) (by simp) ⟨rfl,rfl⟩ Hm
         (fun b' h=>(cX (h.flat (by simp))).symm) (fun hle=> .arr au rfl Ns (by rw[n0,←aU];exact dp _ (by simpa using rP)) (fun h=>by cases h) (fun _=>dW rfl) fun i j y t' a b c=>by
          obtain ⟨v,hv,hp⟩:=cJ i j y t' a b c
          refine ⟨v,?_,hp.mono hle.c7 hle.b6⟩
          rw[←vK,mB]
          rw[dw] at hv⊢
          simpa[lh] using hv)
        refine ⟨_,_,_,_,cN,k1.trans a1,a2,?_⟩
        have a3:=ao.whole (P:=P) (w:=w.setRow b C') (I:=I) (β:=aH β nb (some b)) (hp:=aH (aH hp id (some .dead)) nb (some (.arr e (es++xs) false))) (cap:=cap) (b:=b) (es:=es++xs) (fz:=false) (id:=nb) (e:=e) (cM _ _ _) (cM _ _ _) (by rw[mN Ns,n0,aU]) (by simpa using rP) hm
        rw[bR,lW] at a3
        exact a3
       ·have hold: ∀(j:Nat) v,(Ca.toList.take (es.length*P.cellsOf e))[j]? =some v→w.cell? ((⟨b,0,none⟩:Addr).add j)=some v:=by
         intro j v hj
         have b7:=(bt.1 hj).1
         have fR:j<es.length*P.cellsOf e:=by rw[eL] at b7;omega
         rw[eK fR] at hj
         rw[mQ,cell?_cells hh,gx]
         simpa using hj
        have cN:=Lib.run_append_grow_string (P:=P) w t u ty e i z hu od hi hz ⟨b,0,none⟩ es.length cap (Ca.toList.take (es.length*P.cellsOf e)) (by rw[h3];simp;omega) hold x (by omega) (by omega)
         (growslice_fits (by omega) (by rw[←lS,←lW];simp only[bS] at dF;omega))
        rw[←lW] at cN
        have pb:=grownCap_ge w (es.length+xs.length) cap e
        have tB:grownCap w (es.length+xs.length) cap e≤maxLen:=grownCap_le_maxLen w _ cap e (by simp only[maxLen];omega)
        have cJ:=C9 (P:=P) (w:=w) (I:=I) (n:=es.length) (c:=Ca.toList) rfl (fun i j y t' a b c=>by
         obtain ⟨v,hv,hp⟩:=lT i j y t' a b c
         exact ⟨v,by simpa using hv,hp⟩) Dj lk (Builtin.zeroCells z.cells (grownCap w (es.length+xs.length) cap e-(es.length+xs.length))).toList
        obtain ⟨n1,n2,n3⟩:=vO k2.drew (nb:=nb) (cap:=grownCap w (es.length+xs.length) cap e) (es:=es++xs)
         (C0:=(Ca.toList.take (es.length*P.cellsOf e)).toArray++(Lib.strCells x).toArray++Builtin.zeroCells z.cells (grownCap w (es.length+xs.length) cap e-(es.length+xs.length))) au jX
         (by
          have e1:(Ca.toList.take (es.length*P.cellsOf e)).length=es.length*P.cellsOf e:=by simp;omega
          simp only[BZ,pO,size_zeroCells,h4,Nr,e1,←db];congr 1;omega) (by simpa using pb) tB
         (fun i j y t' a b c=>by
          obtain ⟨v,hv,hp⟩:=cJ i j y t' a b c
          refine ⟨v,?_,Pure.drew hp⟩
          rw[←rj]
          simpa using hv)
        rw[bR] at n3
        exact ⟨_,_,_,_,cN,(k1.trans (Le.drew w I β _)).trans n1,n2,n3⟩
 | _=>cases h
end
section
variable {P:Program} {w w':World} {I I':Nat→Prop} {β β':Nat→Option Nat} {hp hp':Nat→Option an} {C:ag} {B:Nat} {M:Nat→Prop} {w0:Start}
theorem Nt: ∀(ns:List Int) (s:ByteArray),(ns.foldl (fun r n=>r.push (UInt8.ofNat n.toNat)) s).data.toList=s.data.toList++ns.map fun n=>UInt8.ofNat n.toNat
 | [],s=>by simp
 | n::ns,s=>by
  simp only[List.foldl_cons,Nt ns,cF]
  simp[ByteArray.push]
theorem HE {e:TypeId} {u:Value} {x:V} (he:P.underlying e=some (.int .u8)) (hp:Pure P w I e u x):u= .int .u8 x.toInt:=by
 cases hp with
 | int hp'=>rw[he] at hp';cases hp';rfl
 | bool hp'=>rw[he] at hp';cases hp'
 | str hp'=>rw[he] at hp';cases hp'
 | nil hp'=>rw[he] at hp';cases hp'
 | emp hp'=>rw[he] at hp';cases hp'
 | list _ hp'=>rw[he] at hp';cases hp'
theorem Xb (S:aF P w I β hp B M w0) {src dst e:TypeId} {v:Value} {x:V} {r:R} {rd:List Nat} (hs:P.underlying src=some (.slice e)) (he:P.underlying e=some (.int .u8)) (hd:P.underlying dst=some .string)
  (hv:ao P w I β hp v x) (h:(Rd.aC (cI P e) (ry e x fun es=> .ret ⟨.str (ko es),[]⟩)).run C hp=some (r,rd)):cR P ((convert src dst v).run P w) w I β hp B M w0 r:=by
 obtain ⟨au,h⟩:=aG h
 obtain ⟨xs,hx,l,h⟩:=C8 S.h.rel au hv h
 obtain rfl:=aM h
 have mV:bE P e=false:=by simp[bE,he]
 have h1:P.cellsOf e=1:=by rw[←(jT au).1,yX mV];rfl
 rcases hx with ⟨⟨a,rfl⟩,rfl⟩|⟨a,c,news,hr⟩
 ·refine .same S (v:= .string .empty) ?_ (.str (by simp[ko]))
  rw[run_convert_bytes_string w src dst e a 0 0 hs he hd]
  cases a<;>simp[Conv.bytesToString,loadCells,loadCellsFrom]
 ·have Db:news=(xs.map V.toInt).map (Value.int .u8):=by
   apply List.ext_getElem?
   intro j
   by_cases hj:j<xs.length
   ·obtain ⟨u,hu,hp⟩:=hr.el j 0 xs[j] e (bB hj) (by simp[aR,mV]) (by omega)
    rw[h1] at hu
    simp only[bH,mV,cond_false] at hp
    have fA:news[j]? =some u:=by simpa using hu
    rw[fA]
    have:=HE he hp
    simp[hj,←this]
   ·have hl:news.length=xs.length:=by rw[hr.len,h1];simp
    rw[yk (by omega),yk (by simp;omega)]
  have HF:=run_loadCells_list (P:=P) w a news hr.cell
  have hl:news.length=xs.length:=by rw[hr.len,h1];simp
  rw[hl] at HF
  rw[Db] at HF
  refine .same S (v:= .string ((xs.map V.toInt).foldl (fun r n=>r.push (UInt8.ofNat n.toNat)) ByteArray.empty)) ?_ (.str ?_)
  ·rw[hr.val,run_convert_bytes_string w src dst e _ _ _ hs he hd]
   exact run_bytesToString w a xs.length c (xs.map V.toInt) HF
  ·rw[Nt]
   simp[ko]
theorem ao.Dk {v:Value} (h:ao P w I β hp v .df):v= .pointer none:=by cases h;rfl
section
variable (w:World)
theorem Xc (t e:TypeId) (a:Addr) (h:P.underlying t=some (.pointer e)):(binOp .eql t (.pointer (some a)) (.pointer none)).run P w= .ok (.bool false) w:=by
 have h0: ∀d:Nat,(Op.equalIn (d+1) t (.pointer (some a)) (.pointer none)).run P w= .ok false w:=fun d=>by simp[Op.equalIn,run_underlying h]
 simp only[binOp]
 simp[Op.equal,Op.maxDepth,h0 9999]
theorem Xd (t e:TypeId) (a:Addr) (h:P.underlying t=some (.pointer e)):(binOp .neq t (.pointer (some a)) (.pointer none)).run P w= .ok (.bool (!false)) w:=by
 have h0: ∀d:Nat,(Op.equalIn (d+1) t (.pointer (some a)) (.pointer none)).run P w= .ok false w:=fun d=>by simp[Op.equalIn,run_underlying h]
 simp only[binOp]
 simp[Op.equal,Op.maxDepth,h0 9999]
theorem Xe (t e:TypeId) (a:Addr) (h:P.underlying t=some (.pointer e)):(binOp .eql t (.pointer none) (.pointer (some a))).run P w= .ok (.bool false) w:=by
 have h0: ∀d:Nat,(Op.equalIn (d+1) t (.pointer none) (.pointer (some a))).run P w= .ok false w:=fun d=>by simp[Op.equalIn,run_underlying h]
 simp only[binOp]
 simp[Op.equal,Op.maxDepth,h0 9999]
theorem Xf (t e:TypeId) (a:Addr) (h:P.underlying t=some (.pointer e)):(binOp .neq t (.pointer none) (.pointer (some a))).run P w= .ok (.bool (!false)) w:=by
 have h0: ∀d:Nat,(Op.equalIn (d+1) t (.pointer none) (.pointer (some a))).run P w= .ok false w:=fun d=>by simp[Op.equalIn,run_underlying h]
 simp only[binOp]
 simp[Op.equal,Op.maxDepth,h0 9999]
theorem Xg (t e:TypeId) (h:P.underlying t=some (.pointer e)):(binOp .eql t (.pointer none) (.pointer none)).run P w= .ok (.bool true) w:=by
 have h0: ∀d:Nat,(Op.equalIn (d+1) t (.pointer none) (.pointer none)).run P w= .ok true w:=fun d=>by simp[Op.equalIn,run_underlying h]
 simp only[binOp]
 simp[Op.equal,Op.maxDepth,h0 9999]
theorem Xh (t e:TypeId) (h:P.underlying t=some (.pointer e)):(binOp .neq t (.pointer none) (.pointer none)).run P w= .ok (.bool (!true)) w:=by
 have h0: ∀d:Nat,(Op.equalIn (d+1) t (.pointer none) (.pointer none)).run P w= .ok true w:=fun d=>by simp[Op.equalIn,run_underlying h]
 simp only[binOp]
 simp[Op.equal,Op.maxDepth,h0 9999]
end
theorem Dl (S:aF P w I β hp B M w0) {op:BinOp} {t:TypeId} {b:Bool} {x y:Operand} {v1 v2:Value} {r:R} {rd:List Nat} (h:(ptrEq P op t b).run C hp=some (r,rd)) (hg:(eqGuard op t x y v1 v2).run P w= .ok () w)
  (he: ∀e j,P.underlying t=some (.pointer e)→P.info? e=some j→(binOp .eql t v1 v2).run P w= .ok (.bool b) w∧(binOp .neq t v1 v2).run P w= .ok (.bool (!b)) w):
  cR P ((do eqGuard op t x y v1 v2;binOp op t v1 v2:Sem Value).run P w) w I β hp B M w0 r:=by
 unfold ptrEq at h
 cases hu:P.underlying t with
 | none=>rw[hu] at h;cases h
 | some d=>
  rw[hu] at h
  cases d<;>simp only at h<;>first|(cases h;done)|skip
  rename_i e
  obtain ⟨h1,U⟩:=aG h
  obtain ⟨j,hj⟩:=yn.1 h1
  obtain ⟨k1,k2⟩:=he e j hu hj
  cases op<;>simp only at U<;>first|(cases U;done)|skip
  ·obtain rfl:=aM U
   exact .same S (by simp only[Sem.run_bind,hg,Result.andThen_ok,k1]) .bool
  ·obtain rfl:=aM U
   exact .same S (by simp only[Sem.run_bind,hg,Result.andThen_ok,k2]) .bool
theorem Xi {b n:Nat}:(∀b',b'≠b→(w.freeze ⟨b,0,none⟩ n).heap[b']? =w.heap[b']?)∧bsize (w.freeze ⟨b,0,none⟩ n) b=bsize w b∧w.heap.size≤(w.freeze ⟨b,0,none⟩ n).heap.size∧(w.freeze ⟨b,0,none⟩ n).os=w.os∧(w.freeze ⟨b,0,none⟩ n).output=w.output:=by
 unfold World.freeze
 split
 ·exact ⟨fun _ _=>rfl,rfl,bW _,rfl,rfl⟩
 ·refine ⟨fun b' hb=> ?_,?_,by simp,rfl,rfl⟩
  ·simp only[yo]
   rw[ai (fun e=>hb e.symm)]
  ·simp only[bsize,yo,cE]
   cases w.heap[b]? with
   | none=>rfl
   | some o=>cases o<;>rfl
theorem Xj {e:TypeId} (hb:isByte P e=true):P.underlying e=some (.int .u8):=by
 unfold isByte at hb
 split at hb
 ·assumption
 ·cases hb
theorem Xk (S:aF P w I β hp B M w0) {ts:Array TypeId} {ty e:TypeId} {v:Value} {id:Nat} {es:List V} {fz:Bool} (hv:ao P w I β hp v (.whole e id)) (ab:hp id=some (.arr e es fz)) (h0:0<es.length):
  cR P ((Builtin.unsafeSliceData_ ts ty #[v]).run P w) w I β hp B M w0 ⟨.ptr id 0 0,[]⟩:=by
 cases hv with
 | dV h=>rw[ab] at h;cases h
 | dt h _=>rw[ab] at h;cases h;simp at h0
 | ee h _ _ _ _=>rw[ab] at h;cases h
 | @whole _ _ aI mJ b cap h hb bY hle hm=>
  rw[ab] at h;cases h
  refine .same S (Lib.run_unsafeSliceData_row w ts ty ⟨b,0,none⟩ es.length cap (by omega)) ?_
  have:=ao.ptr (P:=P) (w:=w) (I:=I) (β:=β) (i:=0) (c:=0) ab (by simp) hb
  simpa using this
theorem Xl (S:aF P w I β hp B M w0) {t u ty e:TypeId} {vx:Value} {id:Nat} {n:Int} {es:List V} (hu:P.underlying t=some (.pointer e)) (hb:isByte P e=true) (hv:ao P w I β hp vx (.ptr id 0 0))
  (ab:hp id=some (.arr e es false)) (h0:0<n) (hn:n≤es.length) (hm:n.toNat≤rv) (lg:(es.take n.toNat).all vl=true):cR P ((Builtin.unsafeString_ #[t,u] ty #[vx,.int .i64 n]).run P w) w I β hp B M w0 ⟨.str (ko (es.take n.toNat)),[(id,.dead)]⟩:=by
 obtain ⟨b,HG,rfl⟩:=hv.gD ab (by simp)
 have he:P.underlying e=some (.int .u8):=by
  unfold isByte at hb
  split at hb
  ·assumption
  ·cases hb
 have mV:bE P e=false:=by simp[bE,he]
 have hr:=S.h.rel id _ ab
 rw[HG] at hr
 cases hr with
 | dv aA=>cases aA
 | @arr _ _ _ b1 Ca au lk hh hs hI cH cJ=>
  cases lk
  have h1:P.cellsOf e=1:=by rw[←(jT au).1,yX mV];rfl
  have aO:=S.Vp ab (by simp) HG
  have hl:(ko (es.take n.toNat)).length=n.toNat:=by simp[ko];omega
  have HC:n=((ko (es.take n.toNat)).length:Nat):=by rw[hl];omega
  have cN:=Lib.run_unsafeString_row (P:=P) w t u ty e hu h1 b Ca.size (by simp[World.shape?,hh]) (ko (es.take n.toNat)) (fun h=>by rw[h] at hl;simp at hl;omega) (by rw[hl];rw[h1] at hs;omega) (by rw[hl];unfold rv at hm;omega) (fun j x hx=>by
   have hj:j<n.toNat:=by
    have:=(bt.1 hx).1
    rw[hl] at this;exact this
   have hG:j<es.length:=by omega
   simp only[ko,gf,eK hj,bB hG,Option.map_some,dH] at hx
   obtain ⟨v,vP,br⟩:=cJ j 0 es[j] e (bB hG) (by simp[aR,mV]) (by omega)
   rw[h1] at vP
   simp only[bH,mV,cond_false] at br
   have:=HE he br
   have hr:=fb.1 lg es[j] (jg (by rw[eK hj];exact bB hG))
   simp only[vl,aK,dR] at hr
   have o7:(x.toNat:Int)=es[j].toInt:=by
    rw[←hx]
    have:es[j].toInt.toNat<256:=by omega
    simp only[UInt8.toNat_ofNat']
    omega
   rw[mQ,cell?_cells hh,o7]
   rw[show 0+j=j*1+0 by omega,vP,this])
  obtain ⟨f1,f2,f3,f4,f5⟩:=Xi (w:=w) (b:=b) (n:=n.toNat)
  obtain ⟨k1,k2⟩:=CL (w':=w.freeze ⟨b,0,none⟩ n.toNat) S ab (by simp) (blk':= .dead) (by trivial) HG (cH rfl) (by simp) f1 f2 f3 ⟨f4,f5⟩ (fun _=> .dead)
  rw[←HC,hl] at cN
  refine ⟨.string ⟨(ko (es.take n.toNat)).toArray⟩,_,I,β,?_,k1,k2,.str ?_⟩
  ·simpa using cN
  ·rfl
def HH:Op→Bool
 | .call {callee:= .value (.func _),..}=>true
 | .call {callee:= .value (.tmp _),..}=>true
 | .defer _=>true
 | _=>false
theorem o4.val {o:Oper} {a:Act} {s:Sem Value} {r:R} (he:execOp a.eval o=(do Pure.pure (Next.value (←s)))) (h:cR P (s.run P w) w I β hp B M w0 r):o4 P ((execOp a.eval o).run P w) w I β hp B M w0 r:=by
 rw[he];exact h.op
theorem Xm {A:cx} (S:aF P w I β hp B M w0) (hg:ga P A.aE w I) {a:Act} {sl:Nat→V} (hs:kz P w I β hp a sl) {ix nb:Nat} {o:Oper} (HI:HH o.op=false) {r:R} {rd:List Nat}
  (h:(ff P A sl ix nb o).run C hp=some (r,rd)):o4 P ((execOp a.eval o).run P w) w I β hp B M w0 r:=by
 obtain ⟨dst,op,ty,pos,after,guard⟩:=o
 cases op<;>simp only[ff] at h<;>first|(cases h;done)|skip
 case move x=>
  obtain rfl:=aM h
  exact ⟨_,w,I,β,.inl (by simp[execOp]),Le.refl w I β hp,S,hs.ev hg ty x⟩
 case assign x=>
  obtain rfl:=aM h
  exact ⟨_,w,I,β,.inl (by simp[execOp]),Le.refl w I β hp,S,hs.ev hg ty x⟩
 case pick c x y=>
  have hc:=hs.ev hg ty c
  cases tx:aN P A.aE ty sl c<;>rw[tx] at h hc<;>simp only at h<;>first|(cases h;done)|skip
  rename_i t
  have Xn:=hc.jU
  have hx:=hs.ev hg ty x
  have hy:=hs.ev hg ty y
  have fin: ∀z:V,ao P w I β hp (if t then a.eval x else a.eval y) z→o4 P ((execOp a.eval ⟨dst,.pick c x y,ty,pos,after,guard⟩).run P w) w I β hp B M w0 ⟨z,[]⟩:=by
   intro z hz
   exact ⟨_,w,I,β,.inl (by simp[execOp,Xn,asBool]),Le.refl w I β hp,S,hz⟩
  cases Nu:gone (aN P A.aE ty sl x) with
  | true=>
   rw[Nu] at h
   obtain ⟨h1,h⟩:=aG h
   obtain rfl:=aM h
   have:t=false:=by simpa using h1
   subst this
   refine fin _ ?_
   simpa using hy
  | false=>
   rw[Nu] at h
   simp only[cond_false] at h
   cases Dm:gone (aN P A.aE ty sl y) with
   | true=>
    rw[Dm] at h
    obtain ⟨h1,h⟩:=aG h
    obtain rfl:=aM h
    subst h1
    refine fin _ ?_
    simpa using hx
   | false=>
    rw[Dm] at h
    obtain rfl:=aM h
    exact fin _ (Mk hx hy)
 case makeFunc fn x y=>
  cases fn<;>simp only[ff] at h<;>first|(cases h;done)|skip
  rename_i f
  obtain rfl:=aM h
  refine ⟨.func (.func f) (x.map a.eval) (y.map a.eval),w,I,β,.inl (by simp[execOp,Instr.makeFunc]),Le.refl w I β hp,S,.fn (by simp) (fun j v z hj hz=> ?_) (by simp) (fun j v z hj hz=> ?_)⟩
  ·rw[Array.getElem?_map] at hj
   rw[gf,rj] at hz
   cases hx:x[j]? with
   | none=>rw[hx] at hj;cases hj
   | some o1=>
    rw[hx] at hj hz
    cases hj
    cases hz
    exact hs.ev hg ty o1
  ·rw[Array.getElem?_map] at hj
   rw[gf,rj] at hz
   cases hx:y[j]? with
   | none=>rw[hx] at hj;cases hj
   | some o1=>
    rw[hx] at hj hz
    cases hj
    cases hz
    exact hs.ev hg ty o1
 case defer c=>cases HI
 case makeMap t res=>
  cases res with
  | some x=>cases h
  | none=>exact .val rfl (WZ S h)
 case lookup t m k ok=>
  cases ht:kY P t with
  | none=>rw[ht] at h;cases h
  | some q=>
   obtain ⟨kt,vt⟩:=q
   rw[ht] at h
   exact .val (s:=Instr.lookup t (a.eval m) (a.eval k) ok) rfl (WY S ht (hs.ev hg t m) (hs.ev hg kt k) h)
 case mapUpdate t m k x=>
  cases ht:kY P t with
  | none=>rw[ht] at h;cases h
  | some q=>
   obtain ⟨kt,vt⟩:=q
   rw[ht] at h
   have:=Nn S ht (hs.ev hg t m) (hs.ev hg kt k) (hs.ev hg vt x) h
   exact this.op
 case insert t m k x=>
  cases ht:kY P t with
  | none=>rw[ht] at h;cases h
  | some q=>
   obtain ⟨kt,vt⟩:=q
   rw[ht] at h
   have:=Nn S ht (hs.ev hg t m) (hs.ev hg kt k) (hs.ev hg vt x) h
   exact this.op
 case alloc e=>
  exact .val rfl (V7 S h)
 case box e x=>
  exact .val rfl (V8 S (hs.ev hg e x) h)
 case build t ps=>exact .val rfl (Wa S hs hg h)
 case buildSlice t len ps=>
  cases hu:P.underlying t with
  | none=>rw[hu] at h;cases h
  | some d=>
   rw[hu] at h
   cases d<;>simp only at h<;>first|(cases h;done)|skip
   exact .val rfl (Wi S hs hg hu h)
 case load t x=>exact .val rfl (VF S (hs.ev hg ty x) h)
 case store t x y=>
  have:=V2 S (hs.ev hg ty x) (hs.ev hg t y) h
  exact this.op
 case nilCheck x=>
  have hx:=hs.ev hg ty x
  cases eX:aN P A.aE ty sl x<;>rw[eX] at h hx<;>simp only at h<;>first|(cases h;done)|skip
  ·obtain ⟨⟨blk,ab,hd⟩,l,h⟩:=vA h
   obtain rfl:=aM h
   have cp:=hx
   obtain ⟨b,hb,he⟩:=hx.gD ab hd
   rw[he] at cp
   exact ⟨_,w,I,β,.inl (by simp only[execOp,he];rfl),Le.refl w I β hp,S,cp⟩
  ·obtain rfl:=aM h
   have cp:=hx
   obtain ⟨b,o,he,_⟩:=hx.CO
   rw[he] at cp
   exact ⟨_,w,I,β,.inl (by simp only[execOp,he];rfl),Le.refl w I β hp,S,cp⟩
  ·obtain ⟨e0,es,aq,l,ab,h1,U,h3,h⟩:=nU h
   obtain rfl:=aM h
   have cp:=hx
   obtain ⟨b,o,he,_⟩:=hx.Mi ab h1 U h3
   rw[he] at cp
   exact ⟨_,w,I,β,.inl (by simp only[execOp,he];rfl),Le.refl w I β hp,S,cp⟩
 case binOp op t x y yt=>
  have hx:=hs.ev hg t x
  have hy:=hs.ev hg t y
  refine .val (s:=do eqGuard op t x y (a.eval x) (a.eval y);binOp op t (a.eval x) (a.eval y)) rfl ?_
  cases eX:aN P A.aE t sl x<;>cases rQ:aN P A.aE t sl y<;>rw[eX,rQ] at h<;>rw[eX] at hx<;>rw[rQ] at hy<;>first|(simp only[jN] at h;cases h;done)|skip
  ·rw[hx.dE,hy.dE]
   have:=Vv S h
   simpa[Vs] using this
  ·rw[hx.jU,hy.jU]
   have:=Vx S h
   simpa[Vt] using this
  ·obtain ⟨s1,e1,l1⟩:=hx.lP
   obtain ⟨s2,e2,l2⟩:=hy.lP
   rw[e1,e2]
   rw[←l1,←l2] at h
   have:=Vy (t:=t) S h
   simpa[Vu] using this
  ·obtain ⟨cs,e1,h1,U⟩:=hx.kB
   obtain ⟨ds,e2,h3,h4⟩:=hy.kB
   rw[e1,e2]
   exact Vz S h1 h3 U h4 h
  ·
   simp only[jN] at h
   obtain ⟨h1,U⟩:=aG h
   clear h
   simp only[aK,aP] at h1
   obtain ⟨rfl,rfl,rfl⟩:=h1
   obtain ⟨⟨blk,ab,hd⟩,l,h⟩:=vA U
   obtain ⟨b,hb,e1⟩:=hx.gD ab hd
   obtain ⟨b',aA,e2⟩:=hy.gD ab hd
   rw[hb] at aA;cases aA
   rw[e1,e2]
   exact Dl S h (by cases op<;>simp[eqGuard]) fun e j he hj=>⟨run_eql_ptr_same w _ he hj,Lib.run_neq_ptr_same w _ he hj⟩
  ·simp only[jN] at h
   obtain ⟨⟨blk,ab,hd⟩,l,h⟩:=vA h
   obtain ⟨b,_,e1⟩:=hx.gD ab hd
   rw[e1,hy.Dk]
   exact Dl S h (by cases op<;>simp[eqGuard]) fun e j he hj=>⟨Xc w t e _ he,Xd w t e _ he⟩
  ·simp only[jN] at h
   obtain ⟨⟨blk,ab,hd⟩,l,h⟩:=vA h
   obtain ⟨b,_,e1⟩:=hy.gD ab hd
   rw[e1,hx.Dk]
   exact Dl S h (by cases op<;>simp[eqGuard]) fun e j he hj=>⟨Xe w t e _ he,Xf w t e _ he⟩
  ·simp only[jN] at h
   rw[hx.Dk,hy.Dk]
   exact Dl S h (by cases op<;>simp[eqGuard]) fun e j he hj=>⟨Xg w t e he,Xh w t e he⟩
  ·
   simp only[jN] at h
   obtain ⟨l,h⟩:=run_get h
   split at h
   ·rename_i t2 es ab
    obtain ⟨b,hb⟩:=hx.W5 ab
    rw[hy.HD,hb]
    exact Np (a:=some b) S x y h
   ·cases h
  ·simp only[jN] at h
   rw[hx.HD,hy.HD]
   exact Np (a:=none) S x y h
 case unOp op t x=>exact .val rfl (VA S (hs.ev hg ty x) h)
 case convert src dst x=>
  have hx:=hs.ev hg ty x
  refine .val (s:=convert src dst (a.eval x)) rfl ?_
  cases iy:P.underlying src with
  | none=>rw[iy] at h;cases h
  | some d1=>
   cases mW:P.underlying dst with
   | none=>rw[iy,mW] at h;cases d1<;>cases h
   | some d2=>
    rw[iy,mW] at h
    have gS: ∀{b:Nat} {T:TypeId} {cs:List V} {id:Nat},hp id=some (.var T cs)→β id=some b→w.shape? b=some (T,cs.length):=by
     intro b T cs id ab hb
     have hr:=S.h.rel id _ ab
     rw[hb] at hr
     cases hr with
     | var aA hh aU _ _ _=>cases aA;simp[World.shape?,hh,aU]
    cases d1<;>(try (cases d2<;>cases h;done))
    ·cases d2<;>(try (cases h;done))
     rename_i k1 k2
     cases eX:aN P A.aE ty sl x<;>rw[eX] at h hx<;>simp only at h<;>first|(cases h;done)|skip
     obtain rfl:=aM h
     rw[hx.dE]
     exact .same S (by simp[convert,run_underlying iy,run_underlying mW,Conv.intToInt]) .int
    ·cases d2<;>(try (cases h;done))
     rename_i u
     cases eX:aN P A.aE ty sl x<;>rw[eX] at h hx<;>simp only at h<;>first|(cases h;done)|skip
     rename_i id i c
     obtain ⟨l,h1⟩:=run_get h
     cases ab:hp id with
     | none=>rw[ab] at h1;cases h1
     | some blk=>
      rw[ab] at h1
      cases blk<;>simp only at h1<;>first|(cases h1;done)|skip
      rename_i T cs
      obtain ⟨U,h3⟩:=aG h1
      simp only[aK,aP] at U
      obtain ⟨rfl,h4,h5⟩:=U
      obtain ⟨b,hb,e1⟩:=hx.gD ab (by simp)
      obtain rfl:=aM h3
      obtain ⟨j,hj⟩:=yn.1 h4
      have cp:=hx
      rw[e1] at cp⊢
      exact .same S (Lib.run_from_unsafe w _ iy mW hj (gS ab hb) (by simpa using h5)) cp
    ·cases d2<;>(try (cases h;done))
     rename_i t
     cases eX:aN P A.aE ty sl x<;>rw[eX] at h hx<;>simp only at h<;>first|(cases h;done)|skip
     rename_i id i c
     obtain ⟨l,h1⟩:=run_get h
     cases ab:hp id with
     | none=>rw[ab] at h1;cases h1
     | some blk=>
      rw[ab] at h1
      cases blk<;>simp only at h1<;>first|(cases h1;done)|skip
      rename_i T cs
      obtain ⟨U,h3⟩:=aG h1
      simp only[aK,aP,jJ] at U
      obtain ⟨rfl,h4,h5⟩:=U
      obtain ⟨b,hb,e1⟩:=hx.gD ab (by simp)
      obtain rfl:=aM h3
      cases hj:P.info? t with
      | none=>rw[hj] at h5;cases h5
      | some j=>
       rw[hj] at h5
       simp only[mA] at h5
       have h6:j.size≠0:=fun e=>by rw[e] at h5;cases h5
       have cp:=hx
       rw[e1] at cp⊢
       exact .same S (Lib.run_to_unsafe w _ iy mW hj h6 (gS ab hb) (by simpa using h4)) cp
    ·rename_i e
     cases d2<;>(try (cases h;done))
     simp only at h
     cases he:P.underlying e with
     | none=>rw[he] at h;cases h
     | some d3=>
      rw[he] at h
      cases d3<;>(try (cases h;done))
      rename_i k
      cases k<;>(try (cases h;done))
      exact Xb S iy he mW hx h
 case fieldAddr s x f=>exact .val rfl (VB S (hs.ev hg ty x) h)
 case field s x f=>exact .val rfl (WA S (hs.ev hg ty x) h)
 case indexAddr t x y=>exact .val rfl (WK S (hs.ev hg ty x) (hs.ev hg 0 y) h)
 case index t x y=>
  have hx:=hs.ev hg ty x
  have hy:=hs.ev hg 0 y
  refine .val (s:=Instr.index t (a.eval x) (a.eval y)) rfl ?_
  cases hu:P.underlying t with
  | none=>rw[hu] at h;cases h
  | some d=>
   rw[hu] at h
   cases d<;>(try (cases h;done))
   cases eX:aN P A.aE ty sl x<;>rw[eX] at h hx<;>(try (cases h;done))
   cases rQ:aN P A.aE 0 sl y<;>rw[rQ] at h hy<;>(try (cases h;done))
   obtain ⟨s,e1,l1⟩:=hx.lP
   rw[e1,hy.dE]
   exact WC S hu l1 h
 case slice t x lo hi mx=>
  cases mx with
  | some m=>
   simp only at h
   refine .val (s:=Instr.sliceAt t (a.eval x) (lo.map a.eval) (hi.map a.eval) (some (a.eval m))) (by simp[execOp]) (WI S (hs.ev hg ty x) (fun hy=> ?_) (fun y hy=> ?_) (fun y hy=> ?_) h)
   ·cases lo with
    | none=>rfl
    | some l=>cases hy
   ·cases hi with
    | none=>cases hy
    | some l=>cases hy;exact ⟨_,rfl,hs.ev hg 0 l⟩
   ·cases hy;exact ⟨_,rfl,hs.ev hg 0 m⟩
  | none=>
   simp only at h
   have plain:(Cp P t (aN P A.aE ty sl x) (lo.map (aN P A.aE 0 sl)) (hi.map (aN P A.aE 0 sl))).run C hp=some (r,rd)→o4 P ((execOp a.eval ⟨dst,.slice t x lo hi none,ty,pos,after,guard⟩).run P w) w I β hp B M w0 r:=by
    intro h
    refine .val (s:=Instr.sliceAt t (a.eval x) (lo.map a.eval) (hi.map a.eval) none) (by simp[execOp]) (WH S (hs.ev hg ty x) (fun y hy=> ?_) (fun y hy=> ?_) (fun hy=> ?_) (fun hy=> ?_) h)
    ·cases lo with
     | none=>cases hy
     | some l=>cases hy;exact ⟨_,rfl,hs.ev hg 0 l⟩
    ·cases hi with
     | none=>cases hy
     | some l=>cases hy;exact ⟨_,rfl,hs.ev hg 0 l⟩
    ·cases lo with
     | none=>rfl
     | some l=>cases hy
    ·cases hi with
     | none=>rfl
     | some l=>cases hy
   have tr:(Cq P nb t (aN P A.aE ty sl x) (lo.map (aN P A.aE 0 sl)) (hi.map (aN P A.aE 0 sl))).run C hp=some (r,rd)→o4 P ((execOp a.eval ⟨dst,.slice t x lo hi none,ty,pos,after,guard⟩).run P w) w I β hp B M w0 r:=by
    intro h
    refine .val (s:=Instr.sliceAt t (a.eval x) (lo.map a.eval) (hi.map a.eval) none) (by simp[execOp]) (WN S (hs.ev hg ty x) (fun y hy=> ?_) (fun hy=> ?_) h)
    ·cases hi with
     | none=>cases hy
     | some l=>cases hy;exact ⟨_,rfl,hs.ev hg 0 l⟩
    ·cases lo with
     | none=>rfl
     | some l=>cases hy
   cases dst with
   | none=>exact plain h
   | some d=>
    simp only at h
    cases Nw:jL A.vc d with
    | true=>rw[Nw] at h;exact tr h
    | false=>rw[Nw] at h;exact plain h
 case extract x i=>
  have hx:=hs.ev hg ty x
  cases eX:aN P A.aE ty sl x<;>rw[eX] at h hx<;>simp only at h<;>first|(cases h;done)|skip
  exact .val (s:=Instr.extract (a.eval x) i) rfl (WB S hx h)
 case makeSlice t l c=>
  have hl:=hs.ev hg 0 l
  have hc:=hs.ev hg 0 c
  refine .val (s:=Instr.makeSlice t (a.eval l) (a.eval c)) rfl ?_
  cases hu:P.underlying t with
  | none=>rw[hu] at h;cases h
  | some d=>
   rw[hu] at h
   cases d<;>(try (cases h;done))
   cases HJ:aN P A.aE 0 sl l<;>rw[HJ] at h hl<;>(try (cases h;done))
   cases tx:aN P A.aE 0 sl c<;>rw[tx] at h hc<;>(try (cases h;done))
   rw[hl.dE,hc.dE]
   cases dst with
   | none=>exact MU S hu h
   | some d=>
    simp only at h
    cases hg:jL A.vc d with
    | true=>rw[hg] at h;exact Wk S hu h
    | false=>rw[hg] at h;exact MU S hu h
 case call c=>
  obtain ⟨callee,args,argTypes⟩:=c
  cases callee with
  | invoke r m=>cases h
  | value f=>
   cases f with
   | func f=>cases HI
   | tmp f=>cases HI
   | _=>cases h
  | builtin b=>
   have one: ∀{x:Operand},args.toList=[x]→args= #[x]:=fun h=>by rw[←Array.toArray_toList (xs:=args),h]
   have qv: ∀(s:Array TypeId→TypeId→Array Value→Sem Value),builtin b argTypes ty (args.map fun| .const _=>true|_=>false) (args.map a.eval)=(do Pure.pure (Next.value (←s argTypes ty (args.map a.eval))))→
     execOp a.eval ⟨dst,.call ⟨.builtin b,args,argTypes⟩,ty,pos,after,guard⟩=(do Pure.pure (Next.value (←s argTypes ty (args.map a.eval)))):=by
    intro s hb
    simp only[execOp,resolve,pure_bind,invoke]
    exact hb
   cases b<;>(try (cases h;done))
   case append=>
    simp only at h
    cases ha:args.toList with
    | nil=>rw[ha] at h;cases h
    | cons x l=>
     cases l with
     | nil=>rw[ha] at h;cases h
     | cons y l2=>
      cases l2 with
      | cons _ _=>rw[ha] at h;cases h
      | nil=>
       cases c8:argTypes.toList with
       | nil=>rw[ha,c8] at h;cases h
       | cons t l3=>
        cases l3 with
        | nil=>rw[ha,c8] at h;cases h
        | cons u l4=>
         cases l4 with
         | cons _ _=>rw[ha,c8] at h;cases h
         | nil=>
          rw[ha,c8] at h
          simp only at h
          have e1:args= #[x,y]:=by rw[←Array.toArray_toList (xs:=args),ha]
          have e2:argTypes= #[t,u]:=by rw[←Array.toArray_toList (xs:=argTypes),c8]
          cases hu:P.underlying t with
          | none=>rw[hu] at h;cases h
          | some d=>
           rw[hu] at h
           cases d<;>(try (cases h;done))
           cases hc:Nat.beq t u with
           | true=>
            rw[hc] at h
            rw[aP] at hc
            subst hc
            have:=Wn (ty:=ty) S hu (hs.ev hg t x) (hs.ev hg t y) h
            refine .val (qv Builtin.append_ rfl) ?_
            rw[e1,e2]
            simpa using this
           | false=>
            rw[hc] at h
            simp only[cond_false] at h
            have hy:=hs.ev hg u y
            cases od:P.underlying u with
            | none=>rw[od] at h;cases h
            | some du=>
             rw[od] at h
             cases du<;>(try (cases h;done))
             cases rQ:aN P A.aE u sl y<;>rw[rQ] at h hy<;>(try (cases h;done))
             simp only at h
             obtain ⟨hb,h⟩:=aG h
             obtain ⟨s1,q1,q2⟩:=hy.lP
             subst q2
             have:=Xa (ty:=ty) S hu od (Xj hb) (hs.ev hg t x) h
             refine .val (qv Builtin.append_ rfl) ?_
             rw[e1,e2]
             simpa[q1] using this
   case len=>
    simp only at h
    cases ha:args.toList with
    | nil=>rw[ha] at h;cases h
    | cons x l=>
     cases l with
     | cons _ _=>rw[ha] at h;cases h
     | nil=>
      cases c8:argTypes.toList with
      | nil=>rw[ha,c8] at h;cases h
      | cons t l3=>
       cases l3 with
       | cons _ _=>rw[ha,c8] at h;cases h
       | nil=>
        rw[ha,c8] at h
        simp only at h
        have e1:args= #[x]:=by rw[←Array.toArray_toList (xs:=args),ha]
        have e2:argTypes= #[t]:=by rw[←Array.toArray_toList (xs:=argTypes),c8]
        have hx:=hs.ev hg ty x
        refine .val (qv Builtin.len_ rfl) ?_
        rw[e1,e2]
        cases hu:P.underlying t with
        | none=>rw[hu] at h;cases h
        | some d=>
         rw[hu] at h
         cases d<;>(try (cases h;done))
         ·cases eX:aN P A.aE ty sl x<;>rw[eX] at h hx<;>(try (cases h;done))
          have:=Ml (t:=t) (ty:=ty) S hx (fun l hl=>hu) (fun hn=>absurd rfl (hn _)) h
          simpa using this
         ·have U:(∀l,aN P A.aE ty sl x≠ .str l)∧(Ck P (aN P A.aE ty sl x)).run C hp=some (r,rd):=by
           cases eX:aN P A.aE ty sl x<;>rw[eX] at h<;>first|(cases h;done)|exact ⟨fun l=>by simp,h⟩
          have:=Ml (t:=t) (ty:=ty) S hx (fun l hl=>absurd hl (U.1 l)) (fun _=>⟨_,hu⟩) U.2
          simpa using this
         ·have U:(Co (aN P A.aE ty sl x)).run C hp=some (r,rd):=by
           cases eX:aN P A.aE ty sl x<;>rw[eX] at h<;>exact h
          have:=W4 (t:=t) (ty:=ty) S hu hx U
          simpa using this
   case unsafeSliceData=>
    simp only at h
    cases ha:args.toList with
    | nil=>rw[ha] at h;cases h
    | cons x l=>
     cases l with
     | cons _ _=>rw[ha] at h;cases h
     | nil=>
      rw[ha] at h
      simp only at h
      have e1:args= #[x]:=by rw[←Array.toArray_toList (xs:=args),ha]
      have hx:=hs.ev hg ty x
      refine .val (qv Builtin.unsafeSliceData_ rfl) ?_
      rw[e1]
      cases eX:aN P A.aE ty sl x<;>rw[eX] at h hx<;>simp only at h<;>first|(cases h;done)|skip
      rename_i e id
      obtain ⟨l2,h1⟩:=run_get h
      cases ab:hp id with
      | none=>rw[ab] at h1;cases h1
      | some blk=>
       rw[ab] at h1
       cases blk<;>simp only at h1<;>first|(cases h1;done)|skip
       rename_i e' es fz
       obtain ⟨U,h3⟩:=aG h1
       simp only[aK,aP,jJ] at U
       obtain ⟨rfl,h4⟩:=U
       obtain rfl:=aM h3
       have:=Xk (ts:=argTypes) (ty:=ty) S hx ab h4
       simpa using this
   case unsafeString=>
    simp only at h
    cases ha:args.toList with
    | nil=>rw[ha] at h;cases h
    | cons x l=>
     cases l with
     | nil=>rw[ha] at h;cases h
     | cons y l2=>
      cases l2 with
      | cons _ _=>rw[ha] at h;cases h
      | nil=>
       cases c8:argTypes.toList with
       | nil=>rw[ha,c8] at h;cases h
       | cons t l3=>
        cases l3 with
        | nil=>rw[ha,c8] at h;cases h
        | cons u l4=>
         cases l4 with
         | cons _ _=>rw[ha,c8] at h;cases h
         | nil=>
          rw[ha,c8] at h
          simp only at h
          have e1:args= #[x,y]:=by rw[←Array.toArray_toList (xs:=args),ha]
          have e2:argTypes= #[t,u]:=by rw[←Array.toArray_toList (xs:=argTypes),c8]
          have hx:=hs.ev hg ty x
          have hy:=hs.ev hg ty y
          cases hu:P.underlying t with
          | none=>rw[hu] at h;cases h
          | some d=>
           rw[hu] at h
           cases d<;>(try (cases h;done))
           rename_i e
           cases eX:aN P A.aE ty sl x<;>rw[eX] at h hx<;>(try (cases h;done))
           cases rQ:aN P A.aE ty sl y<;>rw[rQ] at h hy<;>(try (cases h;done))
           rename_i id i c k n
           cases k<;>(try (cases h;done))
           simp only at h
           obtain ⟨l2,h1⟩:=run_get h
           cases ab:hp id with
           | none=>rw[ab] at h1;cases h1
           | some blk=>
            rw[ab] at h1
            cases blk<;>simp only at h1<;>first|(cases h1;done)|skip
            rename_i e' es fz
            cases fz<;>simp only at h1<;>first|(cases h1;done)|skip
            obtain ⟨U,h3⟩:=aG h1
            simp only[aK,aP,di,dR] at U
            obtain ⟨rfl,h4,rfl,rfl,h5,h6,h7,h8⟩:=U
            obtain rfl:=aM h3
            have:=Xl (u:=u) (ty:=ty) S hu h4 hx ab h5 h6 h7 h8
            refine .val (qv Builtin.unsafeString_ rfl) ?_
            rw[e1,e2]
            simpa[hy.dE] using this
   case copy=>
    simp only at h
    cases ha:args.toList with
    | nil=>rw[ha] at h;cases h
    | cons x l=>
     cases l with
     | nil=>rw[ha] at h;cases h
     | cons y l2=>
      cases l2 with
      | cons _ _=>rw[ha] at h;cases h
      | nil=>
       cases c8:argTypes.toList with
       | nil=>rw[ha,c8] at h;cases h
       | cons t l3=>
        cases l3 with
        | nil=>rw[ha,c8] at h;cases h
        | cons u l4=>
         cases l4 with
         | cons _ _=>rw[ha,c8] at h;cases h
         | nil=>
          rw[ha,c8] at h
          simp only at h
          have e1:args= #[x,y]:=by rw[←Array.toArray_toList (xs:=args),ha]
          have e2:argTypes= #[t,u]:=by rw[←Array.toArray_toList (xs:=argTypes),c8]
          cases hu:P.underlying t with
          | none=>rw[hu] at h;cases h
          | some d=>
           rw[hu] at h
           cases d<;>(try (cases h;done))
           have:=Wu (u:=u) (ty:=ty) S hu (hs.ev hg t x) (hs.ev hg u y) h
           refine .val (qv Builtin.copy_ rfl) ?_
           rw[e1,e2]
           simpa using this
   case clear=>
    simp only at h
    cases ha:args.toList with
    | nil=>rw[ha] at h;cases h
    | cons x l=>
     cases l with
     | cons _ _=>rw[ha] at h;cases h
     | nil=>
      cases c8:argTypes.toList with
      | nil=>rw[ha,c8] at h;cases h
      | cons t l3=>
       cases l3 with
       | cons _ _=>rw[ha,c8] at h;cases h
       | nil=>
        rw[ha,c8] at h
        simp only at h
        have e1:args= #[x]:=by rw[←Array.toArray_toList (xs:=args),ha]
        have e2:argTypes= #[t]:=by rw[←Array.toArray_toList (xs:=argTypes),c8]
        cases hu:P.underlying t with
        | none=>rw[hu] at h;cases h
        | some d=>
         rw[hu] at h
         cases d<;>(try (cases h;done))
         have:=Wv (ty:=ty) S hu (hs.ev hg t x) h
         refine .val (qv Builtin.clear_ rfl) ?_
         rw[e1,e2]
         simpa using this
   case max=>
    simp only at h
    cases ha:args.toList with
    | nil=>rw[ha] at h;cases h
    | cons x l=>
     rw[ha] at h
     simp only at h
     have:=Hp S true (vs:=l.map a.eval) (xs:=l.map (aN P A.aE ty sl)) (hs.ev hg ty x) (by simp) (fun j u y hu hy=>by
      simp only[gf] at hu hy
      cases hl:l[j]? with
      | none=>rw[hl] at hu;cases hu
      | some z=>rw[hl] at hu hy;cases hu;cases hy;exact hs.ev hg ty z) h
     refine .val (qv Builtin.max_ rfl) ?_
     simpa[Builtin.max_,ha] using this
   case min=>
    simp only at h
    cases ha:args.toList with
    | nil=>rw[ha] at h;cases h
    | cons x l=>
     rw[ha] at h
     simp only at h
     have:=Hp S false (vs:=l.map a.eval) (xs:=l.map (aN P A.aE ty sl)) (hs.ev hg ty x) (by simp) (fun j u y hu hy=>by
      simp only[gf] at hu hy
      cases hl:l[j]? with
      | none=>rw[hl] at hu;cases hu
      | some z=>rw[hl] at hu hy;cases hu;cases hy;exact hs.ev hg ty z) h
     refine .val (qv Builtin.min_ rfl) ?_
     simpa[Builtin.min_,ha] using this
end
section
variable {P:Program} {A:cx} {w w':World} {I I' I2:Nat→Prop} {μ β β':Nat→Option Nat} {hp hp':Nat→Option an} {C:ag} {B:Nat} {M:Nat→Prop} {w0:Start}
theorem vU: ∀{l m:List Nat},ec.nP l m=true→l=m
 | [],[],_=>rfl
 | [],_::_,h=>by cases h
 | _::_,[],h=>by cases h
 | a::l,b::m,h=>by
  simp only[ec.nP,aK,aP] at h
  rw[h.1,vU h.2]
@[simp] theorem Nx (n:Nat):kp (dS n)=n:=by simp[kp,dS,V.toInt]
theorem Dn: ∀(path:List (Nat × Nat)) (rest:List V),yH (path.map (·.2)) ((path.map fun p=>dS p.1)++rest)=path
 | [],_=>rfl
 | p::l,rest=>by
  simp only[cF,List.cons_append,yH,V.nth,Nx,km,iQ,Dn l rest]
theorem Dp {l:LS} {x:V} {ds:List V} (h:ec l x=some ds):ds.length=l.size∧(l= .pU∨∀rest,im l (ds++rest)=x):=by
 cases l with
 | pU=>simp only[ec,dH] at h;subst h;exact ⟨rfl,.inl rfl⟩
 | int k=>
  cases x<;>simp only[ec] at h<;>first|(cases h;done)|skip
  rename_i k' n
  by_cases hk:k=k'
  ·subst hk
   simp only[rf,cond_true,dH] at h
   subst h
   exact ⟨rfl,.inr fun _=>rfl⟩
  ·simp[hk] at h
 | bool=>
  cases x<;>simp only[ec] at h<;>first|(cases h;done)|skip
  cases h
  exact ⟨rfl,.inr fun _=>rfl⟩
 | str=>
  cases x<;>simp only[ec] at h<;>first|(cases h;done)|skip
  cases h
  exact ⟨rfl,.inr fun _=>rfl⟩
 | list e=>
  cases x<;>simp only[ec] at h<;>first|(cases h;done)|skip
  rename_i e' es
  cases hb:Nat.beq e e' with
  | false=>rw[hb] at h;cases h
  | true=>
   rw[hb] at h
   rw[aP] at hb
   subst hb
   cases h
   exact ⟨rfl,.inr fun _=>rfl⟩
 | whole e j=>
  cases x<;>simp only[ec] at h<;>first|(cases h;done)|skip
  rename_i e' id
  cases hb:(Nat.beq e e'&&Nat.beq j id) with
  | false=>rw[hb] at h;cases h
  | true=>
   rw[hb] at h
   simp only[aK,aP] at hb
   obtain ⟨rfl,rfl⟩:=hb
   cases h
   exact ⟨rfl,.inr fun _=>rfl⟩
 | sub e j=>
  cases x<;>simp only[ec] at h<;>first|(cases h;done)|skip
  rename_i e' id o n
  cases hb:(Nat.beq e e'&&Nat.beq j id) with
  | false=>rw[hb] at h;cases h
  | true=>
   rw[hb] at h
   simp only[aK,aP] at hb
   obtain ⟨rfl,rfl⟩:=hb
   cases h
   exact ⟨rfl,.inr fun _=>by simp[im,V.nth]⟩
 | ptr j=>
  cases x<;>simp only[ec] at h<;>first|(cases h;done)|skip
  rename_i id i c
  cases hb:(Nat.beq j id) with
  | false=>rw[hb] at h;cases h
  | true=>
   rw[hb] at h
   rw[aP] at hb
   subst hb
   cases h
   exact ⟨rfl,.inr fun _=>by simp[im,V.nth]⟩
 | mG j i c=>
  cases x<;>simp only[ec] at h<;>first|(cases h;done)|skip
  rename_i id i' c'
  cases hb:(Nat.beq j id&&(Nat.beq i i'&&Nat.beq c c')) with
  | false=>rw[hb] at h;cases h
  | true=>
   rw[hb] at h
   simp only[aK,aP] at hb
   obtain ⟨rfl,rfl,rfl⟩:=hb
   cases h
   exact ⟨rfl,.inr fun _=>rfl⟩
 | nilS e=>
  cases x<;>simp only[ec] at h<;>first|(cases h;done)|skip
  rename_i e'
  cases hb:Nat.beq e e' with
  | false=>rw[hb] at h;cases h
  | true=>
   rw[hb] at h
   rw[aP] at hb
   subst hb
   cases h
   exact ⟨rfl,.inr fun _=>rfl⟩
 | df=>
  cases x<;>simp only[ec] at h<;>first|(cases h;done)|skip
  cases h
  exact ⟨rfl,.inr fun _=>rfl⟩
 | cl e j=>
  cases x<;>simp only[ec] at h<;>first|(cases h;done)|skip
  rename_i e' id
  cases hb:(Nat.beq e e'&&Nat.beq j id) with
  | false=>rw[hb] at h;cases h
  | true=>
   rw[hb] at h
   simp only[aK,aP] at hb
   obtain ⟨rfl,rfl⟩:=hb
   cases h
   exact ⟨rfl,.inr fun _=>rfl⟩
 | dj e=>
  cases x<;>simp only[ec] at h<;>first|(cases h;done)|skip
  rename_i e'
  cases hb:Nat.beq e e' with
  | false=>rw[hb] at h;cases h
  | true=>
   rw[hb] at h
   rw[aP] at hb
   subst hb
   cases h
   exact ⟨rfl,.inr fun _=>rfl⟩
 | Cd k n=>
  cases x<;>simp only[ec] at h<;>first|(cases h;done)|skip
  rename_i k' m
  cases hb:(decide (k=k')&&decide (m=n)) with
  | false=>rw[hb] at h;cases h
  | true=>
   rw[hb] at h
   simp only[aK,dR] at hb
   obtain ⟨rfl,rfl⟩:=hb
   cases h
   exact ⟨rfl,.inr fun _=>rfl⟩
 | Ce b=>
  cases x<;>simp only[ec] at h<;>first|(cases h;done)|skip
  rename_i c
  cases hb:decide (b=c) with
  | false=>rw[hb] at h;cases h
  | true=>
   rw[hb] at h
   obtain rfl:=my hb
   cases h
   exact ⟨rfl,.inr fun _=>rfl⟩
 | row e j cs=>
  cases x<;>simp only[ec] at h<;>first|(cases h;done)|skip
  rename_i e' id ver path
  cases hb:(Nat.beq e e'&&(Nat.beq j id&&(Nat.beq ver 0&&ec.nP cs (path.map (·.2))))) with
  | false=>rw[hb] at h;cases h
  | true=>
   rw[hb] at h
   simp only[aK,aP] at hb
   obtain ⟨rfl,rfl,rfl,nX⟩:=hb
   have:=vU nX
   subst this
   cases h
   exact ⟨by simp[LS.size],.inr fun rest=>by simp only[im,Dn]⟩
 | cw j cs c=>
  cases x<;>simp only[ec] at h<;>first|(cases h;done)|skip
  rename_i id ver path i c'
  cases hb:(Nat.beq j id&&(Nat.beq ver 0&&(Nat.beq c c'&&ec.nP cs (path.map (·.2))))) with
  | false=>rw[hb] at h;cases h
  | true=>
   rw[hb] at h
   simp only[aK,aP] at hb
   obtain ⟨rfl,rfl,rfl,nX⟩:=hb
   have:=vU nX
   subst this
   cases h
   exact ⟨by simp[LS.size],.inr fun rest=>by simp only[im,List.cons_append,V.nth,Nx,km,iQ,Dn]⟩
def LS.below (n:Nat) (x:V):Prop:= ∀id∈ed x,id<n
def Ny:V→Prop
 | .agg _=>False
 | .bd _=>False
 | .fn .. =>False
 | .pref .. =>False
 | _=>True
theorem tG {c:Bool} {a d:List V} (h:(bif c then some a else none)=some d):c=true:=by
 cases c with
 | true=>rfl
 | false=>cases h
theorem Xo {l:LS} {x:V} {ds:List V} {n:Nat} (h:ec l x=some ds) (hl:l≠ .pU) (au:l.ok n=true):Ny x∧LS.below n x:=by
 cases l<;>cases x<;>simp only[ec] at h<;>first|(cases h;done)|(exact absurd rfl hl)|skip
 all_goals refine ⟨trivial,fun id ab=> ?_⟩
 all_goals simp only[ed,eb,List.not_mem_nil] at ab
 all_goals subst ab
 all_goals simp only[LS.ok,jJ] at au
 all_goals
  have hb:=tG h
  simp only[aK,aP] at hb
  omega
theorem ao.Xp {v:Value} {x:V} (h:ao P w I β hp v x) (hx:Ny x) (hs: ∀id∈ed x,hp' id=hp id∧β' id=β id):ao P w I β' hp' v x:=by
 have one: ∀{id},id∈ed x→hp' id=hp id∧β' id=β id:=fun h=>hs _ h
 cases h with
 | undef=>exact .undef
 | int=>exact .int
 | bool=>exact .bool
 | str h=>exact .str h
 | list h=>exact .list h
 | nilS=>exact .nilS
 | agg=>exact hx.elim
 | bd=>exact hx.elim
 | df=>exact .df
 | fn=>exact hx.elim
 | pref=>exact hx.elim
 | dV h=>exact .dV ((one (by simp[ed])).1.trans h)
 | fO h=>exact .fO ((one (by simp[ed])).1.trans h)
 | jR h=>exact .jR ((one (by simp[ed])).1.trans h)
 | dt h hb=>exact .dt ((one (by simp[ed])).1.trans h) ((one (by simp[ed])).2.trans hb)
 | whole h hb a b c=>exact .whole ((one (by simp[ed])).1.trans h) ((one (by simp[ed])).2.trans hb) a b c
 | ee h hb a b c=>exact .ee ((one (by simp[ed])).1.trans h) ((one (by simp[ed])).2.trans hb) a b c
 | fy h hb=>exact .fy ((one (by simp[ed])).1.trans h) ((one (by simp[ed])).2.trans hb)
 | sub h hb a b c=>exact .sub ((one (by simp[ed])).1.trans h) ((one (by simp[ed])).2.trans hb) a b c
 | ptr h hd hb=>exact .ptr ((one (by simp[ed])).1.trans h) hd ((one (by simp[ed])).2.trans hb)
 | jl h qq=>exact .jl ((one (by simp[ed])).1.trans h) qq
 | jm h qq=>exact .jm ((one (by simp[ed])).1.trans h) qq
 | row h hb a b c d=>exact .row ((one (by simp[ed])).1.trans h) ((one (by simp[ed])).2.trans hb) a b c d
 | cw h hb a b c d e=>exact .cw ((one (by simp[ed])).1.trans h) ((one (by simp[ed])).2.trans hb) a b c d e
 | dj=>exact .dj
 | gZ h=>exact .gZ ((one (by simp[ed])).1.trans h)
 | cl h hb=>exact .cl ((one (by simp[ed])).1.trans h) ((one (by simp[ed])).2.trans hb)
theorem mX {a b:List V} {n:Nat} (h:a.length=n):(a++b).drop n=b:=by subst h;simp
def zq (n:Nat) (β:Nat→Option Nat) (hp:Nat→Option an) (β':Nat→Option Nat) (hp':Nat→Option an):Prop:= ∀id,id<n→hp' id=hp id∧β' id=β id
theorem Nz {l:LS} {x:V} {ds:List V} {n:Nat} {v:Value} (h:ec l x=some ds) (au:l.ok n=true) (iF:zq n β hp β' hp') (hv:ao P w I β hp v x) (rest:List V):
  ao P w I β' hp' v (im l (ds++rest)):=by
 rcases (Dp h).2 with e|e
 ·subst e;exact .undef
 ·rw[e rest]
  by_cases hu:l= .pU
  ·subst hu
   have:x= .undef:=(e rest).symm
   subst this
   exact .undef
  ·obtain ⟨h1,U⟩:=Xo h hu au
   exact hv.Xp h1 fun id ab=>iF id (U id ab)
theorem zr {n:Nat} (iF:zq n β hp β' hp'): ∀{ls:List LS} {xs:List V} {ds:List V},oW ls xs=some ds→ls.all (LS.ok n)=true→
  ds.length=jO ls∧(∀rest,(gT ls (ds++rest)).length=xs.length)∧
  ∀(rest:List V) (j:Nat) (v:Value) (y:V),(∀x,xs[j]? =some x→ao P w I β hp v x)→(gT ls (ds++rest))[j]? =some y→ao P w I β' hp' v y
 | [],[],ds,h,_=>by cases h;exact ⟨rfl,fun _=>rfl,fun rest j v y _ hy=>by simp[gT] at hy⟩
 | [],_::_,ds,h,_=>by cases h
 | _::_,[],ds,h,_=>by cases h
 | l::ls,x::xs,ds,h,au=>by
  simp only[oW] at h
  obtain ⟨a,h1,h⟩:=bind_some h
  obtain ⟨b,U,h⟩:=bind_some h
  cases h
  simp only[List.all_cons,aK] at au
  obtain ⟨i1,i2,i3⟩:=zr iF U au.2
  have b8:=(Dp h1).1
  have hd: ∀rest,(a++b++rest).drop l.size=b++rest:=fun rest=>by rw[cj];exact mX b8
  refine ⟨by simp only[bR,jO];omega,fun rest=>by simp only[gT,List.length_cons,hd,i2],fun rest j v y hv hy=> ?_⟩
  simp only[gT,hd] at hy
  cases j with
  | zero=>
   simp at hy
   subst hy
   exact Nz h1 au.1 iF (hv x rfl) _
  | succ j=>exact i3 rest j v y (fun x hx=>hv x (by simpa using hx)) (by simpa using hy)
theorem HK: ∀{ls:List LS} {xs:List V} {ds:List V},oW ls xs=some ds→ls.all LS.plain=true→ds.length=jO ls∧∀rest,gT ls (ds++rest)=xs
 | [],[],ds,h,_=>by cases h;exact ⟨rfl,fun _=>rfl⟩
 | [],_::_,ds,h,_=>by cases h
 | _::_,[],ds,h,_=>by cases h
 | l::ls,x::xs,ds,h,au=>by
  simp only[oW] at h
  obtain ⟨a,h1,h⟩:=bind_some h
  obtain ⟨b,U,h⟩:=bind_some h
  cases h
  simp only[List.all_cons,aK] at au
  obtain ⟨i1,i2⟩:=HK U au.2
  obtain ⟨b8,hm⟩:=Dp h1
  refine ⟨by simp only[bR,jO];omega,fun rest=> ?_⟩
  simp only[gT]
  rw[show (a++b++rest).drop l.size=b++rest by rw[cj];exact mX b8,i2,cj]
  rcases hm with e|e
  ·subst e;cases au.1
  ·rw[e]
theorem HL {n:Nat} (iF:zq n β hp β' hp') {s:VS} {x:V} {ds:List V} (h:oX s x=some ds) (au:s.ok n=true):
  ds.length=s.size∧∀(rest:List V) (v:Value),ao P w I β hp v x→ao P w I β' hp' v (ku s (ds++rest)):=by
 cases s with
 | one l=>exact ⟨(Dp h).1,fun rest v hv=>Nz h au iF hv rest⟩
 | agg ls=>
  cases x<;>simp only[oX] at h<;>first|(cases h;done)|skip
  rename_i xs
  obtain ⟨i1,i2,i3⟩:=zr (P:=P) (w:=w) (I:=I) iF h au
  refine ⟨i1,fun rest v hv=> ?_⟩
  obtain ⟨cs,rfl,e1,e2⟩:=hv.kB
  exact .agg (by rw[i2];exact e1) fun j v y hj hy=>i3 rest j v y (fun x hx=>e2 j v x hj hx) hy
 | bd ls=>
  cases x<;>simp only[oX] at h<;>first|(cases h;done)|skip
  rename_i xs
  obtain ⟨i1,i2,i3⟩:=zr (P:=P) (w:=w) (I:=I) iF h au
  refine ⟨i1,fun rest v hv=> ?_⟩
  obtain ⟨cs,rfl,e1,e2⟩:=hv.tm
  exact .bd (by rw[i2];exact e1) fun j v y hj hy=>i3 rest j v y (fun x hx=>e2 j v x hj hx) hy
 | fn f a b=>
  cases x<;>simp only[oX] at h<;>first|(cases h;done)|skip
  rename_i f' xs ys
  cases hb:Nat.beq f f' with
  | false=>rw[hb] at h;cases h
  | true=>
   rw[hb] at h
   rw[aP] at hb
   subst hb
   simp only[cond_true] at h
   obtain ⟨p,h1,h⟩:=bind_some h
   obtain ⟨q,U,h⟩:=bind_some h
   cases h
   simp only[VS.ok,aK] at au
   obtain ⟨i1,i2,i3⟩:=zr (P:=P) (w:=w) (I:=I) iF h1 au.1
   obtain ⟨j1,j2,j3⟩:=zr (P:=P) (w:=w) (I:=I) iF U au.2
   refine ⟨by simp only[bR,VS.size];omega,fun rest v hv=> ?_⟩
   cases hv with
   | fn a1 a2 b1 b2=>
    simp only[ku]
    rw[show (p++q++rest).drop (jO a)=q++rest by rw[cj];exact mX i1,cj]
    exact .fn (by rw[i2];exact a1) (fun j v y hj hy=>i3 _ j v y (fun x hx=>a2 j v x hj hx) hy) (by rw[j2];exact b1) (fun j v y hj hy=>j3 _ j v y (fun x hx=>b2 j v x hj hx) hy)
 | pref ts ls=>
  cases x<;>simp only[oX] at h<;>first|(cases h;done)|skip
  rename_i vj xs
  cases hb:ec.nP ts vj with
  | false=>rw[hb] at h;cases h
  | true=>
   rw[hb] at h
   have:=vU hb
   subst this
   simp only[cond_true] at h
   refine ⟨?_,fun rest v hv=> ?_⟩
   ·exact (HK h au).1
   ·simp only[ku]
    rw[(HK h au).2]
    cases hv with
    | pref hl hI hc=>exact .pref hl hI hc
theorem zt {n:Nat} (iF:zq n β hp β' hp'): ∀{ls:List VS} {xs:List V} {ds:List V},pM ls xs=some ds→ls.all (VS.ok n)=true→
  ds.length=rA ls∧(∀rest,(fe ls (ds++rest)).length=xs.length)∧
  ∀(rest:List V) (j:Nat) (v:Value) (y:V),(∀x,xs[j]? =some x→ao P w I β hp v x)→(fe ls (ds++rest))[j]? =some y→ao P w I β' hp' v y
 | [],[],ds,h,_=>by cases h;exact ⟨rfl,fun _=>rfl,fun rest j v y _ hy=>by simp[fe] at hy⟩
 | [],_::_,ds,h,_=>by cases h
 | _::_,[],ds,h,_=>by cases h
 | l::ls,x::xs,ds,h,au=>by
  simp only[pM] at h
  obtain ⟨a,h1,h⟩:=bind_some h
  obtain ⟨b,U,h⟩:=bind_some h
  cases h
  simp only[List.all_cons,aK] at au
  obtain ⟨i1,i2,i3⟩:=zt iF U au.2
  obtain ⟨b8,vP⟩:=HL (P:=P) (w:=w) (I:=I) iF h1 au.1
  have hd: ∀rest,(a++b++rest).drop l.size=b++rest:=fun rest=>by rw[cj];exact mX b8
  refine ⟨by simp only[bR,rA];omega,fun rest=>by simp only[fe,List.length_cons,hd,i2],fun rest j v y hv hy=> ?_⟩
  simp only[fe,hd] at hy
  cases j with
  | zero=>
   simp at hy
   subst hy
   exact vP _ v (hv x rfl)
  | succ j=>exact i3 rest j v y (fun x hx=>hv x (by simpa using hx)) (by simpa using hy)
end
section
variable {P:Program} {A:cx} {w w':World} {I I' I2:Nat→Prop} {μ β β':Nat→Option Nat} {hp hp' hp0:Nat→Option an} {C:ag} {B:Nat} {M:Nat→Prop} {w0:Start}
theorem gI: ∀{l:List an} {j:Nat},ji l j=l[j]?
 | [],j=>by simp[ji]
 | b::l,0=>rfl
 | b::l,j+1=>by simp only[ji,gI,List.getElem?_cons_succ]
theorem HM {sl:Nat→V} {k:Nat} {y:V}: ∀{l:List (Nat × VS)} {ds:List V},yF sl l=some ds→(∀p∈l,∀d,oX p.2 (sl p.1)=some d→d.length=p.2.size)→
  ds.length=nQ l∧∀rest,dr (eU l (ds++rest)) k=some y→∃s d fT,(k,s)∈l∧oX s (sl k)=some d∧y=ku s (d++fT)
 | [],ds,h,_=>by cases h;exact ⟨rfl,fun rest h=>by cases h⟩
 | (q,s)::l,ds,h,hz=>by
  simp only[yF] at h
  obtain ⟨a,h1,h⟩:=bind_some h
  obtain ⟨b,U,h⟩:=bind_some h
  cases h
  obtain ⟨i1,i2⟩:=HM (k:=k) (y:=y) U fun p hp=>hz p (kS _ hp)
  have b8:=hz (q,s) (rk ..) a h1
  refine ⟨by simp only[bR,nQ];simp only at b8;omega,fun rest hl=> ?_⟩
  simp only[eU,dr] at hl
  rw[show (a++b++rest).drop s.size=b++rest by rw[cj];exact mX b8] at hl
  cases hb:Nat.beq k q with
  | true=>
   rw[hb] at hl
   rw[aP] at hb
   subst hb
   cases hl
   exact ⟨s,a,b++rest,rk ..,h1,by rw[cj]⟩
  | false=>
   rw[hb] at hl
   obtain ⟨s',d,fT,m1,m2,m3⟩:=i2 rest hl
   exact ⟨s',d,fT,kS _ m1,m2,m3⟩
theorem HN {α:Type} {c:Bool} {x:Option α} {a:α} (h:(bif c then x else none)=some a):c=true∧x=some a:=by
 cases c with
 | true=>exact ⟨rfl,h⟩
 | false=>cases h
theorem Xq {n:Nat} {b:BS} {o:Option an} {ds:List V} (h:kq b o=some ds) (au:b.ok n=true):ds.length=b.size:=by
 cases b with
 | dead=>cases o<;>(cases h;rfl)
 | var T0 ls=>
  cases o with
  | none=>cases h
  | some blk=>
   cases blk<;>simp only[kq] at h<;>first|(cases h;done)|skip
   exact (zt (P:=default) (w:=default) (I:=fun _=>False) (β:=fun _=>none) (hp:=fun _=>none) (fun _ _=>⟨rfl,rfl⟩) (HN h).2 au).1
 | arr e fz=>
  cases o with
  | none=>cases h
  | some blk=>
   cases blk<;>simp only[kq] at h<;>first|(cases h;done)|skip
   rw[tG h] at h
   cases h
   rfl
 | nest e=>
  cases o with
  | none=>cases h
  | some blk=>
   cases blk<;>simp only[kq] at h<;>first|(cases h;done)|skip
   rw[tG h] at h
   cases h
   rfl
 | map t=>
  cases o with
  | none=>cases h
  | some blk=>
   cases blk<;>simp only[kq] at h<;>first|(cases h;done)|skip
   rw[tG h] at h
   cases h
   rfl
theorem NA {n:Nat}: ∀{l:List BS} {j:Nat} {ds:List V},yG hp j l=some ds→l.all (BS.ok n)=true→
  (∀rest,(en l (ds++rest)).length=l.length)∧∀(rest:List V) (i:Nat) (blk:an),(en l (ds++rest))[i]? =some blk→∃b d fT,l[i]? =some b∧b.ok n=true∧kq b (hp (j+i))=some d∧blk=fv b (d++fT)
 | [],j,ds,h,_=>by cases h;exact ⟨fun _=>rfl,fun rest i blk hb=>by simp[en] at hb⟩
 | b::l,j,ds,h,au=>by
  simp only[yG] at h
  obtain ⟨a,h1,h⟩:=bind_some h
  obtain ⟨c,U,h⟩:=bind_some h
  cases h
  simp only[List.all_cons,aK] at au
  obtain ⟨i1,i2⟩:=NA U au.2
  have b8:=Xq h1 au.1
  have hd: ∀rest,(a++c++rest).drop b.size=c++rest:=fun rest=>by rw[cj];exact mX b8
  refine ⟨fun rest=>by simp only[en,List.length_cons,hd,i1],fun rest i blk hb=> ?_⟩
  simp only[en,hd] at hb
  cases i with
  | zero=>
   simp at hb
   exact ⟨b,a,c++rest,rfl,au.1,h1,by rw[←hb]⟩
  | succ i=>
   obtain ⟨b',d,fT,m1,m2,m3,m4⟩:=i2 rest i blk (by simpa using hb)
   exact ⟨b',d,fT,by simpa using m1,m2,by rw[show j+(i+1)=j+1+i by omega];exact m3,m4⟩
theorem Xr {n:Nat} {b:BS} {blk:an} {ds rest:List V} (h:kq b (some blk)=some ds) (au:b.ok n=true):
  blk.le (fv b (ds++rest))∧(fv b (ds++rest)= .dead∨fv b (ds++rest)=blk∨∃T ls cs,b= .var T ls∧blk= .var T cs∧pM ls cs=some ds∧fv b (ds++rest)= .var T (fe ls (ds++rest))):=by
 cases b with
 | dead=>exact ⟨by cases blk<;>trivial,.inl rfl⟩
 | var T0 ls=>
  cases blk<;>simp only[kq] at h<;>first|(cases h;done)|skip
  obtain ⟨hT,h0⟩:=HN h
  clear h
  rw[aP] at hT
  subst hT
  exact ⟨rfl,.inr (.inr ⟨_,_,_,rfl,rfl,h0,rfl⟩)⟩
 | arr e fz=>
  cases blk<;>simp only[kq] at h<;>first|(cases h;done)|skip
  rename_i e' es mJ
  have hb:=tG h
  simp only[aK,aP,beq_iff_eq] at hb
  obtain ⟨rfl,rfl⟩:=hb
  simp only[jf,beq_self_eq_true,Bool.and_self,cond_true,dH] at h
  subst h
  exact ⟨⟨rfl,rfl⟩,.inr (.inl rfl)⟩
 | nest e=>
  cases blk<;>simp only[kq] at h<;>first|(cases h;done)|skip
  rename_i e' es aq
  have hb:=tG h
  simp only[aK,aP] at hb
  obtain ⟨rfl,hv⟩:=hb
  have:=vU hv
  subst this
  simp only[jf,mD] at h
  cases h
  exact ⟨⟨rfl,rfl,rfl,fun _=>bW _⟩,.inr (.inl rfl)⟩
 | map t=>
  cases blk<;>simp only[kq] at h<;>first|(cases h;done)|skip
  rename_i t' es
  have hb:=tG h
  rw[aP] at hb
  subst hb
  simp only[jf,cond_true,dH] at h
  subst h
  exact ⟨rfl,.inr (.inl rfl)⟩
theorem NB {m:Nat} {S:Shape} {st:St} {ds:List V} (h:jk m S st=some ds):
  S.ok=true∧m≤S.ba.length∧∃a b,yF st.sl S.bJ=some a∧yG st.hp 0 S.ba=some b∧ds=a++b:=by
 unfold jk at h
 cases hc:(S.ok&&Nat.ble m S.ba.length) with
 | false=>rw[hc] at h;cases h
 | true=>
  rw[hc] at h
  simp only[cond_true] at h
  simp only[aK,di] at hc
  obtain ⟨a,h1,h⟩:=bind_some h
  obtain ⟨b,U,h⟩:=bind_some h
  cases h
  exact ⟨hc.1,hc.2,a,b,h1,U,rfl⟩
theorem reshape {m:Nat} {S:Shape} {st:St} {ds:List V} (h:jk m S st=some ds) (hS:aF P w I β st.hp B M w0):
  aF P w I β (bq S ds).hp B M w0∧(∀(k:Nat) (v:Value),ao P w I β st.hp v (st.sl k)→ao P w I β (bq S ds).hp v ((bq S ds).sl k))∧
  (∀(μ:Nat→Option Nat) (hp0:Nat→Option an),(∀id blk,hp0 id=some blk→id<m)→Le P w0.w w0.I μ hp0 w I β st.hp→Le P w0.w w0.I μ hp0 w I β (bq S ds).hp)∧
  ∀j blk',(bq S ds).hp j=some blk'→blk'≠ .dead→∃blk,st.hp j=some blk∧blk.le blk'∧∀o b,bu P w o blk' b→bu P w o blk b:=by
 obtain ⟨au,hm,a,b,h1,U,rfl⟩:=NB h
 unfold Shape.ok at au
 rw[aK] at au
 obtain ⟨NC,Hr⟩:=au
 have aU: ∀p∈S.bJ,∀d,oX p.2 (st.sl p.1)=some d→d.length=p.2.size:=fun p hp d hd=>
  (HL (P:=P) (w:=w) (I:=I) (β:=β) (hp:=st.hp) (fun _ _=>⟨rfl,rfl⟩) hd (fb.1 NC p hp)).1
 have b8:a.length=nQ S.bJ:=(HM (k:=0) (y:= .undef) h1 aU).1
 have Df:(bq S (a++b)).hp=ji (en S.ba (b++[])):=by
  simp only[bq,mk,c6]
  rw[mX b8]
 obtain ⟨bl,bg⟩:=NA U Hr
 have get: ∀j blk',(bq S (a++b)).hp j=some blk'→j<S.ba.length∧∃bs d fT,bs.ok S.ba.length=true∧kq bs (st.hp j)=some d∧blk'=fv bs (d++fT):=by
  intro j blk' hj
  rw[Df,gI] at hj
  obtain ⟨bs,d,fT,m1,m2,m3,m4⟩:=bg [] j blk' hj
  rw[gx] at m3
  exact ⟨(bt.1 m1).1,bs,d,fT,m2,m3,m4⟩
 have have': ∀j,j<S.ba.length→∃blk',(bq S (a++b)).hp j=some blk':=by
  intro j hj
  rw[Df,gI]
  exact ⟨_,bB (by rw[bl];exact hj)⟩
 generalize gB:(bq S (a++b)).hp=tH at*
 let br:Nat→Option an:=fun id=>if id<S.ba.length then tH id else st.hp id
 have back: ∀j blk',tH j=some blk'→blk'≠ .dead→∃blk,st.hp j=some blk∧blk.le blk'∧(blk'=blk∨∃T ls cs d fT,ls.all (VS.ok S.ba.length)=true∧blk= .var T cs∧pM ls cs=some d∧blk'= .var T (fe ls (d++fT))):=by
  intro j blk' hj hd
  obtain ⟨b7,bs,d,fT,m1,m2,m3⟩:=get j blk' hj
  cases bL:st.hp j with
  | none=>
   rw[bL] at m2
   cases bs<;>simp only[kq] at m2<;>first|(cases m2;done)|skip
   exact absurd m3 hd
  | some blk=>
   rw[bL] at m2
   obtain ⟨n1,n2⟩:=Xr (rest:=fT) m2 m1
   rw[←m3] at n1 n2
   refine ⟨blk,rfl,n1,?_⟩
   rcases n2 with e|e|⟨T,ls,cs,e1,e2,e3,e4⟩
   ·exact absurd e hd
   ·exact .inl e
   ·subst e1
    exact .inr ⟨T,ls,cs,d,fT,m1,e2,e3,e4⟩
 have Xs: ∀j blk,st.hp j=some blk→j<S.ba.length→∃blk',tH j=some blk'∧blk.le blk':=by
  intro j blk hj b7
  obtain ⟨blk',aA⟩:=have' j b7
  refine ⟨blk',aA,?_⟩
  by_cases hd:blk'= .dead
  ·subst hd;cases blk<;>trivial
  ·obtain ⟨bU,e1,e2,_⟩:=back j blk' aA hd
   rw[hj] at e1;cases e1
   exact e2
 have Xt: ∀j e es aq e' aI vers',st.hp j=some (.nest e es aq)→tH j=some (.nest e' aI vers')→e'=e∧aI=es∧vers'=aq:=by
  intro j e es aq e' aI vers' hj gj
  obtain ⟨blk,e1,_,e3⟩:=back j _ gj (by simp)
  rw[hj] at e1;cases e1
  rcases e3 with e3|⟨_,_,_,_,_,_,e3,_⟩
  ·cases e3;exact ⟨rfl,rfl,rfl⟩
  ·cases e3
 have hle:Le P w I β st.hp w I β br:=by
  refine ⟨fun _ h=>h,fun _ _=>rfl,fun id blk ab=> ?_,fun _ _ _ _ _ _ _ _=>rfl,Le.rH (fun _ _ _ _ _ _=>rfl) fun id e es aq e' aI vers' ab bA=> ?_⟩
  ·by_cases hl:id<S.ba.length
   ·obtain ⟨blk',e1,e2⟩:=Xs id blk ab hl
    exact ⟨blk',by simp only[br,aj hl];exact e1,e2,fun _=>rfl⟩
   ·exact ⟨blk,by simp only[br,ai hl];exact ab,an.le_refl _,fun _=>rfl⟩
  ·by_cases hl:id<S.ba.length
   ·simp only[br,aj hl] at bA
    exact Xt _ _ _ _ _ _ _ ab bA
   ·simp only[br,ai hl] at bA
    rw[ab] at bA;cases bA
    exact ⟨rfl,rfl,rfl⟩
 have iF:zq S.ba.length β br β tH:=fun id ab=>⟨by simp only[br,aj ab],rfl⟩
 have vI: ∀j blk' blk o b,tH j=some blk'→st.hp j=some blk→bu P w o blk' b→bu P w o blk b:=by
  intro j blk' blk o b gj hj ho
  obtain ⟨bU,e1,_,e3⟩:=back j blk' gj ho.alive
  rw[hj] at e1;cases e1
  rcases e3 with e3|⟨T,ls,cs,d,fT,_,e3,_,e5⟩
  ·subst e3;exact ho
  ·subst e3;subst e5
   exact .root (by simp) (ho.flat (by simp))
 refine ⟨⟨⟨fun j blk' hj=> ?_,fun j1 j2 b1 b2 b' e1 e2 o1 o2=> ?_,fun j blk b' hj ho=> ?_,hS.h.jn⟩,hS.b6,hS.size,hS.new,hS.io⟩,fun k v hv=> ?_,fun μ hp0 aO hE=> ?_,fun j blk' hj hd=> ?_⟩
 ·by_cases hd:blk'= .dead
  ·subst hd;exact .dead
  ·obtain ⟨blk,e1,_,e3⟩:=back j blk' hj hd
   have hr:=hS.h.rel j blk e1
   generalize β j=o at hr
   rcases e3 with e3|⟨T0,ls,cs,d,fT,q1,e3,e4,e5⟩
   ·subst e3
    cases hr with
    | @var xs b' Ca T hb hh hs cH hx fQ=>
     obtain ⟨b7,bs,d,fT,m1,m2,m3⟩:=get j _ hj
     rw[e1] at m2
     cases bs<;>simp only[kq] at m2<;>first|(cases m2;done)|skip
     ·rename_i T0 ls
      simp only[fv] at m3
      obtain ⟨hT,m2⟩:=HN m2
      obtain ⟨i1,i2,i3⟩:=zt (P:=P) (w:=w) (I:=I) iF m2 m1
      injection m3 with m4 m3
      rw[m3]
      exact .var hb hh (by rw[i2];exact hs) cH (fun i v y hi hy=>i3 fT i v y (fun x cp=>(hx i v x hi cp).mono hle) hy) fQ
     ·simp only[fv] at m3
      cases m3
    | dv hb=>exact .dv hb
    | arr a1 a2 a3 a4 a5 a6 a7=>exact .arr a1 a2 a3 a4 a5 a6 a7
    | dead=>exact absurd rfl hd
    | nest a1 a2 a3=>exact .nest a1 a2 a3
    | map a1 a2 a3 a4 a5 a6 a7=>exact .map a1 a2 a3 a4 a5 a6 a7
   ·subst e3
    subst e5
    cases hr with
    | @var xs b' Ca T hb hh hs cH hx fQ=>
     obtain ⟨i1,i2,i3⟩:=zt (P:=P) (w:=w) (I:=I) iF e4 q1
     exact .var hb hh (by rw[i2];exact hs) cH (fun i v y hi hy=>i3 fT i v y (fun x cp=>(hx i v x hi cp).mono hle) hy) fQ
 ·obtain ⟨c1,x1,_,_⟩:=back j1 b1 e1 o1.alive
  obtain ⟨c2,x2,_,_⟩:=back j2 b2 e2 o2.alive
  exact hS.h.inj j1 j2 c1 c2 b' x1 x2 (vI _ _ _ _ _ e1 x1 o1) (vI _ _ _ _ _ e2 x2 o2)
 ·obtain ⟨c1,x1,_,_⟩:=back j blk hj ho.alive
  exact hS.h.own j c1 b' x1 (vI _ _ _ _ _ hj x1 ho)
 ·change ao P w I β tH v (iT (eU S.bJ (a++b)) k)
  unfold iT
  cases HO:dr (eU S.bJ (a++b)) k with
  | none=>exact .undef
  | some y=>
   obtain ⟨s,d,fT,n1,n2,n3⟩:=(HM h1 aU).2 b HO
   simp only[Option.getD_some,n3]
   exact (HL (P:=P) (w:=w) (I:=I) iF n2 (fb.1 NC _ n1)).2 fT v (hv.mono hle)
 ·have h3:=hE.trans hle
  refine ⟨h3.c7,h3.b6,fun id blk ab=> ?_,fun id blk blk' b' ab bA hd hb=> ?_,fun id e es aq e' aI vers' b2 q i c t v e1 l ab bA=> ?_⟩
  ·have hl:=aO id blk ab
   obtain ⟨blk',k1,k2,k3⟩:=h3.blk id blk ab
   simp only[br,aj (show id<S.ba.length by omega)] at k1
   exact ⟨blk',k1,k2,k3⟩
  ·have hl:=aO id blk ab
   exact h3.size id blk blk' b' ab (by simp only[br,aj (show id<S.ba.length by omega)];exact bA) hd hb
  ·have hl:=aO id _ ab
   exact h3.row id e es aq e' aI vers' b2 q i c t v e1 l ab (by simp only[br,aj (show id<S.ba.length by omega)];exact bA)
 ·obtain ⟨blk,e1,e2,_⟩:=back j blk' hj hd
  exact ⟨blk,e1,e2,fun o b' ho=>vI _ _ _ _ _ hj e1 ho⟩
end
section
variable {P:Program} {A:cx} {w w':World} {I I' I2:Nat→Prop} {μ β β':Nat→Option Nat} {hp hp' hp0:Nat→Option an} {C:ag} {B:Nat} {M:Nat→Prop} {w0:Start}
inductive dK (P:Program) (w:World) (β:Nat→Option Nat) (hp:Nat→Option an):Place→Option Nat→an→Prop
 | var {id:Nat} {T:TypeId} {cs HP:List V}:hp id=some (.var T cs)→dK P w β hp (.blk id) (β id) (.var T HP)
 | arr {id:Nat} {e:TypeId} {es:List V}:hp id=some (.arr e es false)→dK P w β hp (.blk id) (β id) (.arr e es false)
 | nest {id:Nat} {e:TypeId} {es:List V} {aq:List Nat}:hp id=some (.nest e es aq)→dK P w β hp (.blk id) (β id) (.nest e es [0,0,0])
 | row {id ver b b':Nat} {path:Path} {e0 e':TypeId} {es l:List V} {aq:List Nat}:hp id=some (.nest e0 es aq)→β id=some b→At P w b e0 es path b' e' l→yE P e'=true→
   0<path.length→path.length≤aq.length→bx aq (path.length-1)=ver→0<l.length→dK P w β hp (.row id ver path) (some b') (.arr e' l false)
 | map {id:Nat} {t:TypeId} {es:List V}:hp id=some (.map t es)→dK P w β hp (.blk id) (β id) (.map t es)
def zu (P:Program) (w:World) (β:Nat→Option Nat) (hp:Nat→Option an) (ρ:List Place) (μ:Nat→Option Nat) (hp0:Nat→Option an):Prop:=
 ∀j p,dU ρ j=some p→∃blk,hp0 j=some blk∧dK P w β hp p (μ j) blk
theorem oe: ∀{l m:List Place} {j:Nat} {p:Place},dU l j=some p→dU (l++m) j=some p
 | [],m,j,p,h=>by cases h
 | a::l,m,0,p,h=>h
 | a::l,m,j+1,p,h=>oe (l:=l) h
theorem ln: ∀{l:List Place} {j:Nat},dU l j=l[j]?
 | [],j=>by simp[dU]
 | a::l,0=>rfl
 | a::l,j+1=>by simp only[dU,ln,List.getElem?_cons_succ]
structure Ext (P:Program) (w:World) (I:Nat→Prop) (β:Nat→Option Nat) (hp:Nat→Option an) (h h':Hand) (d:List V) (u:List (Nat × an)):Prop where
 ds:h'.ds=h.ds++d
 upd:h'.upd=h.upd++u
 Dq: ∀q∈u,yW hp q
 pl: ∃m,h'.pl=h.pl++m
 nodup:(h.pl.map Place.id).Nodup→(h'.pl.map Place.id).Nodup
theorem Ext.refl (h:Hand):Ext P w I β hp h h [] []:=⟨by simp,by simp,by simp,⟨[],by simp⟩,id⟩
theorem Ext.trans {h1 U h3:Hand} {d1 d2:List V} {u1 u2:List (Nat × an)} (a:Ext P w I β hp h1 U d1 u1) (b:Ext P w I β hp U h3 d2 u2):Ext P w I β hp h1 h3 (d1++d2) (u1++u2):=by
 obtain ⟨m1,e1⟩:=a.pl
 obtain ⟨m2,e2⟩:=b.pl
 exact ⟨by rw[b.ds,a.ds,cj],by rw[b.upd,a.upd,cj],fun q hq=>(ej.1 hq).elim (a.Dq q) (b.Dq q),⟨m1++m2,by rw[e2,e1,cj]⟩,fun h=>b.nodup (a.nodup h)⟩
theorem Ext.look {h h':Hand} {d:List V} {u:List (Nat × an)} (a:Ext P w I β hp h h' d u) {j:Nat} {p:Place} (hj:dU h.pl j=some p):dU h'.pl j=some p:=by
 obtain ⟨m,e⟩:=a.pl
 rw[e]
 exact oe hj
theorem Ext.leaf (h:Hand) (x:V):Ext P w I β hp h {h with ds:=h.ds++[x]} [x] []:=⟨rfl,by simp,by simp,⟨[],by simp⟩,id⟩
theorem Xu {α:Type} {ρ:List Place} {j:Nat} {p:Place} {k:List Place→Rd α} {r:α} {rd:List Nat} (h:(unify ρ j p k).run C hp=some (r,rd)) (hb: ∃id,p= .blk id∨∃ver path,p= .row id ver path):
  ∃jt,(k jt).run C hp=some (r,rd)∧(∃m,jt=ρ++m)∧dU jt j=some p∧((ρ.map Place.id).Nodup→(jt.map Place.id).Nodup):=by
 unfold unify at h
 cases hc:Nat.blt j ρ.length with
 | true=>
  rw[hc] at h
  obtain ⟨h1,U⟩:=aG h
  refine ⟨ρ,U,⟨[],by simp⟩,?_,id⟩
  unfold L8 at h1
  split at h1
  ·rename_i a b he
   rw[aP] at h1
   subst h1
   exact he
  ·cases h1
 | false=>
  rw[hc] at h
  obtain ⟨h1,U⟩:=aG h
  simp only[aK,aP,mA] at h1
  obtain ⟨rfl,h3⟩:=h1
  refine ⟨ρ++[p],U,⟨[p],rfl⟩,?_,fun hn=> ?_⟩
  ·rw[ln];simp
  ·rw[eS,B4]
   refine ⟨hn,by simp,fun a ha b hb=> ?_⟩
   simp only[cF,fM,eb] at hb
   subst hb
   intro e
   subst e
   rw[vF ha] at h3
   cases h3
theorem tI {α:Type} {h:Hand} {j:Nat} {p:Place} {k:List Place→Rd α} {r:α} {rd:List Nat} (hr:(unify h.pl j p k).run C hp=some (r,rd)) (ds:List V):
  ∃jt,(k jt).run C hp=some (r,rd)∧dU jt j=some p∧Ext P w I β hp h {h with pl:=jt,ds:=h.ds++ds} ds []:=by
 obtain ⟨jt,a,b,c,d⟩:=Xu hr (by cases p with|blk id=>exact ⟨id,.inl rfl⟩|row id ver path=>exact ⟨id,.inr ⟨ver,path,rfl⟩⟩)
 exact ⟨jt,a,c,⟨rfl,by simp,by simp,b,d⟩⟩
theorem Xv {o:Option Nat} {blk:an} {e:TypeId} {id j:Nat} {v:Value} (hv:ao P w I β hp v (.whole e id)) (hl:dK P w β hp (.blk id) o blk) (hj:hp0 j=some blk) (ju:μ j=o):ao P w I' μ hp0 v (.whole e j):=by
 cases hl with
 | var h=>
  cases hv with
  | dV U=>rw[h] at U;cases U
  | dt U=>rw[h] at U;cases U
  | whole U=>rw[h] at U;cases U
  | ee U=>rw[h] at U;cases U
 | arr h=>
  cases hv with
  | dV U=>rw[h] at U;cases U
  | dt U hb=>rw[h] at U;cases U;exact .dt hj (ju.trans hb)
  | whole U hb a b c=>rw[h] at U;cases U;exact .whole hj (ju.trans hb) a b c
  | ee U=>rw[h] at U;cases U
 | nest h=>
  cases hv with
  | dV U=>rw[h] at U;cases U
  | dt U=>rw[h] at U;cases U
  | whole U=>rw[h] at U;cases U
  | ee U hb a b c=>rw[h] at U;cases U;exact .ee hj (ju.trans hb) a b c
 | map h=>
  cases hv with
  | dV U=>rw[h] at U;cases U
  | dt U=>rw[h] at U;cases U
  | whole U=>rw[h] at U;cases U
  | ee U=>rw[h] at U;cases U
theorem Xw {o:Option Nat} {blk:an} {t:TypeId} {id j:Nat} {v:Value} (hv:ao P w I β hp v (.cl t id)) (hl:dK P w β hp (.blk id) o blk) (hj:hp0 j=some blk) (ju:μ j=o):ao P w I' μ hp0 v (.cl t j):=by
 cases hv with
 | gZ U=>cases hl<;>(rename_i h;rw[h] at U;cases U)
 | cl U hb=>
  cases hl<;>(rename_i h;rw[h] at U;cases U)
  exact .cl hj (ju.trans hb)
theorem Xx {o:Option Nat} {blk:an} {e:TypeId} {id off n j:Nat} {v:Value} (hv:ao P w I β hp v (.sub e id off n)) (hl:dK P w β hp (.blk id) o blk) (hj:hp0 j=some blk) (ju:μ j=o):ao P w I' μ hp0 v (.sub e j off n):=by
 cases hl with
 | var h=>
  cases hv with
  | fO U=>rw[h] at U;cases U
  | fy U=>rw[h] at U;cases U
  | sub U=>rw[h] at U;cases U
 | arr h=>
  cases hv with
  | fO U=>rw[h] at U;cases U
  | fy U hb=>rw[h] at U;cases U;exact .fy hj (ju.trans hb)
  | sub U hb a b c=>rw[h] at U;cases U;exact .sub hj (ju.trans hb) a b c
 | nest h=>
  cases hv with
  | fO U=>rw[h] at U;cases U
  | fy U=>rw[h] at U;cases U
  | sub U=>rw[h] at U;cases U
 | map h=>
  cases hv with
  | fO U=>rw[h] at U;cases U
  | fy U=>rw[h] at U;cases U
  | sub U=>rw[h] at U;cases U
theorem ND {o:Option Nat} {blk:an} {id i c j:Nat} {v:Value} (hv:ao P w I β hp v (.ptr id i c)) (hl:dK P w β hp (.blk id) o blk) (hj:hp0 j=some blk) (ju:μ j=o):ao P w I' μ hp0 v (.ptr j i c):=by
 cases hl with
 | @var _ T0 cs HP h=>
  obtain ⟨b,hb,rfl⟩:=hv.gD h (by simp)
  exact ao.ptr (blk:= .var T0 HP) hj (by simp) (ju.trans hb)
 | @arr _ e es h=>
  obtain ⟨b,hb,rfl⟩:=hv.gD h (by simp)
  exact ao.ptr (blk:= .arr e es false) hj (by simp) (ju.trans hb)
 | @nest _ e es aq h=>
  obtain ⟨b,hb,rfl⟩:=hv.gD h (by simp)
  exact ao.ptr (blk:= .nest e es [0,0,0]) hj (by simp) (ju.trans hb)
 | @map _ t es h=>
  obtain ⟨b,hb,rfl⟩:=hv.gD h (by simp)
  exact ao.ptr (blk:= .map t es) hj (by simp) (ju.trans hb)
theorem Xy (cy: ∀id blk,hp id=some blk→dI P w I β hp (β id) blk) {id b i c:Nat} {e0 t:TypeId} {es l:List V} {aq:List Nat} {q:Path} {e:TypeId} {v:Value} (ab:hp id=some (.nest e0 es aq)) (hb:β id=some b)
  (ht:P.underlying t=some (.slice e)) (hc:lN P w b e0 es q i c t v (.list e l)) (hl:0<l.length): ∃b1 cap,v= .slice (some ⟨b1,0,none⟩) l.length cap∧cap*P.cellsOf e=bsize w b1∧l.length≤cap∧cap≤maxLen∧At P w b e0 es (q++[(i,c)]) b1 e l:=by
 obtain ⟨b2,e1,m,Ca,T,f,x,n1,n2,n3,n4,n5,n6⟩:=hc
 have hr:=cy _ _ ab
 cases hr with
 | nest aA hr hn=>
  rw[hb] at aA;cases aA
  have hR:=hr _ _ _ _ n1
  obtain ⟨yZ,c1,c2,c3⟩:=hR.cells
  rw[n2] at c1
  cases c1
  have tk:c<P.cellsOf e1:=by rw[←fh hR.ok];exact (bt.1 n4).1
  obtain ⟨v',d1,d2⟩:=c3 i c x t n3 n4 tk
  rw[n6] at d1
  cases d1
  rw[n5] at d2
  generalize hy:V.list e l=y at d2
  cases d2 with
  | fx a p=>unfold fu at a;rw[ht] at a;cases a
  | emp hu ha=>cases hy;simp at hl
  | row hu jo aU bY nV=>
   cases hy
   exact ⟨_,_,rfl,aU,bY,nV,n1.snoc n2 n3 n4 ht n5 jo n6⟩
theorem Xz (S:aF P w I β hp B M w0) {o:Option Nat} {blk:an} {e:TypeId} {id ver j:Nat} {path:Path} {v:Value} (hv:ao P w I β hp v (.row e id ver path)) (hl:dK P w β hp (.row id ver path) o blk) (hj:hp0 j=some blk) (ju:μ j=o):ao P w I' μ hp0 v (.whole e j):=by
 cases hl with
 | row h hb ha hf h1 U h3 h4=>
  obtain ⟨b2,q,i,c,t,l2,rfl,iB,ht,hc⟩:=hv.Mg h h1 U h3
  rw[hb] at iB;cases iB
  obtain ⟨p1,p2⟩:=GP ha
  have iw:=hc
  obtain ⟨b3,e3,m3,Ca,T,f,x,n1,n2,n3,n4,n5,n6⟩:=iw
  obtain ⟨q1,q2⟩:=CG n1 n3 n4 ht n5
  rw[p1] at q1
  rw[p2] at q2
  cases q1
  cases q2
  obtain ⟨b1,cap,rfl,m1,m2,m4,m5⟩:=Xy S.h.rel h hb ht hc h4
  have:=XA ha m5
  subst this
  exact .whole hj ju m1 m2 m4
where
 XA {b b1 b2:Nat} {e e1 e2:TypeId} {es l l2:List V} {q:Path} (h:At P w b e es q b1 e1 l) (U:At P w b e es q b2 e2 l2):b2=b1:=(h.fun U).1
theorem NF (S:aF P w I β hp B M w0) {α:Type} {l:LS} {x:V} {h:Hand} {k:Hand→Rd α} {r:α} {rd:List Nat} {v:Value} (hr:(Cs P l x h k).run C hp=some (r,rd)) (hv:ao P w I β hp v x):
  ∃h' eF d u,(k h').run C hp=some (r,eF)∧Ext P w I β hp h h' d u∧d.length=l.size∧
   ∀(I':Nat→Prop) (μ:Nat→Option Nat) (hp0:Nat→Option an),(∀b,I b→I' b)→(∀q∈u,∀b,rI P w β hp q.1 b→I' b)→∀ρ m,ρ=h'.pl++m→zu P w β hp ρ μ hp0→∀rest,ao P w I' μ hp0 v (im l (d++rest)):=by
 have plain: ∀{x':V} {iZ:List Nat},(k {h with ds:=h.ds++[x']}).run C hp=some (r,iZ)→l.size=1→(∀I' μ hp0 rest,ao P w I' μ hp0 v (im l ([x']++rest)))→∃h' eF d u,(k h').run C hp=some (r,eF)∧Ext P w I β hp h h' d u∧d.length=l.size∧
   ∀(I':Nat→Prop) (μ:Nat→Option Nat) (hp0:Nat→Option an),(∀b,I b→I' b)→(∀q∈u,∀b,rI P w β hp q.1 b→I' b)→∀ρ m,ρ=h'.pl++m→zu P w β hp ρ μ hp0→∀rest,ao P w I' μ hp0 v (im l (d++rest)):=
  fun hk hs hx=>⟨_,_,_,_,hk,Ext.leaf h _,hs.symm,fun I' μ hp0 _ _ _ _ _ _ rest=>hx I' μ hp0 rest⟩
 have mT: ∀{iZ:List Nat},(k h).run C hp=some (r,iZ)→l.size=0→(∀I' μ hp0 rest,ao P w I' μ hp0 v (im l rest))→∃h' eF d u,(k h').run C hp=some (r,eF)∧Ext P w I β hp h h' d u∧d.length=l.size∧
   ∀(I':Nat→Prop) (μ:Nat→Option Nat) (hp0:Nat→Option an),(∀b,I b→I' b)→(∀q∈u,∀b,rI P w β hp q.1 b→I' b)→∀ρ m,ρ=h'.pl++m→zu P w β hp ρ μ hp0→∀rest,ao P w I' μ hp0 v (im l (d++rest)):=
  fun hk hs hx=>⟨_,_,_,_,hk,Ext.refl h,by simp[hs],fun I' μ hp0 _ _ _ _ _ _ rest=>hx I' μ hp0 rest⟩
 unfold Cs at hr
 cases l with
 | pU=>exact mT hr rfl fun _ _ _ _=> .undef
 | int kd=>
  cases x<;>simp only at hr<;>first|(cases hr;done)|skip
  obtain ⟨h1,U⟩:=aG hr
  simp only[dR] at h1
  subst h1
  obtain rfl:=hv.dE
  exact plain U rfl fun _ _ _ _=> .int
 | bool=>
  cases x<;>simp only at hr<;>first|(cases hr;done)|skip
  obtain rfl:=hv.jU
  exact plain hr rfl fun _ _ _ _=> .bool
 | str=>
  cases x<;>simp only at hr<;>first|(cases hr;done)|skip
  obtain ⟨s,rfl,hl⟩:=hv.lP
  exact plain hr rfl fun _ _ _ _=> .str hl
 | nilS e=>
  cases x<;>simp only at hr<;>first|(cases hr;done)|skip
  obtain ⟨h1,U⟩:=aG hr
  cases hv with
  | nilS=>exact mT U rfl fun _ _ _ _=> .nilS
 | df=>
  cases x<;>simp only at hr<;>first|(cases hr;done)|skip
  cases hv with
  | df=>exact mT hr rfl fun _ _ _ _=> .df
 | row e j cs=>
  cases x<;>simp only at hr<;>first|(cases hr;done)|skip
  rename_i e' id ver path
  obtain ⟨e0,es,aq,l0,ab,p1,p2,p3,hr⟩:=nU hr
  obtain ⟨h1,U⟩:=aG hr
  simp only[aK,aP,di] at h1
  obtain ⟨rfl,nX,XB⟩:=h1
  have:=vU nX
  subst this
  obtain ⟨jt,a,b,c⟩:=tI (P:=P) (w:=w) (I:=I) (β:=β) U (path.map fun p=>dS p.1)
  refine ⟨_,_,path.map fun p=>dS p.1,[],a,c,by simp[LS.size],fun I' μ hp0 i1 i2 ρ m dg cT rest=> ?_⟩
  obtain ⟨blk,k1,k2⟩:=cT j _ (by rw[dg];exact oe b)
  obtain ⟨bb,q,i,cc,t,l,rfl,hb,ht,hc⟩:=hv.Mg ab p1 p2 p3
  have qg:blk= .nest e0 es [0,0,0]∧μ j=β id:=by
   generalize μ j=o at k2
   cases k2 with
   | var h=>rw[ab] at h;cases h
   | arr h=>rw[ab] at h;cases h
   | map h=>rw[ab] at h;cases h
   | nest h=>rw[ab] at h;cases h;exact ⟨rfl,rfl⟩
  obtain ⟨rfl,ju⟩:=qg
  simp only[im,Dn]
  have hq:q.length<3:=by rw[bR,List.length_singleton] at XB;omega
  refine .row k1 (ju.trans hb) (by simpa using hq) ?_ ht hc
  match q.length,hq with
  | 0,_=>rfl
  | 1,_=>rfl
  | 2,_=>rfl
 | cw j cs c=>cases hr
 | Cd k n=>cases hr
 | Ce b=>cases hr
 | dj t=>
  cases x<;>simp only at hr<;>first|(cases hr;done)|skip
  obtain ⟨h1,U⟩:=aG hr
  cases hv with
  | dj=>exact mT U rfl fun _ _ _ _=> .dj
 | cl t j=>
  cases x<;>simp only at hr<;>first|(cases hr;done)|skip
  rename_i t' id
  obtain ⟨h1,U⟩:=aG hr
  rw[aP] at h1
  subst h1
  obtain ⟨jt,a,b,c⟩:=tI (P:=P) (w:=w) (I:=I) (β:=β) U []
  refine ⟨_,_,[],[],a,by simpa using c,rfl,fun I' μ hp0 i1 i2 ρ m dg cT rest=> ?_⟩
  obtain ⟨blk,k1,k2⟩:=cT j _ (by rw[dg];exact oe b)
  exact Xw hv k2 k1 rfl
 | list e=>
  obtain ⟨⟨y,u⟩,l1,l2,h1,U⟩:=kA hr
  cases y<;>simp only at U<;>first|(cases U;done)|skip
  rename_i e' es
  obtain ⟨h3,h4⟩:=aG U
  rw[aP] at h3
  subst h3
  obtain ⟨p1,p2⟩:=CH S.h.rel h1 hv
  exact ⟨_,_,[.list e es],u,h4,⟨rfl,rfl,p1,⟨[],by simp⟩,id⟩,rfl,fun I' μ hp0 i1 i2 _ _ _ _ rest=> .list (p2 I' i1 i2)⟩
 | whole e j=>
  cases x<;>simp only at hr<;>first|(cases hr;done)|skip
  ·rename_i e' id
   obtain ⟨h1,U⟩:=aG hr
   rw[aP] at h1
   subst h1
   obtain ⟨jt,a,b,c⟩:=tI (P:=P) (w:=w) (I:=I) (β:=β) U []
   refine ⟨_,_,[],[],a,by simpa using c,rfl,fun I' μ hp0 i1 i2 ρ m dg cT rest=> ?_⟩
   obtain ⟨blk,k1,k2⟩:=cT j _ (by rw[dg];exact oe b)
   exact Xv hv k2 k1 rfl
  ·rename_i e' id ver path
   obtain ⟨h1,U⟩:=aG hr
   rw[aP] at h1
   subst h1
   obtain ⟨jt,a,b,c⟩:=tI (P:=P) (w:=w) (I:=I) (β:=β) U []
   refine ⟨_,_,[],[],a,by simpa using c,rfl,fun I' μ hp0 i1 i2 ρ m dg cT rest=> ?_⟩
   obtain ⟨blk,k1,k2⟩:=cT j _ (by rw[dg];exact oe b)
   exact Xz S hv k2 k1 rfl
 | sub e j=>
  cases x<;>simp only at hr<;>first|(cases hr;done)|skip
  rename_i e' id o n
  obtain ⟨h1,U⟩:=aG hr
  rw[aP] at h1
  subst h1
  obtain ⟨jt,a,b,c⟩:=tI (P:=P) (w:=w) (I:=I) (β:=β) U [dS o,dS n]
  refine ⟨_,_,[dS o,dS n],[],a,c,rfl,fun I' μ hp0 i1 i2 ρ m dg cT rest=> ?_⟩
  obtain ⟨blk,k1,k2⟩:=cT j _ (by rw[dg];exact oe b)
  simpa[im,V.nth] using Xx (I':=I') hv k2 k1 rfl
 | ptr j=>
  cases x<;>simp only at hr<;>first|(cases hr;done)|skip
  rename_i id i c
  obtain ⟨jt,a,b,c'⟩:=tI (P:=P) (w:=w) (I:=I) (β:=β) hr [dS i,dS c]
  refine ⟨_,_,[dS i,dS c],[],a,c',rfl,fun I' μ hp0 i1 i2 ρ m dg cT rest=> ?_⟩
  obtain ⟨blk,k1,k2⟩:=cT j _ (by rw[dg];exact oe b)
  simpa[im,V.nth] using ND (I':=I') hv k2 k1 rfl
 | mG j i c=>
  cases x<;>simp only at hr<;>first|(cases hr;done)|skip
  rename_i id i' c'
  obtain ⟨h1,U⟩:=aG hr
  simp only[aK,aP] at h1
  obtain ⟨rfl,rfl⟩:=h1
  obtain ⟨jt,a,b,c'⟩:=tI (P:=P) (w:=w) (I:=I) (β:=β) U []
  refine ⟨_,_,[],[],a,by simpa using c',rfl,fun I' μ hp0 i1 i2 ρ m dg cT rest=> ?_⟩
  obtain ⟨blk,k1,k2⟩:=cT j _ (by rw[dg];exact oe b)
  exact ND hv k2 k1 rfl
end
section
variable {P:Program} {A:cx} {w w':World} {I I' I2:Nat→Prop} {μ β β':Nat→Option Nat} {hp hp' hp0:Nat→Option an} {C:ag} {B:Nat} {M:Nat→Prop} {w0:Start}
def lX (P:Program) (w:World) (I:Nat→Prop) (β:Nat→Option Nat) (hp:Nat→Option an) (h':Hand) (u:List (Nat × an)) (K:(Nat→Prop)→(Nat→Option Nat)→(Nat→Option an)→Prop):Prop:=
 ∀(I':Nat→Prop) (μ:Nat→Option Nat) (hp0:Nat→Option an),(∀b,I b→I' b)→(∀q∈u,∀b,rI P w β hp q.1 b→I' b)→∀ρ m,ρ=h'.pl++m→zu P w β hp ρ μ hp0→K I' μ hp0
theorem lX.zw {h h':Hand} {d:List V} {u u':List (Nat × an)} {K:(Nat→Prop)→(Nat→Option Nat)→(Nat→Option an)→Prop} (t:lX P w I β hp h u K) (e:Ext P w I β hp h h' d u'):lX P w I β hp h' (u++u') K:=by
 obtain ⟨m1,e1⟩:=e.pl
 exact fun I' μ hp0 i1 i2 ρ m dg cT=>t I' μ hp0 i1 (fun q hq=>i2 q (ej.2 (.inl hq))) ρ (m1++m) (by rw[dg,e1,cj]) cT
theorem lX.more {h:Hand} {u u':List (Nat × an)} {K:(Nat→Prop)→(Nat→Option Nat)→(Nat→Option an)→Prop} (t:lX P w I β hp h u K):lX P w I β hp h (u'++u) K:=
 fun I' μ hp0 i1 i2 ρ m dg cT=>t I' μ hp0 i1 (fun q hq=>i2 q (ej.2 (.inr hq))) ρ m dg cT
theorem Dr (S:aF P w I β hp B M w0) {α:Type}: ∀{ls:List LS} {xs:List V} {h:Hand} {k:Hand→Rd α} {r:α} {rd:List Nat} {vs:List Value},(vk P ls xs h k).run C hp=some (r,rd)→vs.length=xs.length→
  (∀(j:Nat) v x,vs[j]? =some v→xs[j]? =some x→ao P w I β hp v x)→
  ∃h' eF d u,(k h').run C hp=some (r,eF)∧Ext P w I β hp h h' d u∧d.length=jO ls∧ls.length=xs.length∧
   lX P w I β hp h' u fun I' μ hp0=> ∀rest,(gT ls (d++rest)).length=xs.length∧∀(j:Nat) v y,vs[j]? =some v→(gT ls (d++rest))[j]? =some y→ao P w I' μ hp0 v y
 | [],[],h,k,r,rd,vs,hr,hl,hv=>⟨h,rd,[],[],hr,Ext.refl h,rfl,rfl,fun I' μ hp0 _ _ _ _ _ _ rest=>⟨rfl,fun j v y _ hy=>by simp[gT] at hy⟩⟩
 | [],_::_,h,k,r,rd,vs,hr,hl,hv=>by cases hr
 | _::_,[],h,k,r,rd,vs,hr,hl,hv=>by cases hr
 | l::ls,x::xs,h,k,r,rd,vs,hr,hl,hv=>by
  cases vs with
  | nil=>simp at hl
  | cons v vs=>
   simp only[vk] at hr
   obtain ⟨h1,iZ,d1,u1,a1,a2,a3,a4⟩:=NF S hr (hv 0 v x rfl rfl)
   obtain ⟨U,rR,d2,u2,b1,b2,b3,b5,b4⟩:=Dr S a1 (by simpa using hl) (vs:=vs) (fun j v x hj hx=>hv (j+1) v x (by simpa using hj) (by simpa using hx))
   have XC:lX P w I β hp h1 u1 fun I' μ hp0=> ∀rest,ao P w I' μ hp0 v (im l (d1++rest)):=a4
   refine ⟨U,rR,d1++d2,u1++u2,b1,a2.trans b2,by simp only[bR,jO];omega,by simp[b5],fun I' μ hp0 i1 i2 ρ m dg cT rest=> ?_⟩
   have k1:=(XC.zw b2) I' μ hp0 i1 i2 ρ m dg cT (d2++rest)
   obtain ⟨k2,k3⟩:=b4.more I' μ hp0 i1 i2 ρ m dg cT rest
   simp only[gT]
   rw[show (d1++d2++rest).drop l.size=d2++rest by rw[cj];exact mX a3,cj]
   refine ⟨by simp[k2],fun j v' y hj hy=> ?_⟩
   cases j with
   | zero=>simp at hj hy;subst hj;subst hy;exact k1
   | succ j=>exact k3 j v' y (by simpa using hj) (by simpa using hy)
theorem XD (S:aF P w I β hp B M w0) {α:Type} {s:VS} {x:V} {h:Hand} {k:Hand→Rd α} {r:α} {rd:List Nat} {v:Value} (hr:(yI P s x h k).run C hp=some (r,rd)) (hv:ao P w I β hp v x):
  ∃h' eF d u,(k h').run C hp=some (r,eF)∧Ext P w I β hp h h' d u∧d.length=s.size∧
   lX P w I β hp h' u fun I' μ hp0=> ∀rest,ao P w I' μ hp0 v (ku s (d++rest)):=by
 cases s with
 | one l=>
  simp only[yI] at hr
  obtain ⟨h1,iZ,d1,u1,a1,a2,a3,a4⟩:=NF S hr hv
  exact ⟨h1,iZ,d1,u1,a1,a2,a3,a4⟩
 | agg ls=>
  cases x<;>simp only[yI] at hr<;>first|(cases hr;done)|skip
  rename_i xs
  obtain ⟨cs,rfl,e1,e2⟩:=hv.kB
  obtain ⟨h1,iZ,d1,u1,a1,a2,a3,a5,a4⟩:=Dr S hr (vs:=cs.toList) (by simpa using e1) (fun j v x hj hx=>e2 j v x (by simpa using hj) hx)
  refine ⟨h1,iZ,d1,u1,a1,a2,a3,fun I' μ hp0 i1 i2 ρ m dg cT rest=> ?_⟩
  obtain ⟨k1,k2⟩:=a4 I' μ hp0 i1 i2 ρ m dg cT rest
  exact .agg (by rw[k1];exact e1) fun j v y hj hy=>k2 j v y (by simpa using hj) hy
 | bd ls=>cases x<;>cases hr
 | pref ts ls=>cases x<;>cases hr
 | fn f a b=>
  cases x<;>simp only[yI] at hr<;>first|(cases hr;done)|skip
  rename_i f' xs ys
  obtain ⟨hc,tJ⟩:=aG hr
  clear hr
  rw[aP] at hc
  subst hc
  cases hv with
  | @fn _ fs cs _ _ q1 q2 q3 q4=>
   obtain ⟨h1,iZ,d1,u1,a1,a2,a3,a5,a4⟩:=Dr S tJ (vs:=fs.toList) (by simpa using q1) (fun j v x hj hx=>q2 j v x (by simpa using hj) hx)
   obtain ⟨U,rR,d2,u2,b1,b2,b3,b5,b4⟩:=Dr S a1 (vs:=cs.toList) (by simpa using q3) (fun j v x hj hx=>q4 j v x (by simpa using hj) hx)
   refine ⟨U,rR,d1++d2,u1++u2,b1,a2.trans b2,by simp only[bR,VS.size];omega,fun I' μ hp0 i1 i2 ρ m dg cT rest=> ?_⟩
   obtain ⟨k1,k2⟩:=(a4.zw b2) I' μ hp0 i1 i2 ρ m dg cT (d2++rest)
   obtain ⟨k3,k4⟩:=b4.more I' μ hp0 i1 i2 ρ m dg cT rest
   simp only[ku]
   rw[show (d1++d2++rest).drop (jO a)=d2++rest by rw[cj];exact mX a3,cj]
   exact .fn (by rw[k1];exact q1) (fun j v y hj hy=>k2 j v y (by simpa using hj) hy) (by rw[k3];exact q3) (fun j v y hj hy=>k4 j v y (by simpa using hj) hy)
theorem HQ (S:aF P w I β hp B M w0) {α:Type}: ∀{ls:List VS} {xs:List V} {h:Hand} {k:Hand→Rd α} {r:α} {rd:List Nat} {vs:List Value},(yJ P ls xs h k).run C hp=some (r,rd)→vs.length=xs.length→
  (∀(j:Nat) v x,vs[j]? =some v→xs[j]? =some x→ao P w I β hp v x)→
  ∃h' eF d u,(k h').run C hp=some (r,eF)∧Ext P w I β hp h h' d u∧d.length=rA ls∧ls.length=xs.length∧
   lX P w I β hp h' u fun I' μ hp0=> ∀rest,(fe ls (d++rest)).length=xs.length∧∀(j:Nat) v y,vs[j]? =some v→(fe ls (d++rest))[j]? =some y→ao P w I' μ hp0 v y
 | [],[],h,k,r,rd,vs,hr,hl,hv=>⟨h,rd,[],[],hr,Ext.refl h,rfl,rfl,fun I' μ hp0 _ _ _ _ _ _ rest=>⟨rfl,fun j v y _ hy=>by simp[fe] at hy⟩⟩
 | [],_::_,h,k,r,rd,vs,hr,hl,hv=>by cases hr
 | _::_,[],h,k,r,rd,vs,hr,hl,hv=>by cases hr
 | l::ls,x::xs,h,k,r,rd,vs,hr,hl,hv=>by
  cases vs with
  | nil=>simp at hl
  | cons v vs=>
   simp only[yJ] at hr
   obtain ⟨h1,iZ,d1,u1,a1,a2,a3,a4⟩:=XD S hr (hv 0 v x rfl rfl)
   obtain ⟨U,rR,d2,u2,b1,b2,b3,b5,b4⟩:=HQ S a1 (by simpa using hl) (vs:=vs) (fun j v x hj hx=>hv (j+1) v x (by simpa using hj) (by simpa using hx))
   refine ⟨U,rR,d1++d2,u1++u2,b1,a2.trans b2,by simp only[bR,rA];omega,by simp[b5],fun I' μ hp0 i1 i2 ρ m dg cT rest=> ?_⟩
   have k1:=(a4.zw b2) I' μ hp0 i1 i2 ρ m dg cT (d2++rest)
   obtain ⟨k2,k3⟩:=b4.more I' μ hp0 i1 i2 ρ m dg cT rest
   simp only[fe]
   rw[show (d1++d2++rest).drop l.size=d2++rest by rw[cj];exact mX a3,cj]
   refine ⟨by simp[k2],fun j v' y hj hy=> ?_⟩
   cases j with
   | zero=>simp at hj hy;subst hj;subst hy;exact k1
   | succ j=>exact k3 j v' y (by simpa using hj) (by simpa using hy)
def Ds:List BS→Nat
 | []=>0
 | b::l=>b.size+Ds l
theorem NG: ∀{b:Nat} {e e':TypeId} {es:List V} {v:V},(∀q b' e' m,At P w b e es q b' e' m→iU P w I b' e' m)→∀(path:Path),jM P e path=some e'→lJ P e es path=some v→0<v.toList.length→
  ∃b1,At P w b e es path b1 e' v.toList
 | b,e,e',es,v,cz,[],ht,hv,hl=>by
  simp only[jM,dH] at ht
  simp only[lJ,dH] at hv
  subst ht;subst hv
  exact ⟨b,.here⟩
 | b,e,e',es,v,cz,(i,c)::q,ht,hv,hl=>by
  simp only[jM] at ht
  simp only[lJ] at hv
  obtain ⟨x,hx,hv⟩:=bind_some hv
  cases HR:(jM.yz P e)[c]? with
  | none=>rw[HR] at ht;cases ht
  | some t=>
   rw[HR] at ht
   simp only at ht
   have Dt:(aR P e)[c]? =some t:=HR
   cases hu:P.underlying t with
   | none=>rw[hu] at ht;cases ht
   | some d=>
    rw[hu] at ht
    cases d<;>simp only at ht<;>first|(cases ht;done)|skip
    rename_i e1
    rw[mO Dt] at hv
    have hR:=cz _ _ _ _ .here
    obtain ⟨Ca,c1,c2,c3⟩:=hR.cells
    have tk:c<P.cellsOf e:=by rw[←fh hR.ok];exact (bt.1 Dt).1
    obtain ⟨u,d1,d2⟩:=c3 i c x t hx Dt tk
    rw[d2.rK] at hv
    generalize hy:bH P e x c=y at d2 hv
    cases d2 with
    | fx a p=>unfold fu at a;rw[hu] at a;cases a
    | @emp e2 a cap lV ha=>
     rw[hu] at lV;cases lV
     simp only at hv
     cases q with
     | nil=>simp only[lJ,dH] at hv;subst hv;simp[V.toList] at hl
     | cons a q=>simp[lJ] at hv
    | @row e2 bX b2 cap lV jo aU bY nV=>
     rw[hu] at lV;cases lV
     simp only at hv
     have eh: ∀{q b' e' aI},At P w b2 e1 bX q b' e' aI→At P w b e es ((i,c)::q) b' e' aI:=fun h=> .step c1 hx Dt hu hy jo d1 h
     obtain ⟨b1,lk⟩:=NG (fun q b' e' m h=>cz _ _ _ _ (eh h)) q ht hv hl
     exact ⟨b1,eh lk⟩
theorem NH (S:aF P w I β hp B M w0) {α:Type}: ∀{bs:List BS} {j:Nat} {h:Hand} {k:Hand→Rd α} {r:α} {rd:List Nat},(pW P bs j h k).run C hp=some (r,rd)→
  ∃h' eF d u,(k h').run C hp=some (r,eF)∧Ext P w I β hp h h' d u∧d.length=Ds bs∧
   ∀rest,(en bs (d++rest)).length=bs.length∧∃o:Nat→Option Nat,
    (∀(i:Nat) blk,(en bs (d++rest))[i]? =some blk→∃p,dU h'.pl (j+i)=some p∧dK P w β hp p (o i) blk)∧
    lX P w I β hp h' u fun I' μ hp0=> ∀(i:Nat) blk,(en bs (d++rest))[i]? =some blk→(∀b,bu P w (o i) blk b→¬I' b)→dI P w I' μ hp0 (o i) blk
 | [],j,h,k,r,rd,hr=>⟨h,rd,[],[],hr,Ext.refl h,rfl,fun rest=>⟨rfl,fun _=>none,fun i blk hb=>by simp[en] at hb,fun I' μ hp0 _ _ _ _ _ _ i blk hb=>by simp[en] at hb⟩⟩
 | b::bs,j,h,k,r,rd,hr=>by
  simp only[pW] at hr
  have fin: ∀{h1:Hand} {iZ:List Nat} {d1:List V} {u1:List (Nat × an)} {o1:Option Nat} {p:Place},(pW P bs (j+1) h1 k).run C hp=some (r,iZ)→Ext P w I β hp h h1 d1 u1→d1.length=b.size→dU h.pl j=some p→
    (∀rest,dK P w β hp p o1 (fv b (d1++rest)))→(∀rest,lX P w I β hp h1 u1 fun I' μ hp0=>(∀bb,bu P w o1 (fv b (d1++rest)) bb→¬I' bb)→dI P w I' μ hp0 o1 (fv b (d1++rest)))→
    ∃h' eF d u,(k h').run C hp=some (r,eF)∧Ext P w I β hp h h' d u∧d.length=Ds (b::bs)∧
     ∀rest,(en (b::bs) (d++rest)).length=(b::bs).length∧∃o:Nat→Option Nat,
      (∀(i:Nat) blk,(en (b::bs) (d++rest))[i]? =some blk→∃p,dU h'.pl (j+i)=some p∧dK P w β hp p (o i) blk)∧
      lX P w I β hp h' u fun I' μ hp0=> ∀(i:Nat) blk,(en (b::bs) (d++rest))[i]? =some blk→(∀b,bu P w (o i) blk b→¬I' b)→dI P w I' μ hp0 (o i) blk:=by
   intro h1 iZ d1 u1 o1 p hk he hd br hl ht
   obtain ⟨U,rR,d2,u2,b1,b2,b3,b4⟩:=NH S hk
   refine ⟨U,rR,d1++d2,u1++u2,b1,he.trans b2,by simp only[bR,Ds];omega,fun rest=> ?_⟩
   obtain ⟨c1,o,c2,c3⟩:=b4 rest
   simp only[en]
   rw[show (d1++d2++rest).drop b.size=d2++rest by rw[cj];exact mX hd,cj]
   refine ⟨by simp[c1],fun i=>match i with|0=>o1|i+1=>o i,fun i blk hb=> ?_,fun I' μ hp0 i1 i2 ρ m dg cT i blk hb cH=> ?_⟩
   ·cases i with
    | zero=>
     simp at hb
     subst hb
     exact ⟨p,b2.look (he.look br),hl _⟩
    | succ i=>
     obtain ⟨q,e1,e2⟩:=c2 i blk (by simpa using hb)
     exact ⟨q,by rw[show j+(i+1)=j+1+i by omega];exact e1,e2⟩
   ·cases i with
    | zero=>
     simp at hb
     subst hb
     exact ((ht _).zw b2) I' μ hp0 i1 i2 ρ m dg cT cH
    | succ i=>exact c3.more I' μ hp0 i1 i2 ρ m dg cT i blk (by simpa using hb) cH
  cases br:dU h.pl j with
  | none=>rw[br] at hr;cases hr
  | some p=>
   rw[br] at hr
   cases p with
   | blk id=>
    obtain ⟨l1,hr⟩:=run_get hr
    cases ab:hp id with
    | none=>rw[ab] at hr;cases hr
    | some blk=>
     rw[ab] at hr
     cases blk with
     | dead=>cases hr
     | var T0 cs=>
      cases b<;>simp only at hr<;>first|(cases hr;done)|skip
      rename_i T1 ss
      obtain ⟨hT,XF⟩:=aG hr
      clear hr
      rw[aP] at hT
      subst hT
      have cy:=S.h.rel id _ ab
      generalize ho:β id=o at cy
      cases cy with
      | @var _ bb Ca T hb hh hs hI hx fQ=>
       obtain ⟨h1,iZ,d1,u1,a1,a2,a3,a5,a4⟩:=HQ S XF (vs:=Ca.toList) (by simpa using hs) (fun j v x hj cp=>hx j v x (by simpa using hj) cp)
       refine fin (o1:=β id) a1 a2 a3 br (fun rest=> .var ab) fun rest I' μ hp0 i1 i2 ρ m dg cT cH=> ?_
       obtain ⟨k1,k2⟩:=a4 I' μ hp0 i1 i2 ρ m dg cT rest
       exact .var (ho.trans hb) hh (by rw[k1];exact hs) (cH _ (.root (by simp[fv]) (ho.trans hb))) (fun i v y hi hy=>k2 i v y (by simpa using hi) hy) fQ
     | arr e' es fz=>
      cases fz with
      | true=>cases hr
      | false=>
       cases b with
       | arr e fz=>
        cases fz with
        | true=>cases hr
        | false=>
         obtain ⟨hc,tJ⟩:=aG hr
         clear hr
         rw[aP] at hc
         subst hc
         refine fin (d1:=[.list e es]) (o1:=β id) tJ (Ext.leaf h _) rfl br (fun rest=>dK.arr ab) fun rest I' μ hp0 i1 i2 ρ m dg cT cH=> ?_
         change dI P w I' μ hp0 (β id) (.arr e es false)
         have cy:=S.h.rel id _ ab
         generalize ho:β id=o at cy cH⊢
         cases cy with
         | dv hb=>exact .dv hb
         | arr a1 a2 a3 a4 a5 a6 a7=>
          refine .arr a1 a2 a3 a4 (fun h=>by cases h) (fun _=>cH _ (.root (by simp[fv]) a2)) fun i j x t' y1 y2 y3=> ?_
          obtain ⟨v,z1,z2⟩:=a7 i j x t' y1 y2 y3
          exact ⟨v,z1,z2.mono i1 fun _ _=>rfl⟩
       | _=>cases hr
     | nest e' es aq=>
      cases b with
      | nest e=>
       obtain ⟨hc,tJ⟩:=aG hr
       clear hr
       rw[aP] at hc
       subst hc
       refine fin (d1:=[.list e es]) (o1:=β id) tJ (Ext.leaf h _) rfl br (fun rest=>dK.nest ab) fun rest I' μ hp0 i1 i2 ρ m dg cT cH=> ?_
       have NI: ∀bb,bu P w (β id) (.nest e es [0,0,0]) bb→¬I' bb:=cH
       change dI P w I' μ hp0 (β id) (.nest e es [0,0,0])
       have cy:=S.h.rel id _ ab
       generalize ho:β id=o at cy NI⊢
       cases cy with
       | nest hb cz nY=>
        refine .nest hb (fun q b' e1 m1 hq=> ?_) nY
        obtain ⟨ok,⟨Ca,c1,c2,c3⟩,nI⟩:=cz q b' e1 m1 hq
        refine ⟨ok,⟨Ca,c1,c2,fun i j x t' y1 y2 y3=> ?_⟩,NI _ (.row hb hq)⟩
        obtain ⟨v,z1,z2⟩:=c3 i j x t' y1 y2 y3
        exact ⟨v,z1,z2.mono i1 (fun _ _=>rfl) fun _ _ _ _ _=>rfl⟩
      | _=>cases hr
     | map t' es=>
      cases b with
      | map t=>
       obtain ⟨hc,tJ⟩:=aG hr
       clear hr
       rw[aP] at hc
       subst hc
       refine fin (d1:=[.list t es]) (o1:=β id) tJ (Ext.leaf h _) rfl br (fun rest=>dK.map ab) fun rest I' μ hp0 i1 i2 ρ m dg cT cH=> ?_
       change dI P w I' μ hp0 (β id) (.map t es)
       have cy:=S.h.rel id _ ab
       generalize ho:β id=o at cy cH⊢
       cases cy with
       | map a1 a2 a3 a4 a5 a6 a7=>exact .map a1 a2 a3 a4 (cH _ (.root (by simp[fv]) a2)) a6 a7
      | _=>cases hr
   | row id ver path=>
    obtain ⟨e0,es,aq,l1,k1,k2,k3,k4,k5⟩:=nU hr
    obtain ⟨e',vv,m1,m2,m3⟩:=vu k5
    cases b with
    | arr e fz=>
     cases fz with
     | true=>cases m3
     | false=>
      obtain ⟨hc,m4⟩:=aG m3
      clear m3
      simp only[aK,aP,jJ] at hc
      obtain ⟨rfl,zx,jo⟩:=hc
      have cy:=S.h.rel id _ k1
      cases hb:β id with
      | none=>
       rw[hb] at cy
       cases cy with
       | nest aA _ _=>cases aA
      | some b0=>
       rw[hb] at cy
       cases cy with
       | nest aA cz nY=>
        cases aA
        obtain ⟨b1,c8⟩:=NG cz path m1 m2 jo
        refine fin (d1:=[.list e vv.toList]) (o1:=some b1) m4 (Ext.leaf h _) rfl br (fun rest=>dK.row k1 hb c8 zx k2 k3 k4 jo) fun rest I' μ hp0 i1 i2 ρ m dg cT cH=> ?_
        change dI P w I' μ hp0 (some b1) (.arr e vv.toList false)
        obtain ⟨ok,⟨Ca,c1,c2,c3⟩,nI⟩:=cz _ _ _ _ c8
        refine .arr ok rfl c1 c2 (fun h=>by cases h) (fun _=>cH _ (.root (by simp[fv]) rfl)) fun i j x t' y1 y2 y3=> ?_
        obtain ⟨v,z1,z2⟩:=c3 i j x t' y1 y2 y3
        refine ⟨v,z1,?_⟩
        generalize bH P e x j=y at z2⊢
        cases z2 with
        | fx _ p=>exact p.mono i1 fun _ _=>rfl
        | emp hu _=>exact absurd hu (NJ zx y2 _)
        | row hu _ _ _ _=>exact absurd hu (NJ zx y2 _)
    | _=>cases m3
where
 NJ {e t:TypeId} {j:Nat} (h:yE P e=true) (ht:(aR P e)[j]? =some t) (e':TypeId):P.underlying t≠some (.slice e'):=by
  intro hu
  have U:=fb.1 h t (jg ht)
  rw[hu] at U
  cases U
end
end Go.AM
