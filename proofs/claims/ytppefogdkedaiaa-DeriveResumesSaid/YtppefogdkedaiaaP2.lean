/-
  Functions of the program, lifted to plain data.
-/
import Derived.Great.BuildSlice
import Derived.Maps.Keyed
import Derived.WideKeyArr
import Derived.MapKept
import Derived.ChangeMaps4
import Derived.Carry
import Derived.Lib.AppendStr
import Derived.Laws.BytesString
import Derived.Lib.Builder
import Derived.Lib.UnsafeStr
import Derived.Test.YtppefogdkedaiaaP1
set_option linter.unusedVariables false
set_option linter.unusedSimpArgs false
namespace Go.AM
section
variable {P:Program} {w w':World} {I I':Nat→Prop} {β β':Nat→Option Nat} {hp hp':Nat→Option an} {C:ag} {B:Nat} {M:Nat→Prop} {w0:Start}
theorem V5 (S:aE P w I β hp B M w0) {t:TypeId} {a v:Value} {xa x:V} {r:R} {rd:List Nat} (ha:ao P w I β hp a xa) (hv:ao P w I β hp v x)
  (h:(Gx P t xa x).run C hp=some (r,rd)):o0 P ((Instr.storeAt t a v).run P w) w I β hp B M w0 r:=by
 unfold Gx at h
 obtain ⟨h0,h⟩:=aF h
 simp only[aK,aR] at h0
 obtain ⟨ht,hn⟩:=h0
 cases xa with
 | ptr id i c=>
  obtain ⟨l,h⟩:=run_get h
  cases ab:hp id with
  | none=>rw[ab] at h;cases h
  | some blk=>
   rw[ab] at h
   cases blk with
   | dead=>cases h
   | var T0 cs=>
    obtain ⟨MD,h⟩:=aF h
    have lY:oR P T0=true→0<c:=fun ca=>by
     rw[ca] at MD
     simpa using MD
    obtain ⟨b,hb,rfl⟩:=ha.gH ab (by simp)
    simp only[an.sz,Nat.mul_zero,ga]
    cases oZ:(yF P t cs&&eG P t x) with
    | true=>
     dsimp only at h
     rw[oZ] at h
     simp only[cond_true] at h
     obtain ⟨hc,h⟩:=aF h
     obtain rfl:=aN h
     simp only[aK,jN] at hc oZ
     obtain ⟨o1,o2⟩:=Mw hv oZ.2
     have lh:=VJ oZ.2
     refine Mu S ab hb ht hn (by rw[o2,lh];rfl) lY (fun j u y hu hy=> ?_) (by rw[o2];simp[o1]) (by rw[lh];simp;omega) (Mt _ _ _ _) (fun j y hy hj u hu=> ?_) (fun j y hy hj u hu=> ?_)
     ·rw[o2] at hu
      rw[lh] at hy
      cases j with
      | zero=>simp at hu hy;subst hu;subst hy;exact hv
      | succ j=>simp at hy
     ·rw[Hc] at hy
      cases vU:cs[j]? with
      | none=>rw[vU] at hy;cases hy
      | some y0=>
       rw[vU] at hy
       simp only[Option.map_some,dI] at hy
       rw[lh] at hj
       simp only[List.length_singleton] at hj
       have bu:Nat.beq c (0+j)=false:=by
        cases hq:Nat.beq c (0+j) with
        | false=>rfl
        | true=>rw[aR] at hq;omega
       rw[bu] at hy
       have:=Mi (c:=false) hv (hu y0 vU)
       rw[←hy]
       simpa using this
     ·rw[lh] at hj hu
      have V6:j=0:=by simpa using hj
      subst V6
      rw[Hc] at hy
      cases vU:cs[c+0]? with
      | none=>rw[vU] at hy;cases hy
      | some y0=>
       rw[vU] at hy
       simp only[Option.map_some,dI] at hy
       have heq:Nat.beq c (0+(c+0))=true:=by rw[aR];omega
       rw[heq] at hy
       have U:ao P w I β hp u x:=hu x rfl
       have:rC true x y0=x:=VK x y0
       rw[←hy,this]
       exact U
    | false=>
     dsimp only at h
     rw[oZ] at h
     simp only[cond_false] at h
     obtain ⟨hc,h⟩:=aF h
     simp only[aK,dP] at hc
     obtain ⟨e1,e2⟩:=Ha hv h
     obtain ⟨h1,l2,h⟩:=CZ h (vs:=v.cells.toList) (by simpa using e1) (fun j u y a b=>e2 j u y (by simpa using a) b)
     obtain rfl:=aN h
     refine Mu S ab hb ht hn e1 lY e2 h1 hc.2 (zf _ _ _ hc.2) (fun j y hy hj u hu=> ?_) (fun j y hy hj u hu=> ?_)
     ·unfold fu at hy
      rw[mZ _ _ _ _ hc.2] at hy
      rcases hj with hj|hj
      ·rw[aj hj] at hy;exact hu y hy
      ·rw[ah (by omega),ah (by omega)] at hy;exact hu y hy
     ·unfold fu at hy
      rw[mZ _ _ _ _ hc.2,ah (by omega),aj (by omega)] at hy
      rw[show c+j-c=j by omega] at hy
      exact hu y hy
   | arr e es fz=>
    cases fz with
    | true=>cases h
    | false=>
    obtain ⟨b,hb,rfl⟩:=ha.gH ab (by simp)
    obtain ⟨au,h⟩:=aF h
    obtain ⟨⟨ys,fr⟩,l1,l2,bp,h⟩:=kD h
    obtain ⟨hc,h⟩:=aF h
    obtain ⟨x0,qo,h⟩:=lf h
    obtain rfl:=aN h
    simp only[aK,lO,dP] at hc
    obtain ⟨dy,V7,iy⟩:=hc
    have o5:v.cells.size=x.cells.length∧∀(j:Nat) u y,v.cells.toList[j]? =some u→x.cells[j]? =some y→ao P w I β hp u y:=by
     cases x with
     | agg xs=>
      obtain ⟨cs,rfl,h1,U⟩:=hv.kE
      exact ⟨h1,fun j u y a b=>U j u y (by simpa[Value.cells] using a) b⟩
     | _=>
      simp only[V.cells] at bp iy⊢
      simp only[rB] at bp
      obtain ⟨⟨y1,u1⟩,l3,l4,hq,bp⟩:=kD bp
      obtain ⟨q1,q2⟩:=CN S.h.rel hq hv
      obtain ⟨⟨y2,u2⟩,l5,l6,zn,bp⟩:=kD bp
      cases zn
      have:=aN bp
      cases this
      obtain ⟨tl,tg⟩:=tq iy
      have fj:=tg 0 _ y1 (bz (by rw[tl];exact Nat.one_pos)) rfl
      have bZ:=q2 (iA P w I β hp u1) (fun _ h=> .inl h) (fun p hp b h=> .inr ⟨p,hp,h⟩)
      have ho:=bZ.pure fj
      have Hp:v.cells= #[v]:=by cases ho<;>rfl
      rw[Hp]
      refine ⟨rfl,fun j u y hu hy=> ?_⟩
      cases j with
      | zero=>simp at hu hy;subst hu;subst hy;exact hv
      | succ j=>simp at hy
    obtain ⟨k1,k2,k3⟩:=G3 S.h.rel bp (vs:=v.cells.toList) (by simpa using o5.1) o5.2
    obtain ⟨qm,S1⟩:=y9 S k2
    have zm:bG hp fr id=some (.arr e es false):=by
     rcases ti (hp:=hp) (l:=fr) (id:=id) with h|⟨b',hm,_⟩
     ·exact h.trans ab
     ·exfalso
      have V8:jQ (fr.map (·.1)) id=true:=vO (gz.2 ⟨_,hm,rfl⟩)
      rw[V8] at dy;cases dy
    have ME:=k3 (iA P w I β hp fr) (fun _ h=> .inl h) (fun p hp b h=> .inr ⟨p,hp,h⟩)
    obtain ⟨tl,tg⟩:=tq iy
    have vI:=(jY au).1
    have tv:ys.length=v.cells.size:=by rw[k1,o5.1]
    have hcn:c+v.cells.size≤P.cellsOf e:=by rw[o5.1];exact V7
    have hr:=S1.h.rel id _ zm
    cases hr with
    | dx az=>simp at qo
    | @arr _ _ _ b' Ca G9 az hh hs hf dU hx=>
     rw[hb] at az
     cases az
     have lj:i<es.length:=(br.1 qo).1
     have hbound:i*P.cellsOf e+P.cellsOf e≤Ca.size:=by
      have:(i+1)*P.cellsOf e≤es.length*P.cellsOf e:=dr _ lj
      rw[df] at this
      omega
     simp only[an.sz]
     have rS:i*P.cellsOf e+c+v.cells.size≤Ca.size:=by omega
     have cK: ¬iA P w I β hp fr b:=dU rfl
     have h1: ∀u∈v.cells.toList,u.oneCell'=true:=by
      intro u hu
      obtain ⟨j,hj⟩:=rq hu
      have b9:j<ys.length:=by rw[tv];simpa using (br.1 hj).1
      have oh:j<(((flat P e).drop c).take x.cells.length).length:=by rw[tl];exact b9
      exact (ME j u ys[j] hj (bz b9)).one (tg j _ ys[j] (bz oh) (bz b9))
     have cS:=Hb (t:=t) (o:=i*P.cellsOf e+c) (v:=v) ht (by rw[o5.1];exact hn.symm) hh rS h1
     have hlen:(Ca.toList.take (i*P.cellsOf e+c)++(v.cells.toList++Ca.toList.drop (i*P.cellsOf e+c+v.cells.toList.length))).length=Ca.size:=by
      rw[zf _ _ _ (by simpa using rS)];simp
     have bZ:(parts P e x0).length=P.cellsOf e:=by rw[vL];exact fi au
     have zg:=C2 S1 (blk':= .arr e (es.set i (ct P e (fu (parts P e x0) c ys))) false)
      (Cb:=(Ca.toList.take (i*P.cellsOf e+c)++(v.cells.toList++Ca.toList.drop (i*P.cellsOf e+c+v.cells.toList.length))).toArray) zm (by simp) ⟨rfl,by simp⟩ hb cK (by simp) hh (by simpa using hlen)
      (fun hle eI=> .arr au rfl eI (by simp only[pM,nP];omega) (fun h=>by cases h) (fun _=>cK) fun i' j z t' hz oh hj=>by
       simp only[mJ]
       rw[mZ _ _ _ _ (by simpa using rS)]
       simp only[Array.length_toList]
       rw[List.getElem?_set] at hz
       by_cases iE:i=i'
       ·subst iE
        rw[aj rfl,aj lj] at hz
        cases hz
        have Dd:j<(parts P e x0).length:=by omega
        have tw:(fu (parts P e x0) c ys)[j]? =if j<c then (parts P e x0)[j]? else if j<c+ys.length then ys[j-c]? else (parts P e x0)[j]? :=by
         unfold fu;exact mZ _ _ _ _ (by omega)
        by_cases qh:j<c
        ·rw[aj (by omega)]
         rw[aj qh] at tw
         obtain ⟨u,t2,a1,a2,a3⟩:=CW hx au qo (bz Dd)
         rw[oh] at a1;cases a1
         refine ⟨u,by simpa using a2,?_⟩
         rw[qi (tw.trans (bz Dd)) oh]
         exact a3.mono hle.c9 hle.b8
        ·rw[ah qh] at tw
         by_cases fT:j<c+ys.length
         ·rw[aj fT] at tw
          rw[ah (by omega),aj (by omega)]
          have o6:j-c<ys.length:=by omega
          have MF:j-c<v.cells.toList.length:=by simp;omega
          have ahs:j-c<v.cells.size:=by omega
          refine ⟨v.cells.toList[j-c],?_,?_⟩
          ·rw[show i*P.cellsOf e+j-(i*P.cellsOf e+c)=j-c by omega]
           exact bz MF
          ·rw[qi (tw.trans (bz o6)) oh]
           have V9:(((flat P e).drop c).take x.cells.length)[j-c]? =some t':=by
            rw[eO (by omega),gR,show c+(j-c)=j by omega,←rP]
            exact oh
           exact ((ME (j-c) _ ys[j-c] (bz MF) (bz o6)).pure (tg (j-c) t' ys[j-c] V9 (bz o6))).mono hle.c9 hle.b8
         ·rw[ah fT] at tw
          rw[ah (by omega),ah (by omega)]
          obtain ⟨u,t2,a1,a2,a3⟩:=CW hx au qo (bz Dd)
          rw[oh] at a1;cases a1
          refine ⟨u,by simpa using a2,?_⟩
          rw[qi (tw.trans (bz Dd)) oh]
          exact a3.mono hle.c9 hle.b8
       ·rw[ah iE] at hz
        obtain ⟨u,a2,a3⟩:=hx i' j z t' hz oh hj
        have bu:i'*P.cellsOf e+j<i*P.cellsOf e+c∨i*P.cellsOf e+c+v.cells.size≤i'*P.cellsOf e+j:=by
         rcases oN i' i with aP|o7
         ·left
          have:(i'+1)*P.cellsOf e≤i*P.cellsOf e:=dr _ aP
          rw[df] at this
          omega
         ·right
          have:(i+1)*P.cellsOf e≤i'*P.cellsOf e:=dr _ (by omega)
          rw[df] at this
          omega
        refine ⟨u,?_,a3.mono hle.c9 hle.b8⟩
        rcases bu with bu|bu
        ·rw[aj bu];simpa using a2
        ·rw[ah (by omega),ah (by omega)];simpa using a2)
     exact ⟨_,_,_,cS,qm.trans zg.1,zg.2,rfl⟩
   | map _ _=>cases h
   | nest e es aq=>
    obtain ⟨b,hb,rfl⟩:=ha.gH ab (by simp)
    exact MC S ht hn hv ab hb .here h
 | cA id ver path i c=>
  obtain ⟨e0,es,aq,l,ab,h1,U,h3,h⟩:=oa h
  obtain ⟨b,b1,e1,l1,hb,da,rfl⟩:=ha.Mf ab h1 U h3
  exact MC S ht hn hv ab hb da h
 | _=>cases h
end
section
variable {P:Program} {w w':World} {I I':Nat→Prop} {β β':Nat→Option Nat} {hp hp':Nat→Option an} {C:ag} {B:Nat} {M:Nat→Prop} {w0:Start}
theorem Hq: ∀{ts:List TypeId} {vs:List Value} {j:Nat} {y:V},(iU P ts vs)[j]? =some y→∃t v,ts[j]? =some t∧vs[j]? =some v∧y=oQ P t v
 | [],vs,j,y,h=>by simp[iU] at h
 | _::_,[],j,y,h=>by simp[iU] at h
 | t::ts,v::vs,0,y,h=>by simp[iU] at h;exact ⟨t,v,rfl,rfl,h.symm⟩
 | t::ts,v::vs,j+1,y,h=>by
  simp only[iU,List.getElem?_cons_succ] at h
  obtain ⟨t',v',a,b,c⟩:=Hq h
  exact ⟨t',v',by simpa using a,by simpa using b,c⟩
theorem MG: ∀{ts:List TypeId} {vs:List Value},ts.length=vs.length→(iU P ts vs).length=vs.length
 | [],[],_=>rfl
 | [],_::_,h=>by simp at h
 | _::_,[],h=>by simp at h
 | t::ts,v::vs,h=>by simp[iU,MG (ts:=ts) (vs:=vs) (by simpa using h)]
theorem j5 {e:TypeId} (h:cL P e=true): ∃i z,P.info? e=some i∧i.zero=some z∧i.size=P.cellsOf e∧z.cells.size=P.cellsOf e∧zeroCells P e=iU P (flat P e) z.cells.toList:=by
 unfold cL at h
 simp only[aK,aR,jN] at h
 obtain ⟨h1,U,_,h3⟩:=h
 cases hi:P.info? e with
 | none=>rw[hi] at h3;cases h3
 | some i=>
  rw[hi] at h3
  simp only[Option.bind_some] at h3
  cases hz:i.zero with
  | none=>rw[hz] at h3;cases h3
  | some z=>
   rw[hz] at h3
   simp only[aR] at h3
   exact ⟨i,z,rfl,hz,by simp[Program.cellsOf,hi],h3,by simp[zeroCells,hi,hz]⟩
theorem MH {e:TypeId} (h:cL P e=true): ∃i z,P.info? e=some i∧i.zero=some z∧z.cells.size=(zeroCells P e).length∧z.cells.size=P.cellsOf e∧
  ∀(j:Nat) v x,z.cells[j]? =some v→(zeroCells P e)[j]? =some x→ao P w I β hp v x:=by
 obtain ⟨i,z,h1,U,h3,h4,h5⟩:=j5 h
 have hl:(flat P e).length=z.cells.toList.length:=by rw[(jY h).1];simpa using h4.symm
 refine ⟨i,z,h1,U,?_,h4,fun j v x hv hx=> ?_⟩
 ·rw[h5,MG hl];simp
 ·rw[h5] at hx
  obtain ⟨t,v',_,vM,rfl⟩:=Hq hx
  have:v'=v:=by
   have e1:z.cells[j]? =some v':=by simpa using vM
   rw[hv] at e1;exact (cY e1).symm
  subst this
  exact ao.const t v'
theorem m7 {nb:Nat} {b:an} {v:V} {upd:List (Nat × an)} {r:R} {rd:List Nat} (h:(iW nb b v upd).run C hp=some (r,rd)):hp nb=none∧r=⟨v,(nb,b)::upd⟩:=by
 obtain ⟨l,h⟩:=run_get h
 cases hn:hp nb with
 | none=>rw[hn] at h;exact ⟨rfl,(aN h).symm⟩
 | some x=>rw[hn] at h;cases h
theorem MI (S:aE P w I β hp B M w0) {nb:Nat} {xs:List V} {C0:Array Value} {T:TypeId} (hn:hp nb=none) (hs:C0.size=xs.length)
  (hx: ∀(j:Nat) v x,C0[j]? =some v→xs[j]? =some x→ao P w I β hp v x) (fS:Ma P w.heap.size T C0):
  Le P w I β hp (w.alloc (.cells C0 T)) I (aG β nb (some w.heap.size)) (aG hp nb (some (.var T xs)))∧aE P (w.alloc (.cells C0 T)) I (aG β nb (some w.heap.size)) (aG hp nb (some (.var T xs))) B M w0∧
  ao P (w.alloc (.cells C0 T)) I (aG β nb (some w.heap.size)) (aG hp nb (some (.var T xs))) (.pointer (some ⟨w.heap.size,0,none⟩)) (.ptr nb 0 0):=by
 obtain ⟨h1,U⟩:=G5 S (blk:= .var T xs) (c:=C0) (T:=T) hn (fun b' h=>(cY (h.flat (by simp))).symm) (fun hle eI cK=> .var rfl eI hs cK (fun j v x a b=>(hx j v x a b).mono hle) fS)
 refine ⟨h1,U,?_⟩
 have:=ao.ptr (P:=P) (w:=w.alloc (.cells C0 T)) (I:=I) (β:=aG β nb (some w.heap.size)) (hp:=aG hp nb (some (.var T xs))) (i:=0) (c:=0) (blk:= .var T xs) (cR _ _ _) (by simp) (cR _ _ _)
 simpa using this
theorem Wa (S:aE P w I β hp B M w0) {e:TypeId} {nb:Nat} {r:R} {rd:List Nat}
  (h:(Rd.aB (cL P e&&(!(oR P e)||L5 (zeroCells P e))) (iW nb (.var e (zeroCells P e)) (.ptr nb 0 0) [])).run C hp=some (r,rd)):cU P ((Instr.alloc e true (.tuple #[])).run P w) w I β hp B M w0 r:=by
 obtain ⟨au,h⟩:=aF h
 rw[aK] at au
 obtain ⟨au,lY⟩:=au
 obtain ⟨hn,rfl⟩:=m7 h
 obtain ⟨i,z,h1,U,h3,h4,h5⟩:=MH (w:=w) (I:=I) (β:=β) (hp:=hp) au
 obtain ⟨a,b,c⟩:=MI S (T:=e) hn h3 h5 fun ca=>by
  rw[ca,pN,Bool.false_or] at lY
  cases hz:zeroCells P e with
  | nil=>rw[hz] at lY;cases lY
  | cons y l=>
   rw[hz] at lY h3 h5
   cases y<;>first|(cases lY;done)|skip
   have aP:0<z.cells.size:=by rw[h3];simp
   have:=h5 0 z.cells[0] .c8 (kp aP) rfl
   left
   rw[kp aP]
   generalize z.cells[0]=u at this
   cases this;rfl
 exact ⟨_,_,_,_,by simp[Instr.alloc,zeroValue,typeInfo,h1,U,newVar,newRow],a,b,c⟩
theorem Wb (S:aE P w I β hp B M w0) {e:TypeId} {nb:Nat} {x:V} {v:Value} {r:R} {rd:List Nat} (hv:ao P w I β hp v x)
  (h:(Rd.aB (!(oR P e)) <| k0 x.cells (iW nb (.var e x.cells) (.ptr nb 0 0) [])).run C hp=some (r,rd)):cU P ((Instr.box e v).run P w) w I β hp B M w0 r:=by
 obtain ⟨lY,h⟩:=aF h
 obtain ⟨e1,e2⟩:=Ha hv h
 obtain ⟨_,l,h⟩:=CZ h (vs:=v.cells.toList) (by simpa using e1) (fun j u y a b=>e2 j u y (by simpa using a) b)
 obtain ⟨hn,rfl⟩:=m7 h
 obtain ⟨a,b,c⟩:=MI S (T:=e) hn e1 e2 fun ca=>by rw[ca] at lY;cases lY
 exact ⟨_,_,_,_,by simp[Instr.box,newVar,newRow],a,b,c⟩
theorem foldl_set (off:Nat): ∀(vs:List Value) (k:Nat) (cs:Array Value) (i:Nat),off+k+vs.length≤cs.size→
  ((vs.zipIdx k).foldl (fun cs p=>cs.setIfInBounds (off+p.2) p.1) cs)[i]? =if i<off+k then cs[i]? else if i<off+k+vs.length then vs[i-(off+k)]? else cs[i]?
 | [],k,cs,i,h=>by simp;intro h1 U;omega
 | v::vs,k,cs,i,h=>by
  simp only[List.zipIdx_cons,List.foldl_cons]
  simp only[List.length_cons] at h⊢
  rw[foldl_set off vs (k+1) _ i (by simp;omega)]
  by_cases h1:i<off+k
  ·rw[aj (by omega),aj h1]
   rw[B8 (by omega)]
  ·rw[ah h1]
   by_cases U:i=off+k
   ·subst U
    rw[aj (by omega),aj (by omega)]
    rw[Gu (by omega)]
    simp
   ·rw[ah (by omega)]
    by_cases h3:i<off+k+(vs.length+1)
    ·rw[aj (by omega),aj h3,show i-(off+k)=(i-(off+(k+1)))+1 by omega]
     simp
    ·rw[ah (by omega),ah h3,B8 (by omega)]
theorem MJ (off:Nat): ∀(vs:List Value) (k:Nat) (cs:Array Value),((vs.zipIdx k).foldl (fun cs p=>cs.setIfInBounds (off+p.2) p.1) cs).size=cs.size
 | [],k,cs=>rfl
 | v::vs,k,cs=>by
  simp only[List.zipIdx_cons,List.foldl_cons]
  rw[MJ off vs (k+1)]
  simp
theorem MK {cells:Array Value} {off:Nat} {v:Value} (h:off+v.cells.size≤cells.size) (i:Nat):
  (v.cells.zipIdx.foldl (fun cs (p:Value × Nat)=>cs.setIfInBounds (off+p.2) p.1) cells)[i]? =if i<off then cells[i]? else if i<off+v.cells.size then v.cells[i-off]? else cells[i]? :=by
 have:=foldl_set off v.cells.toList 0 cells i (by simpa using h)
 rw[←B9]
 simpa[Array.toList_zipIdx] using this
theorem ML {cells:Array Value} {off:Nat} {v:Value}:(v.cells.zipIdx.foldl (fun cs (p:Value × Nat)=>cs.setIfInBounds (off+p.2) p.1) cells).size=cells.size:=by
 have:=MJ off v.cells.toList 0 cells
 rw[←B9]
 simpa[Array.toList_zipIdx] using this
inductive vV (P:Program) (w:World) (I:Nat→Prop) (β:Nat→Option Nat) (hp:Nat→Option an):List (Nat × Value)→List (Nat × V)→Prop
 | nil:vV P w I β hp [] []
 | cons {i:Nat} {v:Value} {x:V} {vs:List (Nat × Value)} {xs:List (Nat × V)}:v.cells.size=x.cells.length→(∀(j:Nat) u y,v.cells[j]? =some u→x.cells[j]? =some y→ao P w I β hp u y)→
   vV P w I β hp vs xs→vV P w I β hp ((i,v)::vs) ((i,x)::xs)
theorem MM (place:Nat→Option (Nat × Nat)): ∀{vs:List (Nat × Value)} {px:List (Nat × V)} {cells:Array Value} {xs ys:List V},vV P w I β hp vs px→cells.size=xs.length→
  (∀(j:Nat) v x,cells[j]? =some v→xs[j]? =some x→ao P w I β hp v x)→s0 place xs px=some ys→
  ∃o8:Array Value,Instr.fill place cells vs=some o8∧o8.size=ys.length∧∀(j:Nat) v x,o8[j]? =some v→ys[j]? =some x→ao P w I β hp v x
 | _,_,cells,xs,ys,.nil,hs,hx,h=>by
  simp only[s0,dI] at h
  subst h
  exact ⟨cells,by simp[Instr.fill],hs,hx⟩
 | _,_,cells,xs,ys,@vV.cons _ _ _ _ _ i v x vs px h1 U h3,hs,hx,h=>by
  simp only[s0] at h
  cases bZ:place i with
  | none=>rw[bZ] at h;cases h
  | some os=>
   obtain ⟨off,size⟩:=os
   rw[bZ] at h
   simp only at h
   cases hc:(Nat.beq x.cells.length size&&Nat.ble (off+size) xs.length) with
   | false=>rw[hc] at h;cases h
   | true=>
    rw[hc] at h
    simp only[cond_true] at h
    simp only[aK,aR,dP] at hc
    have hv:off+v.cells.size≤cells.size:=by omega
    have hb:off+x.cells.length≤xs.length:=by omega
    have hl:(fu xs off x.cells).length=xs.length:=zf _ _ _ hb
    obtain ⟨o8,f1,f2,f3⟩:=MM place (cells:=v.cells.zipIdx.foldl (fun cs (p:Value × Nat)=>cs.setIfInBounds (off+p.2) p.1) cells) (xs:=fu xs off x.cells) h3 (by rw[ML,hl,hs])
     (fun j u y hu hy=>by
      rw[MK hv] at hu
      unfold fu at hy
      rw[mZ _ _ _ _ hb] at hy
      by_cases j1:j<off
      ·rw[aj j1] at hu hy;exact hx j u y hu hy
      ·rw[ah j1] at hu hy
       by_cases j2:j<off+x.cells.length
       ·rw[aj (by omega)] at hu
        rw[aj j2] at hy
        exact U (j-off) u y hu hy
       ·rw[ah (by omega)] at hu
        rw[ah j2] at hy
        exact hx j u y hu hy) h
    refine ⟨o8,?_,f2,f3⟩
    simp only[Instr.fill,bZ]
    rw[ah (by simp;omega)]
    exact f1
theorem Wc {t:TypeId} {parts:Array (Nat × Value)} {cells:Array Value} {z:Value} {i:TypeInfo} (hi:P.info? t=some i) (hz:i.zero=some z) (h:Instr.fill (placeOf P t) z.cells parts.toList=some cells) (ha:bE P t=true)
  (bZ: ∀fs,P.underlying t=some (.struct fs)→(fs.toList.mapM fun f=>(P.info? f.type).map fun i=>(f.offset,i.size)).isSome=true) (qp: ∀n e,P.underlying t=some (.array n e)→(P.info? e).isSome=true):
  (Instr.build t parts).run P w= .ok (.agg cells) w:=by
 refine run_build w t parts cells ?_
 unfold Program.built
 unfold bE at ha
 rw[hi]
 split at ha
 ·rename_i fs hu
  have:=bZ fs hu
  cases hm:fs.toList.mapM fun f=>(P.info? f.type).map fun i=>(f.offset,i.size) with
  | none=>rw[hm] at this;cases this
  | some GK=>
   simp only[hu,hz,hm]
   have hq:placeOf P t=fun i=>GK[i]? :=by simp[placeOf,hu,hm]
   rw[hq] at h
   simpa using h
 ·rename_i n e hu
  have:=qp n e hu
  cases jz:P.info? e with
  | none=>rw[jz] at this;cases this
  | some ie=>
   simp only[hu,hz,jz]
   have hq:placeOf P t=fun i=>some (i*ie.size,ie.size):=by simp[placeOf,hu,jz]
   rw[hq] at h
   exact h
 ·cases ha
theorem MN {α:Type}: ∀(xs ys:List V) (k:Rd α),k0 (xs++ys) k=k0 xs (k0 ys k)
 | [],_,_=>rfl
 | x::xs,ys,k=>by simp only[List.cons_append,k0,MN xs ys k]
theorem MO {a:Act} {sl:Nat→V} (hs:kC P w I β hp a sl) {G:Nat→V} (hg:fZ P G w I) (t:TypeId) {α:Type}: ∀{l:List (Nat × Operand)} {k:Rd α} {r:α} {rd:List Nat},
  (k0 ((l.map fun p=>(aO P G t sl p.2).cells).flatten) k).run C hp=some (r,rd)→
  vV P w I β hp (l.map fun p=>(p.1,a.eval p.2)) (l.map fun p=>(p.1,aO P G t sl p.2))∧∃eJ,k.run C hp=some (r,eJ)
 | [],k,r,rd,h=>⟨.nil,rd,h⟩
 | (i,x)::l,k,r,rd,h=>by
  simp only[cQ,List.flatten_cons,MN] at h
  obtain ⟨e1,e2⟩:=Ha (hs.ev hg t x) h
  obtain ⟨_,l1,h⟩:=CZ h (vs:=(a.eval x).cells.toList) (by simpa using e1) (fun j u y a b=>e2 j u y (by simpa using a) b)
  obtain ⟨h1,U⟩:=MO hs hg t h
  exact ⟨.cons e1 e2 h1,U⟩
theorem Wd (S:aE P w I β hp B M w0) {a:Act} {sl:Nat→V} (hs:kC P w I β hp a sl) {G:Nat→V} (hg:fZ P G w I) {t ty:TypeId} {ps:Array (Nat × Operand)} {r:R} {rd:List Nat}
  (h:(Rd.aB (cL P t&&(bE P t&&Cx P t)) (k0 ((ps.toList.map fun p=>(aO P G ty sl p.2).cells).flatten)
   (vp (s0 (placeOf P t) (zeroCells P t) (ps.toList.map fun p=>(p.1,aO P G ty sl p.2))) fun cs=> .ret ⟨.agg cs,[]⟩))).run C hp=some (r,rd)):
  cU P ((Instr.build t (ps.map fun (i,x)=>(i,a.eval x))).run P w) w I β hp B M w0 r:=by
 obtain ⟨au,h⟩:=aF h
 simp only[aK] at au
 obtain ⟨h1,l,h⟩:=MO hs hg ty h
 cases hf:s0 (placeOf P t) (zeroCells P t) (ps.toList.map fun p=>(p.1,aO P G ty sl p.2)) with
 | none=>rw[hf] at h;cases h
 | some cs=>
  rw[hf] at h
  obtain rfl:=aN h
  obtain ⟨i,z,hi,hz,h3,h4,h5⟩:=MH (w:=w) (I:=I) (β:=β) (hp:=hp) au.1
  obtain ⟨cells,f1,f2,f3⟩:=MM (placeOf P t) h1 h3 h5 hf
  have MP:=au.2.2
  refine .same S (v:= .agg cells) (Wc hi hz (by simpa using f1) au.2.1 (fun fs hu=> ?_) (fun n e hu=> ?_)) (.agg f2 f3)
  ·simpa[Cx,hu] using MP
  ·simpa[Cx,hu] using MP
theorem We (cC: ∀id blk,hp id=some blk→dK P w I β hp (β id) blk) {x:V} {v:Value} {ys:List V} {fr:List (Nat × an)} {rd:List Nat} {ts:List TypeId} (hv:ao P w I β hp v x)
  (h:(rB P x.cells).run C hp=some ((ys,fr),rd)) (ht:pS P ts ys=true):
  v.cells.size=x.cells.length∧∀(j:Nat) u y,v.cells.toList[j]? =some u→x.cells[j]? =some y→ao P w I β hp u y:=by
 cases x with
 | agg xs=>
  obtain ⟨cs,rfl,h1,U⟩:=hv.kE
  exact ⟨h1,fun j u y a b=>U j u y (by simpa[Value.cells] using a) b⟩
 | _=>
  simp only[V.cells] at h⊢
  simp only[rB] at h
  obtain ⟨⟨y1,u1⟩,l3,l4,hq,h⟩:=kD h
  obtain ⟨q1,q2⟩:=CN cC hq hv
  obtain ⟨⟨y2,u2⟩,l5,l6,zn,h⟩:=kD h
  cases zn
  have:=aN h
  cases this
  obtain ⟨tl,tg⟩:=tq ht
  have fj:=tg 0 _ y1 (bz (by rw[tl];exact Nat.one_pos)) rfl
  have bZ:=q2 (iA P w I β hp u1) (fun _ h=> .inl h) (fun p hp b h=> .inr ⟨p,hp,h⟩)
  have ho:=bZ.pure fj
  have Hp:v.cells= #[v]:=by cases ho<;>rfl
  rw[Hp]
  refine ⟨rfl,fun j u y hu hy=> ?_⟩
  cases j with
  | zero=>simp at hu hy;subst hu;subst hy;exact hv
  | succ j=>simp at hy
def vW (P:Program) (w:World) (I:Nat→Prop) (e:TypeId) (cells:Array Value) (es:List V):Prop:=
 cells.size=es.length*P.cellsOf e∧∀(i j:Nat) (x:V) (t':TypeId),es[i]? =some x→(aS P e)[j]? =some t'→j<P.cellsOf e→∃v,cells[i*P.cellsOf e+j]? =some v∧Pure P w I t' v (bH P e x j)
theorem vW.set {e:TypeId} {cells:Array Value} {es ys:List V} {i:Nat} {v:Value} (h:vW P w I e cells es) (hi:i<es.length) (hv:v.cells.size=P.cellsOf e) (hy:ys.length=P.cellsOf e)
  (hr: ∀(j:Nat) (t':TypeId) (u:Value) (y:V),(aS P e)[j]? =some t'→v.cells[j]? =some u→ys[j]? =some y→Pure P w I t' u y):
  vW P w I e (v.cells.zipIdx.foldl (fun cs (p:Value × Nat)=>cs.setIfInBounds (i*P.cellsOf e+p.2) p.1) cells) (es.set i (ct P e ys)):=by
 obtain ⟨h1,U⟩:=h
 have hb:i*P.cellsOf e+v.cells.size≤cells.size:=by
  have:(i+1)*P.cellsOf e≤es.length*P.cellsOf e:=dr _ hi
  rw[df] at this
  omega
 refine ⟨by rw[ML,nP,h1],fun i' j x t' hx ht hj=> ?_⟩
 rw[MK hb]
 rw[List.getElem?_set] at hx
 by_cases iE:i=i'
 ·subst iE
  rw[aj rfl,aj hi] at hx
  cases hx
  rw[ah (by omega),aj (by omega),show i*P.cellsOf e+j-i*P.cellsOf e=j by omega]
  have h3:j<v.cells.size:=by omega
  have h4:j<ys.length:=by omega
  refine ⟨v.cells[j],kp h3,?_⟩
  rw[qi (bz h4) ht]
  exact hr j t' _ _ ht (kp h3) (bz h4)
 ·rw[ah iE] at hx
  have bu:i'*P.cellsOf e+j<i*P.cellsOf e∨i*P.cellsOf e+v.cells.size≤i'*P.cellsOf e+j:=by
   rcases oN i' i with aP|o7
   ·left
    have:(i'+1)*P.cellsOf e≤i*P.cellsOf e:=dr _ aP
    rw[df] at this
    omega
   ·right
    have:(i+1)*P.cellsOf e≤i'*P.cellsOf e:=dr _ (by omega)
    rw[df] at this
    omega
  rcases bu with bu|bu
  ·rw[aj bu];exact U i' j x t' hx ht hj
  ·rw[ah (by omega),ah (by omega)];exact U i' j x t' hx ht hj
theorem Wf {t':TypeId} {v:Value} (fj:eG P t' (vi (oQ P t' v))=true):Pure P w I t' v (vi (oQ P t' v)):=by
 have hc:=ao.const (P:=P) (w:=w) (I:=I) (β:=fun _=>none) (hp:=fun _=>none) t' v
 cases tx:oQ P t' v<;>rw[tx] at fj hc<;>simp only[vi] at fj⊢
 case int k n=>rw[hc.dL];exact Plain.pure (v:= .int k n) (y:= .int k n) rfl fj
 case bool b=>rw[hc.jZ];exact Plain.pure (v:= .bool b) (y:= .bool b) rfl fj
 case str l=>obtain ⟨s,e1,e2⟩:=hc.lX;rw[e1];exact Plain.pure (v:= .string s) (y:= .str l) ⟨s,rfl,e2⟩ fj
 case nilS e'=>
  cases hc
  exact Plain.pure (y:= .list e' []) (iw.any fun _=>rfl) fj
 case list e' es=>
  cases hc with
  | list hp=>exact Plain.pure (y:= .list e' es) hp fj
 all_goals (unfold eG at fj;split at fj<;>simp_all)
theorem zo {e:TypeId} (h:lQ P e=true): ∃i z,P.info? e=some i∧i.zero=some z∧i.size=P.cellsOf e∧z.cells.size=P.cellsOf e∧
  ∀(j:Nat) (t':TypeId),(aS P e)[j]? =some t'→j<P.cellsOf e→∃v,z.cells[j]? =some v∧Pure P w I t' v (bH P e (ct P e (ej P e)) j):=by
 unfold lQ at h
 simp only[aK] at h
 obtain ⟨i,z,h1,U,h3,h4,h5⟩:=j5 h.1
 refine ⟨i,z,h1,U,h3,h4,fun j t' ht hj=> ?_⟩
 obtain ⟨tl,tg⟩:=tq h.2
 have b9:j<(ej P e).length:=by rw[←tl,(jY h.1).1];exact hj
 have hz:=bz b9
 have fj:=tg j t' _ (by rw[←rP];exact ht) hz
 refine ⟨z.cells[j],kp (by omega),?_⟩
 rw[qi hz ht]
 have tz:(ej P e)[j]=vi (oQ P t' z.cells[j]):=by
  have:(ej P e)[j]? =((zeroCells P e)[j]?).map vi:=by simp[ej]
  rw[hz] at this
  cases hc:(zeroCells P e)[j]? with
  | none=>rw[hc] at this;cases this
  | some y=>
   rw[hc] at this
   simp only[Option.map_some,dI] at this
   rw[h5] at hc
   obtain ⟨t2,v2,a1,a2,rfl⟩:=Hq hc
   have Wg:t2=t':=by
    rw[←rP,ht] at a1;exact (cY a1).symm
   have qb:v2=z.cells[j]:=by
    have Wh:j<z.cells.size:=by omega
    have:z.cells.toList[j]? =some z.cells[j]:=by simp[Wh]
    rw[this] at a2;exact (cY a2).symm
   rw[this,Wg,qb]
 rw[tz] at fj⊢
 exact Wf fj
end
section
variable {P:Program} {w w':World} {I I':Nat→Prop} {β β':Nat→Option Nat} {hp hp':Nat→Option an} {C:ag} {B:Nat} {M:Nat→Prop} {w0:Start}
theorem vX (S:aE P w I β hp B M w0) {nb cap:Nat} {e:TypeId} {es:List V} {C0:Array Value} (au:cL P e=true) (hn:hp nb=none) (hs:C0.size=cap*P.cellsOf e) (hl:es.length≤cap) (hm:cap≤maxLen)
  (hx: ∀(i j:Nat) (x:V) (t':TypeId),es[i]? =some x→(aS P e)[j]? =some t'→j<P.cellsOf e→∃v,C0[i*P.cellsOf e+j]? =some v∧Pure P w I t' v (bH P e x j)):
  Le P w I β hp (w.alloc (.cells C0 e)) I (aG β nb (some w.heap.size)) (aG hp nb (some (.arr e es false)))∧aE P (w.alloc (.cells C0 e)) I (aG β nb (some w.heap.size)) (aG hp nb (some (.arr e es false))) B M w0∧
  ao P (w.alloc (.cells C0 e)) I (aG β nb (some w.heap.size)) (aG hp nb (some (.arr e es false))) (.slice (some ⟨w.heap.size,0,none⟩) es.length cap) (.whole e nb):=by
 obtain ⟨h1,U⟩:=G5 S (blk:= .arr e es false) (c:=C0) (T:=e) hn (fun b' h=>(cY (h.flat (by simp))).symm) (fun hle eI cK=> .arr au rfl eI (by rw[hs];exact dr _ hl) (fun h=>by cases h) (fun _=>cK) fun i j x t' a b c=>by
  obtain ⟨v,hv,hp⟩:=hx i j x t' a b c
  exact ⟨v,hv,hp.mono hle.c9 hle.b8⟩)
 refine ⟨h1,U,.whole (cR _ _ _) (cR _ _ _) ?_ hl hm⟩
 rw[mV (heap_alloc_new w (.cells C0 e)),hs]
theorem At.only {b b':Nat} {e e':TypeId} {es aH:List V} {q:Path} (hz: ∀(i j:Nat) x t' e1 l,es[i]? =some x→(aS P e)[j]? =some t'→bH P e x j= .list e1 l→l=[])
  (h:At P w b e es q b' e' aH):q=[]∧b'=b∧e'=e∧aH=es:=by
 cases h with
 | here=>exact ⟨rfl,rfl,rfl,rfl⟩
 | step h1 U h3 h4 h5 h6=>have:=hz _ _ _ _ _ _ U h3 h5;subst this;simp at h6
theorem lW.p8 {t:TypeId} {v:Value} {x:V} (h:Pure P w I t v x) (hz: ∀e1 l,x= .list e1 l→l=[]):lW P w I t v x:=by
 cases h with
 | int h=>exact .fy (by unfold fv;rw[h]) (.int h)
 | bool h=>exact .fy (by unfold fv;rw[h]) (.bool h)
 | str h hl=>exact .fy (by unfold fv;rw[h]) (.str h hl)
 | nil h=>exact .emp h fun _=>rfl
 | emp h=>exact .emp h fun h=>by cases h
 | list g hu hl _ _ _ _=>
  have:=hz _ _ rfl
  subst this
  simp at hl
  subst hl
  exact .emp hu fun h=>by cases h
theorem Wi (S:aE P w I β hp B M w0) {nb cap:Nat} {e:TypeId} {es:List V} {C0:Array Value} (au:cL P e=true) (hn:hp nb=none) (hs:C0.size=cap*P.cellsOf e) (hl:es.length≤cap) (hm:cap≤maxLen)
  (hx: ∀(i j:Nat) (x:V) (t':TypeId),es[i]? =some x→(aS P e)[j]? =some t'→j<P.cellsOf e→∃v,C0[i*P.cellsOf e+j]? =some v∧Pure P w I t' v (bH P e x j))
  (hz: ∀(i j:Nat) x t' e1 l,es[i]? =some x→(aS P e)[j]? =some t'→bH P e x j= .list e1 l→l=[]):
  Le P w I β hp (w.alloc (.cells C0 e)) I (aG β nb (some w.heap.size)) (aG hp nb (some (.nest e es [0,0,0])))∧aE P (w.alloc (.cells C0 e)) I (aG β nb (some w.heap.size)) (aG hp nb (some (.nest e es [0,0,0]))) B M w0∧
  ao P (w.alloc (.cells C0 e)) I (aG β nb (some w.heap.size)) (aG hp nb (some (.nest e es [0,0,0]))) (.slice (some ⟨w.heap.size,0,none⟩) es.length cap) (.whole e nb):=by
 obtain ⟨h1,U⟩:=G5 S (blk:= .nest e es [0,0,0]) (c:=C0) (T:=e) hn (fun b' h=>by
   cases h with
   | root _ h=>exact (cY h).symm
   | row h ha=>cases h;exact (At.only hz ha).2.1)
  (fun hle eI cK=> .nest rfl (fun q b' e' aH ha=>by
   obtain ⟨rfl,rfl,rfl,rfl⟩:=At.only hz ha
   refine ⟨au,⟨C0,eI,by rw[hs];exact dr _ hl,fun i j x t' a b c=> ?_⟩,cK⟩
   obtain ⟨v,hv,hp⟩:=hx i j x t' a b c
   exact ⟨v,hv,.p8 (hp.mono hle.c9 hle.b8) fun e1 l h=>hz i j x t' e1 l a b h⟩)
   fun q1 q2 b' e1 cj e2 bW a1 a2=>(At.only hz a1).1.trans (At.only hz a2).1.symm)
 refine ⟨h1,U,.eb (cR _ _ _) (cR _ _ _) ?_ hl hm⟩
 rw[mV (heap_alloc_new w (.cells C0 e)),hs]
theorem MQ (cC: ∀id blk,hp id=some blk→dK P w I β hp (β id) blk) {a:Act} {sl:Nat→V} (hs:kC P w I β hp a sl) {G:Nat→V} (hg:fZ P G w I) {e:TypeId} {len:Nat}: ∀{l:List (Nat × Operand)} {ps:List (Nat × V)} {upd:List (Nat × an)} {rd:List Nat},
  (yI P e len (l.map fun p=>(p.1,aO P G e sl p.2))).run C hp=some ((ps,upd),rd)→cL P e=true→(∀p∈upd,y5 hp p)∧∀I':Nat→Prop,(∀b,I b→I' b)→(∀p∈upd,∀b,rO P w β hp p.1 b→I' b)→
   ∀(cells:Array Value) (es:List V),es.length=len→vW P w I' e cells es→∃o8,Instr.fill (fun i=>some (i*P.cellsOf e,P.cellsOf e)) cells (l.map fun p=>(p.1,a.eval p.2))=some o8∧vW P w I' e o8 (yH es ps)∧(yH es ps).length=len
 | [],ps,upd,rd,h,_=>by
  cases h
  exact ⟨by simp,fun I' _ _ cells es hl he=>⟨cells,by simp[Instr.fill],he,hl⟩⟩
 | (i,x)::l,ps,upd,rd,h,au=>by
  simp only[cQ,yI] at h
  obtain ⟨⟨ys,u1⟩,l1,l2,h1,h⟩:=kD h
  obtain ⟨hc,h⟩:=aF h
  obtain ⟨⟨ps',u2⟩,l3,l4,U,h⟩:=kD h
  have:=aN h
  cases this
  simp only[aK,jN] at hc
  obtain ⟨hi,fj⟩:=hc
  obtain ⟨tl,tg⟩:=tq fj
  have vN:=hs.ev hg e x
  obtain ⟨v1,v2⟩:=We cC vN h1 fj
  obtain ⟨k1,k2,k3⟩:=G3 cC h1 (vs:=(a.eval x).cells.toList) (by simpa using v1) v2
  obtain ⟨m1,m2⟩:=MQ cC hs hg U au
  refine ⟨fun p hp=> ?_,fun I' i1 i2 cells es hl he=> ?_⟩
  ·rcases ei.1 hp with h|h
   ·exact k2 p h
   ·exact m1 p h
  ·have bZ:=k3 I' i1 (fun p hp=>i2 p (ei.2 (.inl hp)))
   have aU:=(jY au).1
   have tv:ys.length=P.cellsOf e:=by rw[←tl,aU]
   have Mv:(a.eval x).cells.size=P.cellsOf e:=by rw[v1,←k1,tv]
   have gI:=he.set (i:=i) (ys:=ys) (by omega) Mv tv (fun j t' u y ht hu hy=>by
    exact (bZ j u y (by simpa using hu) hy).pure (tg j t' y (by rw[←rP];exact ht) hy))
   obtain ⟨o8,f1,f2,f3⟩:=m2 I' i1 (fun p hp=>i2 p (ei.2 (.inr hp))) _ (es.set i (ct P e ys)) (by simpa using hl) gI
   refine ⟨o8,?_,f2,f3⟩
   have hb:i*P.cellsOf e+P.cellsOf e≤cells.size:=by
    rw[he.1,hl]
    have:(i+1)*P.cellsOf e≤len*P.cellsOf e:=dr _ hi
    rw[df] at this
    omega
   simp only[cQ,Instr.fill]
   rw[ah (by simp;omega)]
   exact f1
theorem MR {z:Array Value} {n k:Nat} (hk:k<n) (hz:0<z.size):((Array.range n).map (z[· %z.size]!))[k]? =z[k %z.size]? :=by
 have hm:k %z.size<z.size:=Nat.mod_lt _ hz
 simp[hk,hm]
theorem De {e:TypeId} (h:lQ P e=true) {i:TypeInfo} {z:Value} (hi:P.info? e=some i) (hz:i.zero=some z) (n m:Nat) (kY:n≤m):
  ∀(k j:Nat) (x:V) (t':TypeId),(List.replicate n (ct P e (ej P e)))[k]? =some x→(aS P e)[j]? =some t'→j<P.cellsOf e→
   ∃v,((Array.range (m*P.cellsOf e)).map (z.cells[· %z.cells.size]!))[k*P.cellsOf e+j]? =some v∧Pure P w I t' v (bH P e x j):=by
 intro k j x t' hx ht hj
 obtain ⟨i2,z2,h1,U,h3,h4,h5⟩:=zo (w:=w) (I:=I) h
 rw[hi] at h1;cases h1
 rw[hz] at U;cases U
 rw[List.getElem?_replicate] at hx
 split at hx
 ·rename_i hk
  cases hx
  obtain ⟨v,hv,hp⟩:=h5 j t' ht hj
  refine ⟨v,?_,hp⟩
  have hb:k*P.cellsOf e+j<m*P.cellsOf e:=by
   have:(k+1)*P.cellsOf e≤m*P.cellsOf e:=dr _ (by omega)
   rw[df] at this
   omega
  rw[MR hb (by omega),h4,show (k*P.cellsOf e+j) %P.cellsOf e=j by rw[nQ,Nat.mul_add_mod];exact Nat.mod_eq_of_lt hj]
  exact hv
 ·cases hx
theorem Wj {P:Program} (w:World) (t e:TypeId) (len:Nat) (parts:Array (Nat × Value)) (cells:Array Value) (ie:TypeInfo) (z:Value)
  (hu:P.underlying t=some (.slice e)) (jz:P.info? e=some ie) (hz:ie.zero=some z) (Wk: ¬len*ie.size>2^24)
  (h:Instr.fill (fun i=>some (i*ie.size,ie.size)) ((Array.range (len*ie.size)).map (z.cells[· %z.cells.size]!)) parts.toList=some cells):
  (Instr.buildSlice t len parts).run P w= .ok (.slice (some ⟨w.heap.size,0,none⟩) len len) (w.alloc (.cells cells e)):=by
 by_cases kY:len*ie.size=0
 ·have h0: ∀g:Nat→Value,(Array.range (len*ie.size)).map g= #[]:=by intro g;exact Array.eq_empty_of_size_eq_zero (by simp[kY])
  have hp: ∀(u:Array Value),(Pure.pure u:Sem (Array Value)).run P w= .ok u w:=fun _=>rfl
  rw[h0] at h
  simp only[Instr.buildSlice,Sem.run_bind,run_underlying hu,Result.andThen_ok,sizeOf,typeInfo,jz]
  have h1:(Array.range (len*ie.size)).map (fun _:Nat=>(default:Value))= #[]:=h0 _
  have hs: ¬16777216<len*ie.size:=by omega
  simp[jz,hs,kY]
  simp only[kY] at h1
  simp[h1,h,newRow]
 ·exact run_buildSlice w t e len parts cells ie z hu jz hz Wk kY h
theorem Wl (S:aE P w I β hp B M w0) {a:Act} {sl:Nat→V} (hs:kC P w I β hp a sl) {G:Nat→V} (hg:fZ P G w I) {t e:TypeId} {len nb:Nat} {ps:Array (Nat × Operand)} {r:R} {rd:List Nat} (hu:P.underlying t=some (.slice e))
  (h:(Rd.aB (lQ P e&&Nat.ble (len*P.cellsOf e) (2^24)) ((yI P e len (ps.toList.map fun p=>(p.1,aO P G e sl p.2))).bind fun r=>
    iW nb (.arr e (yH (List.replicate len (ct P e (ej P e))) r.1) false) (.whole e nb) r.2)).run C hp=some (r,rd)):
  cU P ((Instr.buildSlice t len (ps.map fun (i,x)=>(i,a.eval x))).run P w) w I β hp B M w0 r:=by
 obtain ⟨hc,h⟩:=aF h
 simp only[aK,dP] at hc
 obtain ⟨cN,vC⟩:=hc
 have au:cL P e=true:=by
  unfold lQ at cN;simp only[aK] at cN;exact cN.1
 obtain ⟨⟨pv,upd⟩,l1,l2,h1,h⟩:=kD h
 obtain ⟨hn,rfl⟩:=m7 h
 obtain ⟨m1,m2⟩:=MQ S.h.rel hs hg h1 au
 obtain ⟨qm,S1⟩:=y9 S m1
 obtain ⟨i,z,hi,hz,h3,h4,_⟩:=zo (w:=w) (I:=I) cN
 have ja:=(jY au).2
 have h0:vW P w (iA P w I β hp upd) e ((Array.range (len*P.cellsOf e)).map (z.cells[· %z.cells.size]!)) (List.replicate len (ct P e (ej P e))):=
  ⟨by simp,De cN hi hz len len (ch _)⟩
 obtain ⟨cells,f1,f2,f3⟩:=m2 (iA P w I β hp upd) (fun _ h=> .inl h) (fun p hp b h=> .inr ⟨p,hp,h⟩) _ _ (by simp) h0
 have j6:bG hp upd nb=none:=by
  rcases ti (hp:=hp) (l:=upd) (id:=nb) with h|⟨b',hm,_⟩
  ·exact h.trans hn
  ·obtain ⟨e1,cj,_,h5⟩:=m1 _ hm
   simp only[hn] at h5
   rcases h5 with ⟨_,h5⟩|⟨_,h5⟩<;>cases h5
 have oc:len≤maxLen:=by
  have:len*1≤len*P.cellsOf e:=sP _ ja
  simp only[maxLen]
  omega
 obtain ⟨n1,n2,n3⟩:=vX S1 (cap:=len) au j6 (by rw[f2.1,f3]) (by rw[f3];exact ch _) oc f2.2
 have cS:=Wj w t e len (ps.map fun (i,x)=>(i,a.eval x)) cells i z hu hi hz (by rw[h3];omega) (by rw[h3];simpa using f1)
 refine ⟨_,_,_,_,cS,qm.trans n1,n2,?_⟩
 rw[f3] at n3
 exact n3
theorem MS (S:aE P w I β hp B M w0) {t e:TypeId} {nb:Nat} {kl kc:IntKind} {n m:Int} {r:R} {rd:List Nat} (hu:P.underlying t=some (.slice e))
  (h:(Rd.aB (lQ P e&&(decide (0≤n)&&(decide (n≤m)&&Nat.ble (m.toNat*P.bytesOf e) cI)))
    (iW nb (.arr e (List.replicate n.toNat (ct P e (ej P e))) false) (.whole e nb) [])).run C hp=some (r,rd)):
  cU P ((Instr.makeSlice t (.int kl n) (.int kc m)).run P w) w I β hp B M w0 r:=by
 obtain ⟨hc,h⟩:=aF h
 simp only[aK,dP,dH] at hc
 obtain ⟨cN,h0,kY,dF⟩:=hc
 have au:cL P e=true:=by
  unfold lQ at cN;simp only[aK] at cN;exact cN.1
 obtain ⟨hn,rfl⟩:=m7 h
 obtain ⟨i,z,hi,hz,h3,h4,_⟩:=zo (w:=w) (I:=I) cN
 have l7:P.bytesOf e=i.bytes:=by simp[Program.bytesOf,hi]
 have Hr:m≤9223372036854775807:=by
  have h1:m.toNat*1≤m.toNat*P.bytesOf e:=sP _ (vE au)
  simp only[cI] at dF
  omega
 have cS:=run_make (P:=P) w t e i z hu hi hz kl kc n m h0 kY (by
  rw[l7] at dF
  simp only[cI] at dF
  have:(i.bytes:Int)*m=((m.toNat*i.bytes:Nat):Int):=by
   rw[Int.natCast_mul,Int.toNat_of_nonneg (by omega),Int.mul_comm]
  rw[this]
  omega) Hr
 have hlen:(List.replicate n.toNat (ct P e (ej P e))).length=n.toNat:=by simp
 obtain ⟨n1,n2,n3⟩:=vX S (cap:=m.toNat) (es:=List.replicate n.toNat (ct P e (ej P e))) (C0:=madeCells z.cells (m.toNat*i.size)) au hn (by rw[size_madeCells,h3]) (by rw[hlen];omega) (by simp only[maxLen];omega)
  (by rw[h3];exact De cN hi hz n.toNat m.toNat (by omega))
 refine ⟨_,_,_,_,cS,n1,n2,?_⟩
 rw[hlen] at n3
 exact n3
theorem Hs: ∀{l:List V} {j:Nat} {e1:TypeId} {k:List V},yR l=true→V.nth l j= .list e1 k→k=[]
 | [],j,e1,k,_,h=>by cases j<;>cases h
 | x::l,0,e1,k,hn,h=>by
  simp only[V.nth] at h
  subst h
  cases k with
  | nil=>rfl
  | cons _ _=>cases hn
 | x::l,j+1,e1,k,hn,h=>by
  refine Hs (l:=l) (j:=j) ?_ h
  cases x with
  | list e2 k2=>
   cases k2 with
   | nil=>exact hn
   | cons _ _=>cases hn
  | _=>exact hn
theorem Wm {e:TypeId} {n:Nat} (au:cL P e=true) (h:yR (ej P e)=true):
  ∀(i j:Nat) x t' e1 l,(List.replicate n (ct P e (ej P e)))[i]? =some x→(aS P e)[j]? =some t'→bH P e x j= .list e1 l→l=[]:=by
 intro i j x t' e1 l hx ht hl
 have:=List.eq_of_mem_replicate (jq hx)
 subst this
 unfold bH ct at hl
 cases ha:bE P e with
 | true=>rw[ha] at hl;exact Hs h hl
 | false=>rw[ha] at hl;exact Hs h hl
theorem Wn (S:aE P w I β hp B M w0) {t e:TypeId} {nb:Nat} {kl kc:IntKind} {n m:Int} {r:R} {rd:List Nat} (hu:P.underlying t=some (.slice e))
  (h:(Rd.aB (lQ P e&&(decide (0≤n)&&(decide (n≤m)&&Nat.ble (m.toNat*P.bytesOf e) cI)))
    (Rd.aB (yR (ej P e)) (iW nb (.nest e (List.replicate n.toNat (ct P e (ej P e))) [0,0,0]) (.whole e nb) []))).run C hp=some (r,rd)):
  cU P ((Instr.makeSlice t (.int kl n) (.int kc m)).run P w) w I β hp B M w0 r:=by
 obtain ⟨hc,h⟩:=aF h
 simp only[aK,dP,dH] at hc
 obtain ⟨cN,h0,kY,dF⟩:=hc
 have au:cL P e=true:=by
  unfold lQ at cN;simp only[aK] at cN;exact cN.1
 obtain ⟨Wo,h⟩:=aF h
 obtain ⟨hn,rfl⟩:=m7 h
 obtain ⟨i,z,hi,hz,h3,h4,_⟩:=zo (w:=w) (I:=I) cN
 have l7:P.bytesOf e=i.bytes:=by simp[Program.bytesOf,hi]
 have Hr:m≤9223372036854775807:=by
  have h1:m.toNat*1≤m.toNat*P.bytesOf e:=sP _ (vE au)
  simp only[cI] at dF
  omega
 have cS:=run_make (P:=P) w t e i z hu hi hz kl kc n m h0 kY (by
  rw[l7] at dF
  simp only[cI] at dF
  have:(i.bytes:Int)*m=((m.toNat*i.bytes:Nat):Int):=by
   rw[Int.natCast_mul,Int.toNat_of_nonneg (by omega),Int.mul_comm]
  rw[this]
  omega) Hr
 have hlen:(List.replicate n.toNat (ct P e (ej P e))).length=n.toNat:=by simp
 obtain ⟨n1,n2,n3⟩:=Wi S (cap:=m.toNat) (es:=List.replicate n.toNat (ct P e (ej P e))) (C0:=madeCells z.cells (m.toNat*i.size)) au hn (by rw[size_madeCells,h3]) (by rw[hlen];omega) (by simp only[maxLen];omega)
  (by rw[h3];exact De cN hi hz n.toNat m.toNat (by omega))
  (Wm au Wo)
 refine ⟨_,_,_,_,cS,n1,n2,?_⟩
 rw[hlen] at n3
 exact n3
theorem Pure.one {t:TypeId} {v:Value} {x:V} (h:Pure P w I t v x):v.oneCell'=true:=by cases h<;>rfl
structure Row (P:Program) (w:World) (I:Nat→Prop) (e:TypeId) (v:Value) (xs:List V) (a:Addr) (c:Nat) (news:List Value):Prop where
 val:v= .slice (some a) xs.length c
 len:news.length=xs.length*P.cellsOf e
 cell: ∀(j:Nat) u,news[j]? =some u→w.cell? (a.add j)=some u
 el: ∀(i j:Nat) (x:V) (t':TypeId),xs[i]? =some x→(aS P e)[j]? =some t'→j<P.cellsOf e→∃u,news[i*P.cellsOf e+j]? =some u∧Pure P w I t' u (bH P e x j)
theorem Row.one {e:TypeId} {v:Value} {xs:List V} {a:Addr} {c:Nat} {news:List Value} (h:Row P w I e v xs a c news) (au:cL P e=true): ∀u∈news,u.oneCell'=true:=by
 intro u hu
 obtain ⟨k,hk⟩:=rq hu
 have hX:=(br.1 hk).1
 have ja:=(jY au).2
 rw[h.len] at hX
 have hi:k/P.cellsOf e<xs.length:=Nat.div_lt_of_lt_mul (by rw[nQ];exact hX)
 have hj:k %P.cellsOf e<P.cellsOf e:=Nat.mod_lt _ ja
 have gj:k %P.cellsOf e<(aS P e).length:=by rw[fi au];exact hj
 obtain ⟨u',fB,hp⟩:=h.el (k/P.cellsOf e) (k %P.cellsOf e) _ _ (bz hi) (bz gj) hj
 rw[Nat.div_add_mod'] at fB
 rw[hk] at fB
 cases fB
 exact hp.one
theorem MT {e:TypeId} {es:List V} {b:Nat} {Ca:Array Value} {off len cap o:Nat} (hh:w.heap[b]? =some (.cells Ca e (0,0))) (hs:es.length*P.cellsOf e≤Ca.size)
  (hx: ∀(i j:Nat) (x:V) (t':TypeId),es[i]? =some x→(aS P e)[j]? =some t'→j<P.cellsOf e→∃v,Ca[i*P.cellsOf e+j]? =some v∧Pure P w I t' v (bH P e x j))
  (kB:off+len≤es.length) (ho:0<len→o=off*P.cellsOf e):
  Row P w I e (.slice (some ⟨b,o,none⟩) len cap) ((es.drop off).take len) ⟨b,o,none⟩ cap ((Ca.toList.drop (off*P.cellsOf e)).take (len*P.cellsOf e)):=by
 have hlen:((es.drop off).take len).length=len:=by simp;omega
 have hb:(off+len)*P.cellsOf e≤Ca.size:=lN (dr _ kB) hs
 rw[df] at hb
 refine ⟨by rw[hlen],by rw[hlen];simp;omega,fun j u hj=> ?_,fun i j x t' gh ht hj=> ?_⟩
 ·have b9:=(br.1 hj).1
  have Ht:j<len*P.cellsOf e:=by
   rw[ft] at b9;omega
  have jw:0<len:=by
   rcases Nat.eq_zero_or_pos len with h|h
   ·rw[h] at Ht;simp at Ht
   ·exact h
  rw[eO Ht,gR] at hj
  rw[mY,cell?_cells hh,ho jw]
  simpa using hj
 ·have hi:i<len:=by rw[←hlen];exact (br.1 gh).1
  rw[eO hi,gR] at gh
  obtain ⟨u,hu,hp⟩:=hx (off+i) j x t' gh ht hj
  refine ⟨u,?_,hp⟩
  have:i*P.cellsOf e+j<len*P.cellsOf e:=by
   have:(i+1)*P.cellsOf e≤len*P.cellsOf e:=dr _ hi
   rw[df] at this
   omega
  rw[eO this,gR]
  rw[df] at hu
  rw[←nO]
  simpa using hu
theorem Df (cC: ∀id blk,hp id=some blk→dK P w I β hp (β id) blk) {e:TypeId} {v:Value} {x:V} {k:List V→Rd R} {r:R} {rd:List Nat} (au:cL P e=true) (hv:ao P w I β hp v x)
  (h:(rF e x k).run C hp=some (r,rd)): ∃xs,(((∃a,v= .slice a 0 0)∧xs=[])∨∃a c news,Row P w I e v xs a c news)∧∃l,(k xs).run C hp=some (r,l):=by
 cases hv with
 | list hp'=>
  obtain ⟨hc,U⟩:=aF h
  clear h
  rw[aR] at hc
  subst hc
  cases hp' with
  | nil=>exact ⟨[],.inl ⟨⟨_,rfl⟩,rfl⟩,rd,U⟩
  | @emp a cap=>exact ⟨[],.inr ⟨a,cap,[],⟨rfl,by simp,fun j u hj=>by simp at hj,fun i j x t' hx _ _=>by simp at hx⟩⟩,rd,U⟩
  | @list b o len cap es g hl bX hI fR hx=>
   refine ⟨_,.inr ⟨⟨b,o,none⟩,cap,(List.range (len*P.cellsOf e)).map fun k=>g (k/P.cellsOf e) (k %P.cellsOf e),⟨by rw[hl],by rw[hl];simp,fun j u hj=> ?_,fun i j x t' gh ht hj=> ?_⟩⟩,rd,U⟩
   ·obtain ⟨b9,hO⟩:=br.1 hj
    simp at b9 hO
    have ja:=(jY au).2
    have hi:j/P.cellsOf e<len:=Nat.div_lt_of_lt_mul (by rw[nQ];exact b9)
    have fT:j %P.cellsOf e<P.cellsOf e:=Nat.mod_lt _ ja
    rw[mY,←hO]
    have:=fR (j/P.cellsOf e) (j %P.cellsOf e) hi fT
    rwa [Nat.div_add_mod'] at this
   ·have hi:i<len:=by rw[←hl];exact (br.1 gh).1
    have hb:i*P.cellsOf e+j<len*P.cellsOf e:=by
     have:(i+1)*P.cellsOf e≤len*P.cellsOf e:=dr _ hi
     rw[df] at this
     omega
    refine ⟨g i j,?_,hx i j x t' gh ht⟩
    have e1:(i*P.cellsOf e+j)/P.cellsOf e=i:=by
     rw[nQ,Nat.mul_add_div (jY au).2,Nat.div_eq_of_lt hj,Nat.add_zero]
    have e2:(i*P.cellsOf e+j) %P.cellsOf e=j:=by
     rw[nQ,Nat.mul_add_mod];exact Nat.mod_eq_of_lt hj
    simp[hb,e1,e2]
 | nilS=>
  obtain ⟨hc,h⟩:=aF h
  exact ⟨[],.inl ⟨⟨_,rfl⟩,rfl⟩,rd,h⟩
 | dw ab hb=>
  obtain ⟨l,h⟩:=run_get h
  simp only[ab] at h
  obtain ⟨hc,h⟩:=aF h
  exact ⟨[],.inl ⟨⟨_,rfl⟩,rfl⟩,l,h⟩
 | @whole e' id es fz b cap ab hb aU bX hm=>
  obtain ⟨l,h⟩:=run_get h
  simp only[ab] at h
  obtain ⟨hc,U⟩:=aF h
  clear h
  simp only[aK,aR] at hc
  obtain ⟨rfl,_⟩:=hc
  have hr:=cC _ _ ab
  cases hr with
  | dx az=>rw[az] at hb;cases hb
  | arr G9 az hh hs hf dU hx=>
   rw[hb] at az;cases az
   have:=MT (cap:=cap) (off:=0) (len:=es.length) (o:=0) hh hs hx (by omega) (fun _=>by simp)
   exact ⟨es,.inr ⟨_,_,_,by simpa using this⟩,l,U⟩
 | fA ab hb=>
  obtain ⟨l,h⟩:=run_get h
  simp only[ab] at h
  obtain ⟨hc,h⟩:=aF h
  exact ⟨[],.inl ⟨⟨_,rfl⟩,rfl⟩,l,by simpa using h⟩
 | @sub e' id off len es fz b o cap ab hb kB bX ho=>
  obtain ⟨l,h⟩:=run_get h
  simp only[ab] at h
  obtain ⟨hc,U⟩:=aF h
  clear h
  simp only[aK,aR] at hc
  obtain ⟨rfl,_⟩:=hc
  have hr:=cC _ _ ab
  cases hr with
  | dx az=>rw[az] at hb;cases hb
  | arr G9 az hh hs hf dU hx=>
   rw[hb] at az;cases az
   exact ⟨_,.inr ⟨_,_,_,MT (cap:=cap) hh hs hx kB ho⟩,l,U⟩
 | dS ab=>
  obtain ⟨l,h⟩:=run_get h
  simp only[ab] at h
  cases h
 | fQ ab=>
  obtain ⟨l,h⟩:=run_get h
  simp only[ab] at h
  cases h
 | undef=>cases h
 | int=>cases h
 | bool=>cases h
 | str=>cases h
 | agg=>cases h
 | bd=>cases h
 | c8=>cases h
 | fn=>cases h
 | pref=>cases h
 | jW=>cases h
 | ptr=>cases h
 | jt=>cases h
 | ju=>cases h
 | row=>cases h
 | cA=>cases h
 | dk=>cases h
 | g9=>cases h
 | cp=>cases h
 | eb ab=>
  obtain ⟨l,h⟩:=run_get h
  simp only[ab] at h
  cases h
theorem MU {t ty e:TypeId} {i:TypeInfo} (ht:P.underlying t=some (.slice e)) (hi:P.info? e=some i) (a:Option Addr) (n cap:Nat) (x:Value) (hx: ∃a c,x= .slice a 0 c) (hn:n≤cap):
  (Builtin.append_ #[t,t] ty #[.slice a n cap,x]).run P w= .ok (.slice a n cap) w:=by
 obtain ⟨a',c,rfl⟩:=hx
 cases a' with
 | none=>cases a<;>simp[Builtin.append_,run_underlying ht,sizeOf,typeInfo,hi,Builtin.lenOf,Builtin.firstCells,hn,storeCells]
 | some a'=>cases a<;>simp[Builtin.append_,run_underlying ht,sizeOf,typeInfo,hi,Builtin.lenOf,Builtin.firstCells,hn,storeCells,loadCells,loadCellsFrom]
theorem Dg {e:TypeId} {es xs:List V} {n:Nat} {c:List Value} {news:List Value} (hn:es.length=n)
  (h1: ∀(i j:Nat) (x:V) (t':TypeId),es[i]? =some x→(aS P e)[j]? =some t'→j<P.cellsOf e→∃v,c[i*P.cellsOf e+j]? =some v∧Pure P w I t' v (bH P e x j))
  (U: ∀(i j:Nat) (x:V) (t':TypeId),xs[i]? =some x→(aS P e)[j]? =some t'→j<P.cellsOf e→∃v,news[i*P.cellsOf e+j]? =some v∧Pure P w I t' v (bH P e x j))
  (hb:n*P.cellsOf e≤c.length) (rest:List Value):
  ∀(i j:Nat) (x:V) (t':TypeId),(es++xs)[i]? =some x→(aS P e)[j]? =some t'→j<P.cellsOf e→∃v,(c.take (n*P.cellsOf e)++news++rest)[i*P.cellsOf e+j]? =some v∧Pure P w I t' v (bH P e x j):=by
 intro i j x t' hx ht hj
 have hl:(c.take (n*P.cellsOf e)).length=n*P.cellsOf e:=by simp;omega
 by_cases hi:i<n
 ·rw[ik (by omega)] at hx
  obtain ⟨v,hv,hp⟩:=h1 i j x t' hx ht hj
  have:i*P.cellsOf e+j<n*P.cellsOf e:=by
   have:(i+1)*P.cellsOf e≤n*P.cellsOf e:=dr _ hi
   rw[df] at this
   omega
  exact ⟨v,by rw[cr,ik (by omega),eO this];exact hv,hp⟩
 ·rw[il (by omega),hn] at hx
  obtain ⟨v,hv,hp⟩:=U (i-n) j x t' hx ht hj
  have gJ:i-n<xs.length:=(br.1 hx).1
  have e1:i*P.cellsOf e+j-n*P.cellsOf e=(i-n)*P.cellsOf e+j:=by
   rw[Nat.sub_mul]
   have:n*P.cellsOf e≤i*P.cellsOf e:=dr _ (by omega)
   omega
  have h3:(i-n)*P.cellsOf e+j<news.length:=(br.1 hv).1
  refine ⟨v,?_,hp⟩
  have h4:n*P.cellsOf e≤i*P.cellsOf e+j:=by
   have:n*P.cellsOf e≤i*P.cellsOf e:=dr _ (by omega)
   omega
  rw[cr,il (by omega),hl,e1,ik h3]
  exact hv
theorem Pure.drew {t:TypeId} {v:Value} {x:V} (h:Pure P w I t v x):Pure P w.drew I t v x:=Pure.mono (w:=w) (w':=w.drew) (fun _ h=>h) (fun _ _=>rfl) h
theorem Wp (w:World) (t ty e:TypeId) (i:TypeInfo) (z:Value) (ht:P.underlying t=some (.slice e)) (hi:P.info? e=some i) (hz:i.zero=some z)
  (a0:Option Addr) (a:Addr) (n c:Nat) (news:List Value) (hl:news.length=n*i.size) (Dh: ∀j v,news[j]? =some v→w.cell? (a.add j)=some v)
  (h0:0<n) (Di:(n:Int)≤9223372036854775807) (Dj:n*i.bytes≤281474976710656):
  (Builtin.append_ #[t,t] ty #[.slice a0 0 0,.slice (some a) n c]).run P w=
   .ok (.slice (some ⟨w.heap.size,0,none⟩) n (grownCap w n 0 e)) (w.drew.alloc (.cells (news.toArray++Builtin.zeroCells z.cells (grownCap w n 0 e-n)) e)):=by
 cases a0 with
 | none=>exact run_append_nil w t ty e i z ht hi hz a n c news hl Dh h0 Di Dj
 | some b=>
  have:=run_append_grow (P:=P) w t ty e i z ht hi hz b 0 0 [] (by simp) (by simp) a n c news hl Dh (by omega) (by omega) (by rw[ga,nextslicecap_zero h0];omega)
  simpa using this
theorem Hu (S:aE P w I β hp B M w0) {t ty e:TypeId} {nb:Nat} {x:Value} {xs:List V} (hu:P.underlying t=some (.slice e)) (au:cL P e=true) (hn:hp nb=none)
  (dF:xs.length*P.bytesOf e≤cI) {a0:Option Addr} (hx:((∃a,x= .slice a 0 0)∧xs=[])∨∃a c news,Row P w I e x xs a c news):
  ∃v w' β',(Builtin.append_ #[t,t] ty #[.slice a0 0 0,x]).run P w= .ok v w'∧Le P w I β hp w' I β' (aG hp nb (some (.arr e xs false)))∧aE P w' I β' (aG hp nb (some (.arr e xs false))) B M w0∧
   ao P w' I β' (aG hp nb (some (.arr e xs false))) v (.whole e nb):=by
 obtain ⟨i,z,hi,hz,h3,h4,_⟩:=j5 au
 have tA:=vE au
 have l7:P.bytesOf e=i.bytes:=by simp[Program.bytesOf,hi]
 have hlen:xs.length≤2^45:=by
  have:xs.length*1≤xs.length*P.bytesOf e:=sP _ tA
  simp only[cI] at dF
  omega
 have empty:xs=[]→(∃a c,x= .slice a 0 c)→∃v w' β',(Builtin.append_ #[t,t] ty #[.slice a0 0 0,x]).run P w= .ok v w'∧Le P w I β hp w' I β' (aG hp nb (some (.arr e xs false)))∧aE P w' I β' (aG hp nb (some (.arr e xs false))) B M w0∧
   ao P w' I β' (aG hp nb (some (.arr e xs false))) v (.whole e nb):=by
  intro gk Hv
  subst gk
  obtain ⟨a1,a2⟩:=CP S e hn
  exact ⟨_,_,_,MU hu hi a0 0 0 x Hv (ch _),a1,a2,.dw (cR _ _ _) (cR _ _ _)⟩
 rcases hx with ⟨⟨_,rfl⟩,rfl⟩|⟨a,c,news,hr⟩
 ·exact empty rfl ⟨_,_,rfl⟩
 ·by_cases h0:xs.length=0
  ·have gk:xs=[]:=kW h0
   refine empty gk ⟨some a,c,?_⟩
   rw[hr.val,h0]
  ·have cS:=Wp (P:=P) w t ty e i z hu hi hz a0 a xs.length c news (by rw[hr.len,h3]) hr.cell (by omega) (by omega) (by rw[←l7];simp only[cI] at dF;omega)
   have o7:=grownCap_ge w xs.length 0 e
   have tB:grownCap w xs.length 0 e≤maxLen:=grownCap_le_maxLen w xs.length 0 e (by simp only[maxLen];omega)
   obtain ⟨n1,n2,n3⟩:=vX S.drew (nb:=nb) (cap:=grownCap w xs.length 0 e) (es:=xs) (C0:=news.toArray++Builtin.zeroCells z.cells (grownCap w xs.length 0 e-xs.length)) au hn
    (by simp only[Cc,pM,size_zeroCells,h4,hr.len,←df];congr 1;omega) o7 tB
    (fun i' j y t' hy ht hj=>by
     obtain ⟨u,fB,hp⟩:=hr.el i' j y t' hy ht hj
     have aP:=(br.1 fB).1
     refine ⟨u,?_,Pure.drew hp⟩
     rw[Array.getElem?_append_left (by simpa using aP)]
     simpa using fB)
   rw[hr.val]
   exact ⟨_,_,_,cS,(Le.drew w I β hp).trans n1,n2,n3⟩
theorem Wq (S:aE P w I β hp B M w0) {t ty e:TypeId} {nb:Nat} {s x:Value} {sv xv:V} {r:R} {rd:List Nat} (hu:P.underlying t=some (.slice e)) (hs:ao P w I β hp s sv) (hx:ao P w I β hp x xv)
  (h:(vo P nb e sv xv).run C hp=some (r,rd)):cU P ((Builtin.append_ #[t,t] ty #[s,x]).run P w) w I β hp B M w0 r:=by
 unfold vo at h
 obtain ⟨au,h⟩:=aF h
 obtain ⟨xs,lq,l0,h⟩:=Df S.h.rel au hx h
 cases sv with
 | nilS e'=>
  obtain ⟨hc,h⟩:=aF h
  simp only[aK,aR,dP] at hc
  obtain ⟨hn,rfl⟩:=m7 h
  obtain ⟨a0,rfl⟩: ∃a0,s= .slice a0 0 0:=by cases hs;exact ⟨_,rfl⟩
  obtain ⟨v,w',β',a1,a2,a3,a4⟩:=Hu (ty:=ty) S hu au hn hc.2 lq
  exact ⟨v,w',I,β',a1,a2,a3,a4⟩
 | whole e' id=>
  obtain ⟨l,h⟩:=run_get h
  cases ab:hp id with
  | none=>rw[ab] at h;cases h
  | some blk=>
   rw[ab] at h
   cases blk with
   | dead=>cases h
   | var _=>cases h
   | nest _ _ _=>cases h
   | map _ _=>cases h
   | arr dt es fz=>
    cases fz with
    | true=>cases h
    | false=>
     obtain ⟨hc,h⟩:=aF h
     obtain ⟨hn,rfl⟩:=m7 h
     simp only[aK,aR,dP] at hc
     obtain ⟨Hw,Hy,dF⟩:=hc
     subst Hw
     subst Hy
     have bu:nb≠id:=fun e=>by rw[e,ab] at hn;cases hn
     obtain ⟨k1,k2⟩:=CQ S ab
     have j6:aG hp id (some an.dead) nb=none:=by rw[dV _ _ bu];exact hn
     cases hs with
     | dS hd=>rw[ab] at hd;cases hd
     | eb hd=>rw[ab] at hd;cases hd
     | dw hd hb=>
      rw[ab] at hd
      cases hd
      simp only[List.length_nil,ga] at dF
      have Wr:((∃a,x= .slice a 0 0)∧xs=[])∨∃a c news,Row P w I e x xs a c news:=lq
      obtain ⟨v,w',β',a1,a2,a3,a4⟩:=Hu (ty:=ty) k2 hu au j6 dF Wr
      exact ⟨v,w',I,β',a1,k1.trans a2,a3,a4⟩
     | @whole _ _ aH mR b cap hd hb aU bX hm=>
      rw[ab] at hd
      cases hd
      have hr:=S.h.rel id _ ab
      cases hr with
      | dx az=>rw[az] at hb;cases hb
      | @arr _ _ _ b' Ca _ az hh o9 hf dU l8=>
       rw[hb] at az
       cases az
       obtain ⟨i,z,hi,hz,h3,h4,_⟩:=j5 au
       have tA:=vE au
       have l7:P.bytesOf e=i.bytes:=by simp[Program.bytesOf,hi]
       have hlen:es.length+xs.length≤2^45:=by
        have:(es.length+xs.length)*1≤(es.length+xs.length)*P.bytesOf e:=sP _ tA
        simp only[cI] at dF
        omega
       rw[mV hh] at aU
       have qe: ∀aC blk',aG hp id (some an.dead) aC=some blk'→¬bt P w (β aC) blk' b:=by
        intro aC blk' h1 U
        by_cases iE:aC=id
        ·subst iE;rw[cR] at h1;cases h1;exact U.alive rfl
        ·rw[dV _ _ iE] at h1
         exact iE (S.h.inj aC id blk' _ b h1 ab U (.root (by simp) hb))
       have Hz:=S.h.rM id _ b ab (by simp) hb
       have room: ∀(C':Array Value) (w':World) (ys:List V),w'.heap[b]? =some (.cells C' e (0,0))→C'.size=Ca.size→(∀b',b'≠b→w'.heap[b']? =w.heap[b']?)→w.heap.size≤w'.heap.size→(w'.os=w.os∧w'.output=w.output)→ys.length≤cap→
         (∀(i j:Nat) (y:V) (t':TypeId),ys[i]? =some y→(aS P e)[j]? =some t'→j<P.cellsOf e→∃v,C'[i*P.cellsOf e+j]? =some v∧Pure P w I t' v (bH P e y j))→
         Le P w I β hp w' I (aG β nb (some b)) (aG (aG hp id (some .dead)) nb (some (.arr e ys false)))∧aE P w' I (aG β nb (some b)) (aG (aG hp id (some .dead)) nb (some (.arr e ys false))) B M w0∧
         ao P w' I (aG β nb (some b)) (aG (aG hp id (some .dead)) nb (some (.arr e ys false))) (.slice (some ⟨b,0,none⟩) ys.length cap) (.whole e nb):=by
        intro C' w' ys hC oj Ws Wt Wu tv hy
        obtain ⟨a1,a2⟩:=za k2 (blk:= .arr e ys false) (w':=w') j6 qe (dU rfl) (fun b' h _=>Ws b' h) Wt Wu Hz
         (fun b' h=>(cY (h.flat (by simp))).symm) (fun hle=> .arr au rfl hC (by rw[oj,←aU];exact dr _ tv) (fun h=>by cases h) (fun _=>dU rfl) fun i j y t' a b c=>by
          obtain ⟨v,hv,hp⟩:=hy i j y t' a b c
          exact ⟨v,hv,hp.mono hle.c9 hle.b8⟩)
        refine ⟨k1.trans a1,a2,.whole (cR _ _ _) (cR _ _ _) ?_ tv hm⟩
        rw[mV hC,oj,aU]
       have same:xs=[]→(∃a c,x= .slice a 0 c)→cU P ((Builtin.append_ #[t,t] ty #[.slice (some ⟨b,0,none⟩) es.length cap,x]).run P w) w I β hp B M w0 ⟨.whole e nb,[(nb,.arr e (es++xs) false),(id,.dead)]⟩:=by
        intro gk Hv
        subst gk
        rw[dJ]
        obtain ⟨a1,a2,a3⟩:=room Ca w es hh rfl (fun _ _=>rfl) (ch _) ⟨rfl,rfl⟩ bX l8
        exact ⟨_,_,_,_,MU hu hi _ _ _ x Hv bX,a1,a2,a3⟩
       rcases lq with ⟨⟨_,rfl⟩,rfl⟩|⟨a,c,news,cD⟩
       ·exact same rfl ⟨_,_,rfl⟩
       ·have h1:=cD.one au
        have lp:es.length*P.cellsOf e≤Ca.toList.length:=by simpa using o9
        by_cases rV:es.length+xs.length≤cap
        ·have zp:es.length*P.cellsOf e+news.length≤Ca.size:=by rw[cD.len,←df,←aU];exact dr _ rV
         have cS:=run_append_room (P:=P) w t ty e i hu hi b es.length cap Ca hh a xs.length c news (by rw[cD.len,h3]) cD.cell h1 rV (by rw[h3];exact zp)
         rw[h3] at cS
         have cN:=Dg (P:=P) (w:=w) (I:=I) (n:=es.length) (c:=Ca.toList) rfl (fun i j y t' a b c=>by
          obtain ⟨v,hv,hp⟩:=l8 i j y t' a b c
          exact ⟨v,by simpa using hv,hp⟩) cD.el lp (Ca.toList.drop (es.length*P.cellsOf e+news.length))
         obtain ⟨a1,a2,a3⟩:=room (Ca.toList.take (es.length*P.cellsOf e)++news++Ca.toList.drop (es.length*P.cellsOf e+news.length)).toArray (w.setRow b _) (es++xs)
          (setRow_heap w b Ca _ e _ hh) (by simp;omega) (fun b' az=>setRow_other w b b' _ az) (by simp) ⟨rfl,rfl⟩ (by simpa using rV)
          (fun i j y t' a b c=>by
           obtain ⟨v,hv,hp⟩:=cN i j y t' a b c
           exact ⟨v,by simpa using hv,hp⟩)
         rw[cD.val]
         rw[cx] at a3
         exact ⟨_,_,_,_,cS,a1,a2,a3⟩
        ·have hold: ∀(j:Nat) v,(Ca.toList.take (es.length*P.cellsOf e))[j]? =some v→w.cell? ((⟨b,0,none⟩:Addr).add j)=some v:=by
          intro j v hj
          have b9:=(br.1 hj).1
          have fT:j<es.length*P.cellsOf e:=by rw[ft] at b9;omega
          rw[eO fT] at hj
          rw[mY,cell?_cells hh,ga]
          simpa using hj
         have cS:=run_append_grow (P:=P) w t ty e i z hu hi hz ⟨b,0,none⟩ es.length cap (Ca.toList.take (es.length*P.cellsOf e)) (by rw[h3];simp;omega) hold a xs.length c news (by rw[cD.len,h3]) cD.cell (by omega) (by omega)
          (growslice_fits (by omega) (by rw[←l7];simp only[cI] at dF;omega))
         have o7:=grownCap_ge w (es.length+xs.length) cap e
         have tB:grownCap w (es.length+xs.length) cap e≤maxLen:=grownCap_le_maxLen w _ cap e (by simp only[maxLen];omega)
         have cN:=Dg (P:=P) (w:=w) (I:=I) (n:=es.length) (c:=Ca.toList) rfl (fun i j y t' a b c=>by
          obtain ⟨v,hv,hp⟩:=l8 i j y t' a b c
          exact ⟨v,by simpa using hv,hp⟩) cD.el lp (Builtin.zeroCells z.cells (grownCap w (es.length+xs.length) cap e-(es.length+xs.length))).toList
         obtain ⟨n1,n2,n3⟩:=vX k2.drew (nb:=nb) (cap:=grownCap w (es.length+xs.length) cap e) (es:=es++xs)
          (C0:=(Ca.toList.take (es.length*P.cellsOf e)).toArray++news.toArray++Builtin.zeroCells z.cells (grownCap w (es.length+xs.length) cap e-(es.length+xs.length))) au j6
          (by
           have e1:(Ca.toList.take (es.length*P.cellsOf e)).length=es.length*P.cellsOf e:=by simp;omega
           simp only[Cc,pM,size_zeroCells,h4,cD.len,e1,←df];congr 1;omega) (by simpa using o7) tB
          (fun i j y t' a b c=>by
           obtain ⟨v,hv,hp⟩:=cN i j y t' a b c
           refine ⟨v,?_,Pure.drew hp⟩
           rw[←rr]
           simpa using hv)
         rw[cD.val]
         rw[cx] at n3
         exact ⟨_,_,_,_,cS,(k1.trans (Le.drew w I β _)).trans n1,n2,n3⟩
 | _=>cases h
end
section
variable {P:Program} {w w':World} {I I':Nat→Prop} {β β':Nat→Option Nat} {hp hp':Nat→Option an} {C:ag} {B:Nat} {M:Nat→Prop} {w0:Start}
theorem run_copy_none (w:World) {dT sT ty elem:TypeId} {i:TypeInfo} (a0:Option Addr) (MV Wv:Nat) (a1:Option Addr) (MW Ww:Nat) (hu:P.underlying dT=some (.slice elem)) (hi:P.info? elem=some i) (h0:Nat.min MW MV=0):
  (Builtin.copy_ #[dT,sT] ty #[.slice a0 MV Wv,.slice a1 MW Ww]).run P w= .ok (goInt 0) w:=by
 cases a0<;>cases a1<;>simp[Builtin.copy_,run_underlying hu,Builtin.lenOf,Builtin.firstCells,sizeOf,typeInfo,hi,h0,storeCells,loadCells,loadCellsFrom]
theorem Wx (S:aE P w I β hp B M w0) {t u ty e:TypeId} {s x:Value} {sv xv:V} {r:R} {rd:List Nat} (hu:P.underlying t=some (.slice e)) (hs:ao P w I β hp s sv) (hx:ao P w I β hp x xv)
  (h:(GF P e sv xv).run C hp=some (r,rd)):cU P ((Builtin.copy_ #[t,u] ty #[s,x]).run P w) w I β hp B M w0 r:=by
 unfold GF at h
 obtain ⟨au,h'⟩:=aF h
 clear h
 simp only[aK,aR] at au
 obtain ⟨au,h1⟩:=au
 obtain ⟨xs,lq,l0,h⟩:=Df S.h.rel au hx h'
 obtain ⟨i,z,hi,hz,aU,_⟩:=j5 au
 cases sv<;>simp only at h<;>first|(cases h;done)|skip
 rename_i e' id
 obtain ⟨l,U⟩:=run_get h
 clear h
 cases ab:hp id with
 | none=>rw[ab] at U;cases U
 | some blk=>
  rw[ab] at U
  cases blk<;>simp only at U<;>first|(cases U;done)|skip
  rename_i e2 es fz
  cases fz with
  | true=>cases U
  | false=>
  obtain ⟨hc,h3⟩:=aF U
  simp only[aK,aR] at hc
  obtain ⟨rfl,rfl⟩:=hc
  obtain rfl:=aN h3
  have m8:min xs.length es.length=0→(Builtin.copy_ #[t,u] ty #[s,x]).run P w= .ok (goInt 0) w→cU P ((Builtin.copy_ #[t,u] ty #[s,x]).run P w) w I β hp B M w0 ⟨.int .i64 (min xs.length es.length:Nat),[(id,.arr e (xs.take es.length++es.drop xs.length) false)]⟩:=by
   intro h0 hr
   have he:xs.take es.length++es.drop xs.length=es:=by
    rcases Nat.le_total xs.length es.length with hl|hl
    ·have:xs=[]:=kW (by omega)
     simp[this]
    ·have:es=[]:=kW (by omega)
     simp[this]
   have fS:bG hp [(id,.arr e (xs.take es.length++es.drop xs.length) false)]=hp:=by
    rw[he];exact GP hp id _ ab
   refine ⟨goInt 0,w,I,β,hr,?_⟩
   simp only[fS,h0]
   exact ⟨Le.refl w I β hp,S,.int⟩
  cases hs with
  | dS hd=>rw[ab] at hd;cases hd
  | eb hd=>rw[ab] at hd;cases hd
  | @dw _ _ fz a hd hb=>
   rw[ab] at hd
   cases hd
   refine m8 (by simp) ?_
   rcases lq with ⟨⟨a',rfl⟩,rfl⟩|⟨a',c,news,cD⟩
   ·exact run_copy_none w _ _ _ _ _ _ hu hi (by simp)
   ·rw[cD.val];exact run_copy_none w _ _ _ _ _ _ hu hi (by simp)
  | @whole _ _ aH mR b cap hd hb zq bX hm=>
   have eo:=hd
   rw[ab] at hd
   cases hd
   rcases lq with ⟨⟨a',rfl⟩,rfl⟩|⟨a',c,news,cD⟩
   ·exact m8 (by simp) (run_copy_none w _ _ _ _ _ _ hu hi (by simp))
   have hr:=S.h.rel id _ ab
   cases hr with
   | dx az=>rw[az] at hb;cases hb
   | @arr _ _ _ b' Ca _ az hh o9 hf dU l8=>
    rw[hb] at az
    cases az
    have ll:news.length=xs.length:=by rw[cD.len,h1,mK]
    rw[h1,mK] at o9
    have kH:(news.take es.length).length=Nat.min xs.length es.length:=by
     rw[ft,ll,Nat.min_comm]
    have MX:Nat.min xs.length es.length=min xs.length es.length:=rfl
    have cS:=run_copy_row (P:=P) w t u ty e b 0 es.length cap a' xs.length c Ca e (news.take es.length) hu (by rw[hi];simp[aU,h1]) hh kH
     (fun j v hj=>cD.cell j v (by
      have:=(br.1 hj).1
      rw[ft] at this
      rwa [eO (by omega)] at hj)) (by rw[kH,MX];omega) (fun v hv=>cD.one au v (List.mem_of_mem_take hv))
    rw[cD.val]
    have hq:(goInt (news.take es.length).length)= .int .i64 ((min xs.length es.length:Nat):Int):=by rw[kH];rfl
    have jc:(xs.take es.length++es.drop xs.length).length=es.length:=by simp;omega
    have oj:(Ca.toList.take 0++news.take es.length++Ca.toList.drop (0+(news.take es.length).length)).toArray.size=Ca.size:=by
     simp only[pM,cx,sQ,ft,kH,MX]
     simp
     omega
    obtain ⟨a1,a2⟩:=C2 S (blk':= .arr e (xs.take es.length++es.drop xs.length) false) (Cb:=(Ca.toList.take 0++news.take es.length++Ca.toList.drop (0+(news.take es.length).length)).toArray) ab (by simp) ⟨rfl,jc.symm⟩ hb (dU rfl) (by simp) hh oj
     (fun hle eI=> .arr au rfl eI (by rw[oj,jc,h1,mK];exact o9) (fun h=>by cases h) (fun _=>dU rfl) fun i j y t' hy ht hj=>by
      rw[h1] at hj⊢
      obtain rfl:j=0:=by omega
      rw[mK,Nat.add_zero]
      have qq:=(br.1 hy).1
      rw[jc] at qq
      by_cases bY:i<xs.length
      ·rw[ik (by rw[ft];omega),eO qq] at hy
       obtain ⟨u',k1,k2⟩:=cD.el i 0 y t' hy ht (by omega)
       rw[h1,mK,Nat.add_zero] at k1
       refine ⟨u',?_,k2.mono hle.c9 hle.b8⟩
       simp only[List.take_zero,List.nil_append,mJ]
       rw[ik (by rw[ft];omega),eO qq]
       exact k1
      ·have e1:(xs.take es.length).length=xs.length:=by rw[ft];omega
       rw[il (by omega),e1,gR,show xs.length+(i-xs.length)=i by omega] at hy
       obtain ⟨u',k1,k2⟩:=l8 i 0 y t' hy ht (by omega)
       rw[h1,mK,Nat.add_zero] at k1
       refine ⟨u',?_,k2.mono hle.c9 hle.b8⟩
       simp only[List.take_zero,List.nil_append,mJ,ga]
       have e2:(news.take es.length).length=xs.length:=by rw[ft];omega
       rw[il (by omega),e2,gR,show xs.length+(i-xs.length)=i by omega]
       simpa using k1)
    exact ⟨_,_,_,_,cS,a1,a2,by rw[hq];exact .int⟩
theorem Wy (S:aE P w I β hp B M w0) {t ty e:TypeId} {x:Value} {xv:V} {r:R} {rd:List Nat} (hu:P.underlying t=some (.slice e)) (hx:ao P w I β hp x xv)
  (h:(GD P e xv).run C hp=some (r,rd)):cU P ((Builtin.clear_ #[t] ty #[x]).run P w) w I β hp B M w0 r:=by
 unfold GD at h
 obtain ⟨cN,h'⟩:=aF h
 clear h
 have au:cL P e=true:=by
  unfold lQ at cN;simp only[aK] at cN;exact cN.1
 obtain ⟨i,z,hi,hz,aU,zr,Wz⟩:=zo (w:=w) (I:=I) cN
 have ja:=(jY au).2
 cases xv<;>simp only at h'<;>first|(cases h';done)|skip
 rename_i e' id off len
 obtain ⟨l,U⟩:=run_get h'
 clear h'
 cases ab:hp id with
 | none=>rw[ab] at U;cases U
 | some blk=>
  rw[ab] at U
  cases blk<;>simp only at U<;>first|(cases U;done)|skip
  rename_i e2 es fz
  cases fz with
  | true=>cases U
  | false=>
  obtain ⟨hc,h3⟩:=aF U
  simp only[aK,aR] at hc
  obtain ⟨rfl,rfl⟩:=hc
  obtain rfl:=aN h3
  have m8:len=0→(Builtin.clear_ #[t] ty #[x]).run P w= .ok (.tuple #[]) w→cU P ((Builtin.clear_ #[t] ty #[x]).run P w) w I β hp B M w0 ⟨.bd [],[(id,.arr e (es.take off++(List.replicate len (ct P e (ej P e))++es.drop (off+len))) false)]⟩:=by
   intro h0 hr
   subst h0
   have fS:bG hp [(id,.arr e (es.take off++(List.replicate 0 (ct P e (ej P e))++es.drop (off+0))) false)]=hp:=by
    simp only[List.replicate_zero,List.nil_append,Nat.add_zero,Cd]
    exact GP hp id _ ab
   refine ⟨.tuple #[],w,I,β,hr,?_⟩
   simp only[fS]
   exact ⟨Le.refl w I β hp,S,.bd rfl fun j v x hj hx=>by simp at hx⟩
  cases hx with
  | fQ hd=>rw[ab] at hd;cases hd
  | @fA _ _ _ a0 hd hb=>exact m8 rfl (by cases a0<;>simp[Builtin.clear_,run_underlying hu])
  | @sub _ _ _ _ aH mR b o cap hd hb kB bX ho=>
   by_cases hlen:len=0
   ·refine m8 hlen ?_
    subst hlen
    simp[Builtin.clear_,run_underlying hu]
   have WA:0<len:=by omega
   have eo:=hd
   rw[ab] at hd
   cases hd
   have hr:=S.h.rel id _ ab
   cases hr with
   | dx az=>rw[az] at hb;cases hb
   | @arr _ _ _ b' Ca _ az hh o9 hf dU l8=>
    rw[hb] at az
    cases az
    have ho:=ho WA
    subst ho
    have tz:(Builtin.zeroCells z.cells len).toList.length=len*P.cellsOf e:=by rw[Array.length_toList,size_zeroCells,zr]
    have hmul:off*P.cellsOf e+len*P.cellsOf e≤es.length*P.cellsOf e:=by rw[←df];exact dr _ kB
    have qn: ∀v∈(Builtin.zeroCells z.cells len).toList,v.oneCell'=true:=by
     intro v hv
     obtain ⟨k,hk⟩:=rq hv
     have hX:=(br.1 hk).1
     rw[tz] at hX
     have WB:(Builtin.zeroCells z.cells len)[k]? =z.cells[k %z.cells.size]? :=MR (z:=z.cells) (n:=len*z.cells.size) (by rw[zr];exact hX) (by rw[zr];exact ja)
     rw[rr,WB] at hk
     have hm:k %z.cells.size<P.cellsOf e:=by rw[zr];exact Nat.mod_lt _ ja
     have WC:k %z.cells.size<(aS P e).length:=by rw[fi au];exact hm
     obtain ⟨v',vM,hp'⟩:=Wz (k %z.cells.size) _ (bz WC) hm
     rw[hk] at vM
     cases vM
     generalize bH P e (ct P e (ej P e)) (k %z.cells.size)=y at hp'
     cases hp'<;>rfl
    have ca:=run_storeCells_at P b (off*P.cellsOf e) e (Builtin.zeroCells z.cells len).toList 0 Ca w hh (by rw[tz];omega) qn
    simp only[Nat.add_zero] at ca
    have cS:(Builtin.clear_ #[t] ty #[.slice (some ⟨b,off*P.cellsOf e,none⟩) len cap]).run P w= .ok (.tuple #[]) (w.setRow b (Ca.toList.take (off*P.cellsOf e)++(Builtin.zeroCells z.cells len).toList++Ca.toList.drop (off*P.cellsOf e+(Builtin.zeroCells z.cells len).toList.length)).toArray):=by
     obtain ⟨n,rfl⟩: ∃n,len=n+1:=⟨len-1,by omega⟩
     simp[Builtin.clear_,run_underlying hu,zeroValue,typeInfo,hi,hz,ca]
    have jc:(es.take off++(List.replicate len (ct P e (ej P e))++es.drop (off+len))).length=es.length:=by simp;omega
    have oj:(Ca.toList.take (off*P.cellsOf e)++(Builtin.zeroCells z.cells len).toList++Ca.toList.drop (off*P.cellsOf e+(Builtin.zeroCells z.cells len).toList.length)).toArray.size=Ca.size:=by
     simp only[pM,cx,sQ,ft,tz,Array.length_toList]
     omega
    obtain ⟨a1,a2⟩:=C2 S (blk':= .arr e (es.take off++(List.replicate len (ct P e (ej P e))++es.drop (off+len))) false) ab (by simp) ⟨rfl,jc.symm⟩ hb (dU rfl) (by simp) hh oj
     (fun hle eI=> .arr au rfl eI (by rw[oj,jc];exact o9) (fun h=>by cases h) (fun _=>dU rfl) fun i' j y t' hy ht hj=>by
      have gK:=mZ es (List.replicate len (ct P e (ej P e))) off i' (by simp;omega)
      rw[sR] at gK
      rw[gK] at hy
      have hC:(Ca.toList.take (off*P.cellsOf e)++(Builtin.zeroCells z.cells len).toList++Ca.toList.drop (off*P.cellsOf e+(Builtin.zeroCells z.cells len).toList.length)).toArray[i'*P.cellsOf e+j]? =
        if i'*P.cellsOf e+j<off*P.cellsOf e then Ca.toList[i'*P.cellsOf e+j]? else if i'*P.cellsOf e+j<off*P.cellsOf e+len*P.cellsOf e then (Builtin.zeroCells z.cells len).toList[i'*P.cellsOf e+j-off*P.cellsOf e]? else Ca.toList[i'*P.cellsOf e+j]? :=by
       have:=mZ Ca.toList (Builtin.zeroCells z.cells len).toList (off*P.cellsOf e) (i'*P.cellsOf e+j) (by rw[tz,Array.length_toList];omega)
       rw[mJ,cr,this,tz]
      by_cases HA:i'<off
      ·rw[aj HA] at hy
       have:(i'+1)*P.cellsOf e≤off*P.cellsOf e:=dr _ HA
       rw[df] at this
       rw[aj (by omega)] at hC
       obtain ⟨u,k1,k2⟩:=l8 i' j y t' hy ht hj
       exact ⟨u,hC.trans (by simpa using k1),k2.mono hle.c9 hle.b8⟩
      ·rw[ah HA] at hy
       have h1:off*P.cellsOf e≤i'*P.cellsOf e:=dr _ (by omega)
       rw[ah (by omega)] at hC
       by_cases gJ:i'<off+len
       ·rw[aj gJ] at hy
        have:(i'+1)*P.cellsOf e≤(off+len)*P.cellsOf e:=dr _ gJ
        rw[df,df] at this
        rw[aj (by omega)] at hC
        obtain ⟨v,k1,k2⟩:=De (w:=w) (I:=I) cN hi hz len len (ch _) (i'-off) j y t' hy ht hj
        refine ⟨v,hC.trans ?_,k2.mono hle.c9 hle.b8⟩
        rw[show i'*P.cellsOf e+j-off*P.cellsOf e=(i'-off)*P.cellsOf e+j by rw[Nat.sub_mul];omega,rr]
        unfold Builtin.zeroCells
        rw[zr] at k1⊢
        exact k1
       ·rw[ah gJ] at hy
        have:(off+len)*P.cellsOf e≤i'*P.cellsOf e:=dr _ (by omega)
        rw[df] at this
        rw[ah (by omega)] at hC
        obtain ⟨u,k1,k2⟩:=l8 i' j y t' hy ht hj
        exact ⟨u,hC.trans (by simpa using k1),k2.mono hle.c9 hle.b8⟩)
    exact ⟨_,_,_,_,cS,a1,a2,.bd rfl fun j v x hj hx=>by simp at hx⟩
end
section
variable {P:Program} {w w':World} {I I':Nat→Prop} {β β':Nat→Option Nat} {hp hp':Nat→Option an} {C:ag} {B:Nat} {M:Nat→Prop} {w0:Start}
theorem WD (S:aE P w I β hp B M w0) {s:TypeId} {f:Nat} {v:Value} {x:V} {r:R} {rd:List Nat} (hv:ao P w I β hp v x)
  (h:(GI P s f x).run C hp=some (r,rd)):cU P ((Instr.field s v f).run P w) w I β hp B M w0 r:=by
 unfold GI Cp at h
 split at h
 ·rename_i fs hu
  cases hf:fs[f]? with
  | none=>rw[hf] at h;cases h
  | some fd=>
   rw[hf] at h
   simp only[vp] at h
   obtain ⟨ht,h⟩:=aF h
   obtain ⟨d,tC⟩:=ze ht
   obtain ⟨i,hi⟩:=vK tC
   have aU:i.size=P.cellsOf fd.type:=by simp[Program.cellsOf,hi]
   cases x with
   | agg xs=>
    obtain ⟨cs,rfl,h1,U⟩:=hv.kE
    dsimp only at h
    cases ha:bE P fd.type with
    | true=>
     rw[ha] at h
     simp only[cond_true] at h
     obtain ⟨hc,h⟩:=aF h
     obtain rfl:=aN h
     rw[dP] at hc
     refine .same S (v:= .agg (cs.extract fd.offset (fd.offset+P.cellsOf fd.type))) ?_ (.agg (by simp;omega) fun j u y fB hy=> ?_)
     ·simp[Instr.field,run_underlying hu,hf,part,G7 tC,ha,asAgg,sizeOf,typeInfo,hi,aU]
     ·have hj:j<P.cellsOf fd.type:=by
       have:=(gS.1 fB).1
       simp at this;omega
      rw[eO hj,gR] at hy
      refine U (fd.offset+j) u y ?_ hy
      rw[Array.getElem?_extract] at fB
      split at fB
      ·exact fB
      ·cases fB
    | false=>
     rw[ha] at h
     simp only[cond_false] at h
     obtain ⟨y,hy,h⟩:=lf h
     obtain rfl:=aN h
     have aP:fd.offset<cs.size:=by rw[h1];exact (br.1 hy).1
     refine .same S (v:=cs[fd.offset]) ?_ (U _ _ _ (kp aP) hy)
     simp[Instr.field,run_underlying hu,hf,part,G7 tC,ha,asAgg,aP]
   | _=>cases h
 ·cases h
theorem WE (S:aE P w I β hp B M w0) {i:Nat} {v:Value} {xs:List V} {r:R} {rd:List Nat} (hv:ao P w I β hp v (.bd xs))
  (h:(Rd.opt xs[i]? fun v=> .ret ⟨v,[]⟩).run C hp=some (r,rd)):cU P ((Instr.extract v i).run P w) w I β hp B M w0 r:=by
 obtain ⟨cs,rfl,h1,U⟩:=hv.tm
 obtain ⟨y,hy,h⟩:=lf h
 obtain rfl:=aN h
 have aP:i<cs.size:=by rw[h1];exact (br.1 hy).1
 exact .same S (v:=cs[i]) (by simp[Instr.extract,aP]) (U _ _ _ (kp aP) hy)
theorem WG (S:aE P w I β hp B M w0) {t:TypeId} {s:ByteArray} {l:List UInt8} {k:IntKind} {i:Int} {r:R} {rd:List Nat} (hu:P.underlying t=some .string) (hs:s.data.toList=l)
  (h:(Rd.opt (bif decide (0≤i) then (l[i.toNat]?).map fun b=>V.int .u8 b.toNat else none) fun v=> .ret ⟨.int .u8 v.toInt,[]⟩).run C hp=some (r,rd)):
  cU P ((Instr.index t (.string s) (.int k i)).run P w) w I β hp B M w0 r:=by
 obtain ⟨v,hv,h⟩:=lf h
 obtain rfl:=aN h
 cases hc:decide (0≤i) with
 | false=>rw[hc] at hv;cases hv
 | true=>
  rw[hc] at hv
  simp only[cond_true] at hv
  have h0:0≤i:=by simpa using hc
  cases hb:l[i.toNat]? with
  | none=>rw[hb] at hv;cases hv
  | some b=>
   rw[hb] at hv
   simp only[Option.map_some,dI] at hv
   subst hv
   have WH:s[i.toNat]? =some b:=by
    subst hs
    obtain ⟨aP,he⟩:=br.1 hb
    have HB:i.toNat<s.size:=by simpa using aP
    rw[getElem?_pos s i.toNat HB]
    congr 1
   refine .same S (v:= .int .u8 b.toNat) ?_ .int
   simp[Instr.index,asIntOf,run_underlying hu,h0,WH]
theorem HC (S:aE P w I β hp B M w0) (mx:Bool): ∀{vs:List Value} {xs:List V} {v:Value} {x:V} {r:R} {rd:List Nat},ao P w I β hp v x→vs.length=xs.length→
  (∀(j:Nat) u y,vs[j]? =some u→xs[j]? =some y→ao P w I β hp u y)→(vq mx x xs).run C hp=some (r,rd)→
  cU P ((vs.foldlM (if mx then Builtin.max2 else Builtin.min2) v).run P w) w I β hp B M w0 r
 | [],[],v,x,r,rd,hv,_,_,h=>by
  have:r=⟨x,[]⟩:=by
   cases x<;>(simp only[vq] at h;exact (aN h).symm)
  subst this
  exact .same S (by simp) hv
 | [],_::_,v,x,r,rd,hv,hl,_,h=>by simp at hl
 | _::_,[],v,x,r,rd,hv,hl,_,h=>by simp at hl
 | u::vs,y::xs,v,x,r,rd,hv,hl,hx,h=>by
  cases x<;>cases y<;>simp only[vq] at h<;>first|(cases h;done)|skip
  rename_i k a k' b
  obtain ⟨hc,h4⟩:=aF h
  clear h
  obtain rfl:k=k':=by simpa using hc
  have hu:=hx 0 u _ rfl rfl
  rw[hv.dL,hu.dL]
  have ih:=HC S mx (vs:=vs) (xs:=xs) (v:= .int k (bif mx then (if b>a then b else a) else (if b<a then b else a))) .int (by simpa using hl)
   (fun j u y h1 U=>hx (j+1) u y (by simpa using h1) (by simpa using U)) h4
  cases mx with
  | true=>simpa[List.foldlM_cons,Builtin.max2] using ih
  | false=>simpa[List.foldlM_cons,Builtin.min2] using ih
theorem qs {n cap:Nat} {isS:Bool} {lo hi:Option V} {lov hiv:Option Value} {k:Nat→Nat→Rd R} {r:R} {rd:List Nat} (hn:n≤cap)
  (iF: ∀x,lo=some x→∃v,lov=some v∧ao P w I β hp v x) (gL: ∀x,hi=some x→∃v,hiv=some v∧ao P w I β hp v x) (m9:lo=none→lov=none) (om:hi=none→hiv=none)
  (h:(rG n lo hi k).run C hp=some (r,rd)): ∃l u,l≤u∧u≤n∧(Instr.sliceBounds isS n cap lov hiv none).run P w= .ok (l,u,cap) w∧(k l u).run C hp=some (r,rd):=by
 have ok: ∀(kk:IntKind) (i:Int) (y:Nat) (c:BoundsCode),0≤i→i≤y→(Instr.sliceBound (.int kk i) y c).run P w= .ok i.toNat w:=by
  intro kk i y c h1 U
  simp[Instr.sliceBound,asIntOf,h1,U]
 unfold rG at h
 cases lo with
 | none=>
  rw[m9 rfl]
  cases hi with
  | none=>
   rw[om rfl]
   exact ⟨0,n,ko _,ch _,by simp[Instr.sliceBounds],h⟩
  | some x=>
   obtain ⟨v,rfl,hv⟩:=gL x rfl
   cases x<;>simp only at h<;>first|(cases h;done)|skip
   rename_i kk u
   obtain ⟨hc,h⟩:=aF h
   simp only[aK,dH] at hc
   rw[hv.dL]
   have:=ok kk u cap (if isS then .sliceAcap else .sliceAlen) hc.1 (by omega)
   exact ⟨0,u.toNat,ko _,by omega,by simp[Instr.sliceBounds,this],h⟩
 | some x=>
  obtain ⟨v,rfl,hv⟩:=iF x rfl
  cases hi with
  | none=>
   rw[om rfl]
   cases x<;>simp only at h<;>first|(cases h;done)|skip
   rename_i kk l
   obtain ⟨hc,h⟩:=aF h
   simp only[aK,dH] at hc
   rw[hv.dL]
   have:=ok kk l n .sliceB hc.1 (by omega)
   exact ⟨l.toNat,n,by omega,ch _,by simp[Instr.sliceBounds,this],h⟩
  | some y=>
   obtain ⟨v2,rfl,qb⟩:=gL y rfl
   cases x<;>cases y<;>simp only at h<;>first|(cases h;done)|skip
   rename_i kk l WI u
   obtain ⟨hc,h⟩:=aF h
   simp only[aK,dH] at hc
   rw[hv.dL,qb.dL]
   have h1:=ok WI u cap (if isS then .sliceAcap else .sliceAlen) (by omega) (by omega)
   have U:=ok kk l u.toNat .sliceB hc.1 (by omega)
   exact ⟨l.toNat,u.toNat,by omega,by omega,by simp[Instr.sliceBounds,h1,U],h⟩
theorem Dk {a:Option Addr} {t e:TypeId} {i:TypeInfo} (hu:P.underlying t=some (.slice e)) (hi:P.info? e=some i) {lov hiv:Option Value}
  (hb:(Instr.sliceBounds true 0 0 lov hiv none).run P w= .ok (0,0,0) w):(Instr.sliceAt t (.slice a 0 0) lov hiv none).run P w= .ok (.slice a 0 0) w:=by
 cases a<;>simp[Instr.sliceAt,Instr.slice,run_underlying hu,hb,sizeOf,typeInfo,hi]
theorem HD {t e:TypeId} {i:TypeInfo} {b o len cap l u:Nat} (hu:P.underlying t=some (.slice e)) (hi:P.info? e=some i) {lov hiv:Option Value} (huc:u≤cap)
  (hb:(Instr.sliceBounds true len cap lov hiv none).run P w= .ok (l,u,cap) w): ∃o',(0<u-l→o'=o+l*i.size)∧(Instr.sliceAt t (.slice (some ⟨b,o,none⟩) len cap) lov hiv none).run P w= .ok (.slice (some ⟨b,o',none⟩) (u-l) (cap-l)) w:=by
 by_cases hc:cap=l
 ·subst hc
  refine ⟨o,fun h=>by omega,?_⟩
  ·simp[Instr.sliceAt,Instr.slice,run_underlying hu,hb,sizeOf,typeInfo,hi]
 ·refine ⟨o+l*i.size,fun _=>rfl,?_⟩
  simp[Instr.sliceAt,Instr.slice,run_underlying hu,hb,sizeOf,typeInfo,hi,hc,mY]
theorem WJ (s:ByteArray) (l:List UInt8) (h:s.data.toList=l) (a b:Nat):(s.extract a b).data.toList=(l.drop a).take (b-a):=by
 subst h
 simp[ByteArray.data_extract]
theorem WK (S:aE P w I β hp B M w0) {t:TypeId} {v:Value} {x:V} {lo hi:Option V} {lov hiv:Option Value} {r:R} {rd:List Nat} (hv:ao P w I β hp v x)
  (iF: ∀x,lo=some x→∃v,lov=some v∧ao P w I β hp v x) (gL: ∀x,hi=some x→∃v,hiv=some v∧ao P w I β hp v x) (m9:lo=none→lov=none) (om:hi=none→hiv=none)
  (h:(Cv P t x lo hi).run C hp=some (r,rd)):cU P ((Instr.sliceAt t v lov hiv none).run P w) w I β hp B M w0 r:=by
 unfold Cv at h
 cases hu:P.underlying t with
 | none=>rw[hu] at h;cases h
 | some d=>
  rw[hu] at h
  cases d<;>simp only at h<;>first|(cases h;done)|skip
  case string=>
   cases x<;>simp only at h<;>first|(cases h;done)|skip
   rename_i l
   obtain ⟨s,rfl,hs⟩:=hv.lX
   have aU:l.length=s.size:=by rw[←hs];simp
   obtain ⟨a,u,h1,U,h3,h4⟩:=qs (isS:=false) (cap:=s.size) (by omega) iF gL m9 om h
   obtain rfl:=aN h4
   rw[aU] at h3
   refine .same S (v:= .string (s.extract a u)) ?_ (.str (WJ s l hs a u))
   simp[Instr.sliceAt,Instr.slice,run_underlying hu,h3]
  case slice e=>
   cases x<;>simp only at h<;>first|(cases h;done)|skip
   case list e' es=>
    obtain ⟨hc,h⟩:=aF h
    simp only[aK,aR] at hc
    obtain ⟨dy,au⟩:=hc
    obtain ⟨i,z,dM,_,aU,_⟩:=j5 au
    cases hv with
    | list hp'=>
     cases hp' with
     | nil=>
      obtain ⟨a,u,h1,U,h3,h4⟩:=qs (n:=0) (isS:=true) (cap:=0) (ch _) iF gL m9 om h
      obtain rfl:=aN h4
      obtain rfl:u=0:=by omega
      obtain rfl:a=0:=by omega
      exact .same S (Dk hu dM h3) (by simpa using ao.list iw.nil)
     | @emp ad cap=>
      obtain ⟨a,u,h1,U,h3,h4⟩:=qs (n:=0) (isS:=true) (cap:=cap) (ko _) iF gL m9 om h
      obtain rfl:=aN h4
      obtain rfl:u=0:=by omega
      obtain rfl:a=0:=by omega
      refine .same S (v:= .slice (some ad) 0 cap) ?_ (by simpa using ao.list iw.emp)
      by_cases hc:cap=0
      ·subst hc
       simp[Instr.sliceAt,Instr.slice,run_underlying hu,h3,sizeOf,typeInfo,dM]
      ·simp[Instr.sliceAt,Instr.slice,run_underlying hu,h3,sizeOf,typeInfo,dM,hc,Addr.add]
     | @list b o len cap _ g hl bX hI fR hx=>
      obtain ⟨a,u,h1,U,h3,h4⟩:=qs (isS:=true) (cap:=cap) (by omega) iF gL m9 om h
      obtain rfl:=aN h4
      rw[hl] at U h3
      obtain ⟨o',jb,cS⟩:=HD (b:=b) (o:=o) hu dM (by omega) h3
      have gl:e=e':=dy
      refine .same S cS (.list ?_)
      rw[←gl]
      rw[←gl] at fR hx hI
      have hlen:((es.drop a).take (u-a)).length=u-a:=by simp;omega
      refine .list (fun i j=>g (a+i) j) hlen (by omega) (fun h=>hI (rk h (dr _ (by omega)))) (fun i j hi hj=> ?_) (fun i j y t' hy ht=> ?_)
      ·have:=fR (a+i) j (by omega) hj
       rw[df,nO,←nO o] at this
       rw[jb (by omega),aU]
       exact this
      ·have hi:i<u-a:=by rw[←hlen];exact (br.1 hy).1
       rw[eO hi,gR] at hy
       exact hx (a+i) j y t' hy ht
   case whole e' id=>
    obtain ⟨l,h⟩:=run_get h
    cases ab:hp id with
    | none=>rw[ab] at h;cases h
    | some blk=>
     rw[ab] at h
     cases blk<;>simp only at h<;>first|(cases h;done)|skip
     rename_i dt es fz
     obtain ⟨hc,h9⟩:=aF h
     clear h
     simp only[aK,aR] at hc
     obtain ⟨dy,iy,au⟩:=hc
     obtain ⟨i,z,dM,_,aU,_⟩:=j5 au
     cases hv with
     | dS hd=>rw[ab] at hd;cases hd
     | eb hd=>rw[ab] at hd;cases hd
     | dw hd hb=>
      rw[ab] at hd
      cases hd
      obtain ⟨a,u,h1,U,h3,h4⟩:=qs (n:=0) (isS:=true) (cap:=0) (ch _) iF gL m9 om h9
      obtain rfl:=aN h4
      obtain rfl:u=0:=by omega
      obtain rfl:a=0:=by omega
      exact .same S (Dk hu dM h3) (.fA ab hb)
     | @whole _ _ aH mR b cap hd hb zq bX hm=>
      have eo:=hd
      rw[ab] at hd
      cases hd
      obtain ⟨a,u,h1,U,h3,h4⟩:=qs (isS:=true) (cap:=cap) bX iF gL m9 om h9
      obtain rfl:=aN h4
      obtain ⟨o',jb,cS⟩:=HD (b:=b) (o:=0) hu dM (by omega) h3
      have gl:e=e':=dy
      exact .same S cS (.sub eo hb (by omega) (by omega) (fun h=>by rw[jb h,aU,gl,ga]))
   case sub e' id off len=>
    obtain ⟨l,h⟩:=run_get h
    cases ab:hp id with
    | none=>rw[ab] at h;cases h
    | some blk=>
     rw[ab] at h
     cases blk<;>simp only at h<;>first|(cases h;done)|skip
     rename_i dt es fz
     obtain ⟨hc,h⟩:=aF h
     simp only[aK,aR] at hc
     obtain ⟨dy,iy,au⟩:=hc
     obtain ⟨i,z,dM,_,aU,_⟩:=j5 au
     cases hv with
     | fQ hd=>rw[ab] at hd;cases hd
     | fA hd hb=>
      have eo:=hd
      obtain ⟨a,u,h1,U,h3,h4⟩:=qs (isS:=true) (cap:=0) (ch _) iF gL m9 om h
      obtain rfl:=aN h4
      obtain rfl:u=0:=by omega
      obtain rfl:a=0:=by omega
      exact .same S (Dk hu dM h3) (.fA eo hb)
     | @sub _ _ _ _ aH mR b o cap hd hb kB bX ho=>
      have eo:=hd
      obtain ⟨a,u,h1,U,h3,h4⟩:=qs (isS:=true) (cap:=cap) bX iF gL m9 om h
      obtain rfl:=aN h4
      obtain ⟨o',jb,cS⟩:=HD (b:=b) (o:=o) hu dM (by omega) h3
      have gl:e=e':=dy
      exact .same S cS (.sub eo hb (by omega) (by omega) (fun h=>by rw[jb h,aU,ho (by omega),gl,df]))
theorem WM (S:aE P w I β hp B M w0) {t:TypeId} {v:Value} {x:V} {lo hi mx:Option V} {lov hiv MY:Option Value} {r:R} {rd:List Nat} (hv:ao P w I β hp v x)
  (iF:lo=none→lov=none) (gL: ∀y,hi=some y→∃u,hiv=some u∧ao P w I β hp u y) (oc: ∀y,mx=some y→∃u,MY=some u∧ao P w I β hp u y)
  (h:(GG P t x lo hi mx).run C hp=some (r,rd)):cU P ((Instr.sliceAt t v lov hiv MY).run P w) w I β hp B M w0 r:=by
 unfold GG at h
 cases hu:P.underlying t with
 | none=>rw[hu] at h;cases h
 | some d=>
  rw[hu] at h
  cases d<;>(try (cases h;done))
  rename_i e
  cases lo<;>(try (cases h;done))
  cases hi<;>(try (cases h;done))
  rename_i vY
  cases vY<;>(try (cases h;done))
  cases mx<;>(try (cases h;done))
  rename_i WN
  cases WN<;>(try (cases h;done))
  obtain ⟨hc,h9⟩:=aF h
  clear h
  have h:=h9
  clear h9
  simp only[aK,dH] at hc
  obtain ⟨rfl,rfl,au⟩:=hc
  obtain ⟨i,z,dM,_,_,_⟩:=j5 au
  obtain ⟨u1,rfl,k1⟩:=gL _ rfl
  obtain ⟨u2,rfl,k2⟩:=oc _ rfl
  rw[k1.dL,k2.dL,iF rfl]
  have run: ∀{k k2:IntKind} (a:Option Addr) (len cap:Nat),(Instr.sliceAt t (.slice a len cap) none (some (.int k 0)) (some (.int k2 0))).run P w= .ok (.slice a 0 0) w:=by
   intro k k2 a len cap
   cases a<;>simp[Instr.sliceAt,Instr.slice,Instr.sliceBounds,Instr.sliceBound,asIntOf,run_underlying hu,sizeOf,typeInfo,dM]
  cases x<;>(try (cases h;done))
  ·simp only at h
   obtain rfl:=aN h
   cases hv with
   | list hp'=>cases hp'<;>exact .same S (run _ _ _) .nilS
  ·simp only at h
   obtain rfl:=aN h
   cases hv
   exact .same S (run _ _ _) .nilS
  ·rename_i e' id
   simp only at h
   obtain ⟨l,h⟩:=run_get h
   cases ab:hp id with
   | none=>rw[ab] at h;cases h
   | some blk=>
    rw[ab] at h
    cases blk<;>simp only at h<;>first|(cases h;done)|skip
    all_goals
     obtain rfl:=aN h
     cases hv with
     | dS hd=>rw[ab] at hd;cases hd
     | eb hd=>exact .same S (run _ _ _) .nilS
     | dw hd hb=>exact .same S (run _ _ _) .nilS
     | whole hd=>exact .same S (run _ _ _) .nilS
theorem WO (S:aE P w I β hp B M w0) {t:TypeId} {v ix:Value} {x y:V} {r:R} {rd:List Nat} (hv:ao P w I β hp v x) (hy:ao P w I β hp ix y)
  (h:(GJ P t x y).run C hp=some (r,rd)):cU P ((Instr.indexAt t v ix).run P w) w I β hp B M w0 r:=by
 unfold GJ at h
 cases hu:P.underlying t with
 | none=>rw[hu] at h;cases h
 | some d=>
  rw[hu] at h
  cases y<;>(try (cases d<;>cases h;done))
  rename_i k i
  rw[hy.dL]
  cases d<;>simp only at h<;>first|(cases h;done)|skip
  case slice e=>
   have run: ∀(b o len cap:Nat) (ie:TypeInfo),P.info? e=some ie→0≤i→i<(len:Int)→(Instr.indexAt t (.slice (some ⟨b,o,none⟩) len cap) (.int k i)).run P w= .ok (.pointer (some ⟨b,o+i.toNat*ie.size,none⟩)) w:=by
    intro b o len cap ie jz h0 h1
    simp[Instr.indexAt,asIntOf,run_underlying hu,h0,h1,sizeOf,typeInfo,jz,mY]
   cases x<;>simp only at h<;>first|(cases h;done)|skip
   case list e' es=>
    obtain ⟨hc,h⟩:=aF h
    simp only[aK,aR] at hc
    obtain ⟨dy,au⟩:=hc
    have gl:e=e':=dy
    obtain ⟨ie,z,dM,_,aU,_⟩:=j5 au
    obtain ⟨el,cN,h⟩:=lf h
    obtain rfl:=aN h
    unfold idx at cN
    cases h0:decide (0≤i) with
    | false=>rw[h0] at cN;cases cN
    | true=>
     rw[h0] at cN
     simp only[cond_true] at cN
     have vZ:0≤i:=by simpa using h0
     have aP:i.toNat<es.length:=(br.1 cN).1
     cases hv with
     | list hp'=>
      cases hp' with
      | nil=>simp at aP
      | emp=>simp at aP
      | @list b o len cap _ g hl bX hI fR hx=>
       rw[←gl] at fR hx hI
       refine .same S (run b o len cap ie dM vZ (by omega)) ?_
       have bZ:=vL (P:=P) e el
       have HE:=fi au
       have MZ:(bif bE P e then flat P e else [e])=aS P e:=rfl
       rw[MZ]
       refine .pref (by rw[bZ]) (fun _=>hI ?_) (fun j t' y' ht zb=> ?_)
       ·have:=Nat.mul_pos (show 0<len by omega) (jY au).2
        exact this
       ·obtain ⟨t2,a1,a2⟩:=G8 zb
        rw[ht] at a1;cases a1
        have hj:j<P.cellsOf e:=by rw[←HE];exact (br.1 ht).1
        have gF:=hx i.toNat j el t' cN ht
        refine ⟨g i.toNat j,?_,?_⟩
        ·rw[aU,nO];exact fR i.toNat j (by omega) hj
        ·rw[a2,gF.rQ];exact gF
   case whole e' id=>
    obtain ⟨l,h⟩:=run_get h
    cases ab:hp id with
    | none=>rw[ab] at h;cases h
    | some blk=>
     rw[ab] at h
     cases blk<;>simp only at h<;>first|(cases h;done)|skip
     rename_i dt es fz
     obtain ⟨hc,h⟩:=aF h
     simp only[aK,aR] at hc
     obtain ⟨dy,iy⟩:=hc
     obtain ⟨ep,h⟩:=aF h
     simp only[aK,dH] at ep
     obtain rfl:=aN h
     cases hv with
     | dS hd=>rw[ab] at hd;cases hd
     | eb hd=>rw[ab] at hd;cases hd
     | dw hd hb=>rw[ab] at hd;cases hd;simp at ep;omega
     | @whole _ _ aH mR b cap hd hb zq bX hm=>
      have eo:=hd
      rw[ab] at hd
      cases hd
      have hr:=S.h.rel id _ ab
      cases hr with
      | dx az=>rw[az] at hb;cases hb
      | arr au az hh hs hf dU hx=>
       have gl:e=e':=dy
       obtain ⟨ie,z,dM,_,aU,_⟩:=j5 au
       rw[←gl] at dM aU
       refine .same S (run b 0 _ cap ie dM ep.1 ep.2) ?_
       have:=ao.ptr (P:=P) (w:=w) (I:=I) (i:=i.toNat) (c:=0) eo (by simp) hb
       simp only[an.sz] at this
       rw[ga,aU,gl]
       simpa using this
     rename_i dt es aq
     obtain ⟨hc,h⟩:=aF h
     simp only[aK,aR] at hc
     obtain ⟨dy,iy⟩:=hc
     obtain ⟨ep,h⟩:=aF h
     simp only[aK,dH] at ep
     obtain rfl:=aN h
     cases hv with
     | dS hd=>rw[ab] at hd;cases hd
     | dw hd hb=>rw[ab] at hd;cases hd
     | whole hd=>rw[ab] at hd;cases hd
     | @eb _ _ aH vers' b cap hd hb zq bX hm=>
      have eo:=hd
      rw[ab] at hd
      cases hd
      have au:=(S.rows eo hb .here).ok
      have gl:e=e':=dy
      obtain ⟨ie,z,dM,_,aU,_⟩:=j5 au
      rw[←gl] at dM aU
      refine .same S (run b 0 _ cap ie dM ep.1 ep.2) ?_
      have:=ao.ptr (P:=P) (w:=w) (I:=I) (i:=i.toNat) (c:=0) eo (by simp) hb
      simp only[an.sz] at this
      rw[ga,aU,gl]
      simpa using this
   case row e' id ver path=>
    obtain ⟨e0,es,aq,l,ab,h1,U,h3,h⟩:=oa h
    obtain ⟨e2,v',k1,k2,h⟩:=vF h
    obtain ⟨hc,h⟩:=aF h
    simp only[aK,aR] at hc
    obtain ⟨dy,iy⟩:=hc
    obtain ⟨ep,h⟩:=aF h
    simp only[aK,dH] at ep
    obtain rfl:=aN h
    cases hv with
    | jt hd hp'=>rw[ab] at hd;cases hd;exact absurd hp' (vG h1 U h3)
    | @row v _ e0 t1 _ ver b i1 c1 q es l1 aq hd hb hq Hl ht fR=>
     have WQ:=fR
     obtain ⟨b',e3,aH,Ca,T,f,x,m1,m2,m3,m4,m5,m6⟩:=fR
     have iB:=hd
     rw[ab] at iB
     cases iB
     obtain ⟨n1,n2⟩:=CM m1 m3 m4 ht m5
     rw[n2] at k2
     cases k2
     simp only[V.toList] at ep
     have hR:=S.rows hd hb m1
     obtain ⟨C1,c2,c3,c4⟩:=hR.cells
     rw[m2] at c2
     cases c2
     have hj:c1<P.cellsOf e3:=by
      rw[←fi hR.ok];exact (br.1 m4).1
     obtain ⟨v2,d1,d2⟩:=c4 _ _ _ _ m3 m4 hj
     rw[m6] at d1
     cases d1
     rw[m5] at d2
     cases d2 with
     | fy a _=>unfold fv at a;rw[ht] at a;cases a
     | emp _ _=>simp at ep;omega
     | @row _ _ b1 cap _ hl _ _ _=>
      have au:=(S.rows hd hb (m1.snoc m2 m3 m4 ht m5 hl m6)).ok
      have gl:e=e':=dy
      obtain ⟨ie,z,dM,_,aU,_⟩:=j5 au
      rw[←gl] at dM aU
      refine .same S (run b1 0 _ cap ie dM ep.1 ep.2) ?_
      have:=ao.cA (P:=P) (I:=I) (i:=i.toNat) (c:=0) hd hb hq Hl ht hl WQ
      rw[ga,aU,gl]
      simpa using this
   case sub e' id off len=>
    obtain ⟨l,h⟩:=run_get h
    cases ab:hp id with
    | none=>rw[ab] at h;cases h
    | some blk=>
     rw[ab] at h
     cases blk<;>simp only at h<;>first|(cases h;done)|skip
     rename_i dt es fz
     obtain ⟨hc,h⟩:=aF h
     simp only[aK,aR] at hc
     obtain ⟨dy,iy⟩:=hc
     obtain ⟨ep,h⟩:=aF h
     simp only[aK,dH] at ep
     obtain rfl:=aN h
     cases hv with
     | fQ hd=>rw[ab] at hd;cases hd
     | fA hd hb=>simp at ep;omega
     | @sub _ _ _ _ aH mR b o cap hd hb kB bX ho=>
      have eo:=hd
      rw[ab] at hd
      cases hd
      have hr:=S.h.rel id _ ab
      cases hr with
      | dx az=>rw[az] at hb;cases hb
      | arr au az hh hs hf dU hx=>
       have gl:e=e':=dy
       obtain ⟨ie,z,dM,_,aU,_⟩:=j5 au
       rw[←gl] at dM aU
       refine .same S (run b o _ cap ie dM ep.1 ep.2) ?_
       have:=ao.ptr (P:=P) (w:=w) (I:=I) (i:=off+i.toNat) (c:=0) eo (by simp) hb
       simp only[an.sz] at this
       rw[ho (by omega),aU,gl,←df]
       simpa using this
  case array n e=>
   have run: ∀(b o:Nat) (ie:TypeInfo),P.info? e=some ie→0≤i→i<(n:Int)→(Instr.indexAt t (.pointer (some ⟨b,o,none⟩)) (.int k i)).run P w= .ok (.pointer (some ⟨b,o+i.toNat*ie.size,none⟩)) w:=by
    intro b o ie jz h0 h1
    simp[Instr.indexAt,asIntOf,run_underlying hu,h0,h1,sizeOf,typeInfo,jz,mY,Instr.sureAddr]
   cases x<;>simp only at h<;>first|(cases h;done)|skip
   case ptr id j c=>
    obtain ⟨⟨blk,ab,hd⟩,l,h⟩:=vJ h
    obtain ⟨ep,h⟩:=aF h
    simp only[aK,dH] at ep
    obtain rfl:=aN h
    obtain ⟨b,hb,rfl⟩:=hv.gH ab hd
    obtain ⟨d,tC⟩:=ze ep.1
    obtain ⟨ie,jz⟩:=vK tC
    have aU:ie.size=P.cellsOf e:=by simp[Program.cellsOf,jz]
    refine .same S (run b _ ie jz ep.2.1 ep.2.2) ?_
    rw[aU,nO]
    exact .ptr ab hd hb
   case pref ts cs=>
    obtain ⟨ep,h⟩:=aF h
    simp only[aK,dH] at ep
    obtain rfl:=aN h
    obtain ⟨b,o,rfl,h1,U,h3⟩:=hv.CU
    obtain ⟨d,tC⟩:=ze ep.1
    obtain ⟨ie,jz⟩:=vK tC
    have aU:ie.size=P.cellsOf e:=by simp[Program.cellsOf,jz]
    refine .same S (run b _ ie jz ep.2.1 ep.2.2) ?_
    rw[aU]
    exact ao.Mk h1 U h3
end
end Go.AM
namespace Go.AM
open Go.Maps
section
variable {P:Program} {w w':World} {I I':Nat→Prop} {β β':Nat→Option Nat} {hp hp':Nat→Option an} {C:ag} {B:Nat} {M:Nat→Prop} {w0:Start}
theorem WR (S:aE P w I β hp B M w0) {nb:Nat} {t:TypeId} {v:Value} {x:V} {lo hi:Option V} {lov hiv:Option Value} {r:R} {rd:List Nat} (hv:ao P w I β hp v x)
  (gL: ∀x,hi=some x→∃v,hiv=some v∧ao P w I β hp v x) (m9:lo=none→lov=none)
  (h:(Cw P nb t x lo hi).run C hp=some (r,rd)):cU P ((Instr.sliceAt t v lov hiv none).run P w) w I β hp B M w0 r:=by
 unfold Cw at h
 split at h
 case h_2=>cases h
 rename_i e e' id k hh hu
 obtain ⟨l,h1⟩:=run_get h
 cases ab:hp id with
 | none=>rw[ab] at h1;cases h1
 | some blk=>
  rw[ab] at h1
  cases blk<;>simp only at h1<;>first|(cases h1;done)|skip
  rename_i e2 es fz
  cases fz with
  | true=>cases h1
  | false=>
  obtain ⟨hc,U⟩:=aF h1
  simp only[aK,aR,dH] at hc
  obtain ⟨rfl,rfl,au,M0,M1⟩:=hc
  obtain ⟨hn,rfl⟩:=m7 U
  have iF:=m9 rfl
  subst iF
  obtain ⟨HF,rfl,WS⟩:=gL _ rfl
  obtain rfl:=WS.dL
  obtain ⟨i,z,dM,_,aU,_⟩:=j5 au
  have bu:nb≠id:=fun e=>by rw[e,ab] at hn;cases hn
  obtain ⟨k1,k2⟩:=CQ S ab
  have j6:aG hp id (some an.dead) nb=none:=by rw[dV _ _ bu];exact hn
  have M3: ∀cap,es.length≤cap→(Instr.sliceBounds true es.length cap none (some (.int k hh)) none).run P w= .ok (0,hh.toNat,cap) w:=by
   intro cap bX
   have hb:(rG es.length none (some (.int k hh)) fun l u=> .aB (decide (l=0∧u=hh.toNat)) (.ret (⟨.undef,[]⟩:R))).run C hp=some (⟨.undef,[]⟩,[]):=by
    simp[rG,Rd.run,M0,M1]
   obtain ⟨l,u,b1,b2,b3,b4⟩:=qs (P:=P) (w:=w) (I:=I) (β:=β) (hp:=hp) (n:=es.length) (isS:=true) (cap:=cap) (lov:=none) (hiv:=some (.int k hh)) bX (by simp) (fun x hx=>by cases hx;exact ⟨_,rfl,.int⟩) (fun _=>rfl) (by simp) hb
   obtain ⟨b5,_⟩:=aF b4
   simp only[dH] at b5
   obtain ⟨rfl,rfl⟩:=b5
   exact b3
  cases hv with
  | dS hd=>rw[ab] at hd;cases hd
  | eb hd=>rw[ab] at hd;cases hd
  | @dw _ _ _ a0 hd hb=>
   rw[ab] at hd
   cases hd
   have He:hh=0:=by simpa using Int.le_antisymm M1 M0
   subst He
   have az:=M3 0 (ch _)
   obtain ⟨a1,a2⟩:=CP k2 e j6
   refine ⟨_,w,I,_,Dk hu dM az,k1.trans a1,a2,.dw (cR _ _ _) (cR _ _ _)⟩
  | @whole _ _ aH mR b cap hd hb zq bX hm=>
   have eo:=hd
   rw[ab] at hd
   cases hd
   have hr:=S.h.rel id _ ab
   cases hr with
   | dx az=>rw[az] at hb;cases hb
   | @arr _ _ _ b' Ca _ az Dl o9 hf dU l8=>
    rw[hb] at az
    cases az
    have jc:(es.take hh.toNat).length=hh.toNat:=by rw[ft];omega
    have cS:(Instr.sliceAt t (.slice (some ⟨b,0,none⟩) es.length cap) none (some (.int k hh)) none).run P w= .ok (.slice (some ⟨b,0,none⟩) hh.toNat cap) w:=by
     have az:=M3 cap bX
     by_cases M4:cap=0
     ·subst M4
      simp[Instr.sliceAt,Instr.slice,run_underlying hu,az,sizeOf,typeInfo,dM]
     ·simp[Instr.sliceAt,Instr.slice,run_underlying hu,az,sizeOf,typeInfo,dM,M4,mY]
    have qe: ∀aC blk',aG hp id (some an.dead) aC=some blk'→¬bt P w (β aC) blk' b:=by
     intro aC blk' h1 U
     by_cases iE:aC=id
     ·subst iE;rw[cR] at h1;cases h1;exact U.alive rfl
     ·rw[dV _ _ iE] at h1
      exact iE (S.h.inj aC id blk' _ b h1 ab U (.root (by simp) hb))
    obtain ⟨a1,a2⟩:=za k2 (blk:= .arr e (es.take hh.toNat) false) (w':=w) j6 qe (dU rfl) (fun _ _ _=>rfl) (ch _) ⟨rfl,rfl⟩ (S.h.rM id _ b ab (by simp) hb)
     (fun b' h=>(cY (h.flat (by simp))).symm) (fun hle=> .arr au rfl Dl (by rw[jc];exact lN (dr _ (by omega)) o9) (fun h=>by cases h) (fun _=>dU rfl) fun i j y t' hy ht hj=>by
      have qq:=(br.1 hy).1
      rw[jc] at qq
      rw[eO qq] at hy
      obtain ⟨v,hv,hp⟩:=l8 i j y t' hy ht hj
      exact ⟨v,hv,hp.mono hle.c9 hle.b8⟩)
    refine ⟨_,w,I,_,cS,k1.trans a1,a2,?_⟩
    have:=ao.whole (P:=P) (w:=w) (I:=I) (β:=aG β nb (some b)) (hp:=aG (aG hp id (some .dead)) nb (some (.arr e (es.take hh.toNat) false))) (cap:=cap) (cR _ _ _) (cR _ _ _) zq (by rw[jc];omega) hm
    rw[jc] at this
    exact this
theorem qt {t:TypeId} {x:V} (h:oS P t x=true):
  (∃q n,P.underlying t=some (.int q)∧x= .int q n∧GA q n=true)∨(∃b,P.underlying t=some .bool∧x= .bool b)∨(∃s,P.underlying t=some .string∧x= .str s∧s.length≤maxLen):=by
 unfold oS at h
 split at h
 ·rename_i q q' n hu
  simp only[aK,dH] at h
  obtain ⟨rfl,h⟩:=h
  exact .inl ⟨_,_,hu,rfl,h⟩
 ·rename_i b hu
  exact .inr (.inl ⟨_,hu,rfl⟩)
 ·rename_i s hu
  exact .inr (.inr ⟨_,hu,rfl,by simpa using h⟩)
 ·cases h
theorem size_data (s:ByteArray):s.data.toList.length=s.size:=by simp
theorem WU {q:IntKind} {n:Int} (h:GA q n=true):(Lit.int q n).wf=true:=h
theorem M5 {t:TypeId} {x:V} {v:Value} (h:oS P t x=true) (hv:iZ v x): ∃l,mapKey P t v=some l∧∀d,P.keyLits (d+1) t [v]=some [l]:=by
 rcases qt h with ⟨q,n,hu,rfl,hn⟩|⟨b,hu,rfl⟩|⟨s,hu,rfl,hs⟩
 ·obtain rfl:v= .int q n:=hv
  have hw:=WU hn
  exact ⟨.int q n,by simp[mapKey,hu,hw],fun d=>by simp[Program.keyLits,hu,hw]⟩
 ·obtain rfl:v= .bool b:=hv
  exact ⟨.bool b,by simp[mapKey,hu],fun d=>by simp[Program.keyLits,hu]⟩
 ·obtain ⟨s',rfl,HG⟩:=hv
  have:s'.size≤maxLen:=by rw[←size_data,HG];exact hs
  exact ⟨.string s'.data.toList,by simp[mapKey,hu,this],fun d=>by simp[Program.keyLits,hu,this]⟩
theorem HH {t:TypeId}: ∀{xs:List V} {j:Nat} {x:V},pU P t xs=true→xs[j]? =some x→oS P t x=true
 | [],j,x,_,h=>by simp at h
 | y::ys,0,x,h,hx=>by
  simp only[pU,aK] at h
  simp at hx;subst hx;exact h.1
 | y::ys,j+1,x,h,hx=>by
  simp only[pU,aK] at h
  exact HH (j:=j) h.2 (by simpa using hx)
theorem mapM_some {α β:Type} {f:α→Option β}: ∀{l:List α},(∀a∈l,∃b,f a=some b)→∃bs,l.mapM f=some bs
 | [],_=>⟨[],rfl⟩
 | a::l,h=>by
  obtain ⟨b,hb⟩:=h a (ru ..)
  obtain ⟨bs,gG⟩:=mapM_some (l:=l) fun x hx=>h x (kX _ hx)
  exact ⟨b::bs,by simp[List.mapM_cons,hb,gG]⟩
inductive HI (P:Program) (t:TypeId) (x:V):Prop
 | one:oS P t x=true→x.cells=[x]→HI P t x
 | arr {n:Nat} {e:TypeId} {xs:List V}:x= .agg xs→WideMaps.ArrKey P t e n→xs.length=n→0<P.types.size→pU P e xs=true→HI P t x
theorem v5 {t:TypeId} {x:V} (h:mQ P t x=true):HI P t x:=by
 unfold mQ at h
 split at h
 ·rename_i n e xs hu
  simp only[aK,aR] at h
  rw[jN] at h
  exact .arr rfl ⟨hu,h.2.2.2.1,h.2.1,h.2.2.1⟩ h.1 h.2.2.2.2.1 h.2.2.2.2.2
 ·refine .one h ?_
  rcases qt h with ⟨q,n,hu,rfl,hn⟩|⟨b,hu,rfl⟩|⟨s,hu,rfl,hs⟩<;>rfl
theorem p7.one {x:V} {v:Value} (h:p7 v x) (hx:x.cells=[x]):iZ v x:=by
 cases x<;>first|exact h|skip
 simp only[V.cells] at hx
 rename_i cs
 have:=congrArg List.length hx
 cases cs with
 | nil=>simp at hx
 | cons c cs=>
  simp only[List.cons.injEq] at hx
  have:=congrArg SizeOf.sizeOf hx.1
  simp at this
  omega
theorem Dm {t:TypeId} {x:V} {v:Value} (h:mQ P t x=true) (hv:p7 v x): ∃l,Go.keyOf P t v=some l:=by
 cases v5 h with
 | one h1 hx=>
  obtain ⟨l,hl,_⟩:=M5 h1 (hv.one hx)
  refine ⟨l,?_⟩
  rcases qt h1 with ⟨q,n,hu,_⟩|⟨b,hu,_⟩|⟨s,hu,_⟩<;>simp only[Go.keyOf,hu,hl]
 | @arr n e xs hx A hl hp0 hf=>
  subst hx
  obtain ⟨cs,rfl,hs,hc⟩:=hv
  obtain ⟨m,hm⟩: ∃m,P.types.size=m+1:=⟨P.types.size-1,by omega⟩
  have WV:=A.keyType ⟨m,hm⟩
  have hlen:cs.toList.length=P.cellsOf t:=by rw[A.size];simp[hs,hl]
  have WW:(Value.agg cs).formed P t=true:=by simp[Value.formed,A.hu,A.size,hs,hl]
  have hex: ∀i∈List.range n,∃y,P.keyLits (m+1) e (((Value.agg cs).cells.toList.drop (i*P.cellsOf e)).take (P.cellsOf e))=some y:=by
   intro i hi
   have hi:=List.mem_range.1 hi
   rw[A.one]
   have fU:i<cs.size:=by omega
   have bY:i<xs.length:=by omega
   obtain ⟨l,_,U⟩:=M5 (HH hf (bz bY)) (hc i cs[i] xs[i] (kp fU) (bz bY))
   have e1:((Value.agg cs).cells.toList.drop (i*1)).take 1=[cs[i]]:=by
    show (cs.toList.drop (i*1)).take 1=_
    rw[mK,List.drop_eq_getElem_cons (by simpa using fU)]
    simp
   rw[e1]
   exact ⟨_,U m⟩
  obtain ⟨bs,gG⟩:=mapM_some hex
  refine ⟨.string (keyBytes bs.flatten),?_⟩
  have WX:(Value.agg cs).cells.toList.length=P.cellsOf t:=hlen
  unfold Go.keyOf
  rw[A.hu]
  simp only[WV,WW,Bool.and_self,dj]
  unfold Program.keyLits
  rw[A.hu,hm]
  simp only[WX,dj,gG,Option.map_some]
theorem HJ {t:TypeId} {x:V} (h:mQ P t x=true):Keyed P t:=by
 cases v5 h with
 | one h1 hx=>
  rcases qt h1 with ⟨q,n,hu,_⟩|⟨b,hu,_⟩|⟨s,hu,_⟩
  ·exact int_keyed hu
  ·exact bool_keyed hu
  ·exact string_keyed hu
 | arr hx A hl _ hf=>exact Keyed.of_law A.law
theorem M6 {t:TypeId} {x y:V} {v u:Value} (h1:oS P t x=true) (U:oS P t y=true) (hv:iZ v x) (hu:iZ u y):vn x y=true↔v=u:=by
 rcases qt h1 with ⟨q,n,l9,rfl,_⟩|⟨b,l9,rfl⟩|⟨s,l9,rfl,_⟩<;>
 rcases qt U with ⟨q',n',ma,rfl,_⟩|⟨b',ma,rfl⟩|⟨s',ma,rfl,_⟩<;>
  (rw[l9] at ma;cases ma)
 ·obtain rfl:v= .int q n:=hv
  obtain rfl:u= .int q n':=hu
  simp[vn]
 ·obtain rfl:v= .bool b:=hv
  obtain rfl:u= .bool b':=hu
  simp[vn]
 ·obtain ⟨s1,rfl,e1⟩:=hv
  obtain ⟨s2,rfl,e2⟩:=hu
  simp only[vn,rv,Value.string.injEq,←e1,←e2]
  constructor
  ·intro h
   have:=Array.toList_inj.1 h
   cases s1;cases s2;simp_all
  ·rintro rfl;rfl
theorem M7 {t:TypeId}: ∀{xs ys:List V} {vs us:List Value},pU P t xs=true→pU P t ys=true→xs.length=ys.length→vs.length=xs.length→us.length=ys.length→
  (∀(j:Nat) v x,vs[j]? =some v→xs[j]? =some x→iZ v x)→(∀(j:Nat) v x,us[j]? =some v→ys[j]? =some x→iZ v x)→(sZ xs ys=true↔vs=us)
 | [],[],vs,us,_,_,_,h1,U,_,_=>by
  have e1:=kW (l:=vs) (by simpa using h1)
  have e2:=kW (l:=us) (by simpa using U)
  simp[sZ,e1,e2]
 | [],_::_,_,_,_,_,h,_,_,_,_=>by simp at h
 | _::_,[],_,_,_,_,h,_,_,_,_=>by simp at h
 | x::xs,y::ys,[],us,_,_,_,h,_,_,_=>by simp at h
 | x::xs,y::ys,v::vs,[],_,_,_,_,h,_,_=>by simp at h
 | x::xs,y::ys,v::vs,u::us,f1,f2,h,h1,U,r1,r2=>by
  simp only[pU,aK] at f1 f2
  have a:=M6 f1.1 f2.1 (r1 0 v x rfl rfl) (r2 0 u y rfl rfl)
  have b:=M7 (vs:=vs) (us:=us) f1.2 f2.2 (by simpa using h) (by simpa using h1) (by simpa using U) (fun j v x hj hx=>r1 (j+1) v x (by simpa using hj) (by simpa using hx)) (fun j v x hj hx=>r2 (j+1) v x (by simpa using hj) (by simpa using hx))
  simp only[sZ,aK,a,b,List.cons.injEq]
theorem HK {t:TypeId} {x y:V} {v u:Value} (h1:mQ P t x=true) (U:mQ P t y=true) (hv:p7 v x) (hu:p7 u y):lS x y=true↔v=u:=by
 unfold lS
 cases v5 h1 with
 | one f1 c1=>
  cases v5 U with
  | one f2 c2=>
   rw[c1,c2]
   simp only[sZ,Bool.and_true]
   exact M6 f1 f2 (hv.one c1) (hu.one c2)
  | arr hy A hl _ hf=>
   rcases qt f1 with ⟨q,n,l9,_⟩|⟨b,l9,_⟩|⟨s,l9,_⟩<;>(rw[A.hu] at l9;cases l9)
 | arr hx A hl _ hf=>
  cases v5 U with
  | one f2 c2=>
   rcases qt f2 with ⟨q,n,l9,_⟩|⟨b,l9,_⟩|⟨s,l9,_⟩<;>(rw[A.hu] at l9;cases l9)
  | arr hy A2 jP _ HL=>
   have gl:=A.hu.symm.trans A2.hu
   cases gl
   subst hx
   subst hy
   obtain ⟨cs,rfl,s1,r1⟩:=hv
   obtain ⟨ds,rfl,s2,r2⟩:=hu
   have:=M7 (vs:=cs.toList) (us:=ds.toList) hf HL (by omega) (by simpa using s1) (by simpa using s2) (fun j v x hj hx=>r1 j v x (by simpa using hj) hx) (fun j v x hj hx=>r2 j v x (by simpa using hj) hx)
   simp only[V.cells,this,Value.agg.injEq]
   exact Array.toList_inj
theorem M8 {k:V}: ∀{es:List V},(∀x∈es,lS k (x.comp 0)=false)→k9 k es=false∧(∀z,lT k es z=z)∧∀v,im k v es=es++[.bd [k,v]]
 | [],_=>⟨rfl,fun _=>rfl,fun _=>rfl⟩
 | e::es,h=>by
  have h0:=h e (ru ..)
  obtain ⟨a,b,c⟩:=M8 (k:=k) (es:=es) fun x hx=>h x (kX _ hx)
  exact ⟨by simp[k9,h0,a],fun z=>by simp[lT,h0,b],fun v=>by simp[im,h0,c]⟩
theorem M9 {k:V}: ∀{es:List V} {j:Nat} {k' y:V},es[j]? =some (.bd [k',y])→lS k k'=true→(∀i x,i<j→es[i]? =some x→lS k (x.comp 0)=false)→
  k9 k es=true∧(∀z,lT k es z=y)∧∀v,im k v es=es.set j (.bd [k',v])
 | [],j,k',y,h,_,_=>by simp at h
 | e::es,0,k',y,h,he,_=>by
  simp at h
  subst h
  exact ⟨by simp[k9,V.comp,V.nth,he],fun z=>by simp[lT,V.comp,V.nth,he],fun v=>by simp[im,V.comp,V.nth,he]⟩
 | e::es,j+1,k',y,h,he,aP=>by
  have h0:=aP 0 e (by omega) rfl
  obtain ⟨a,b,c⟩:=M9 (k:=k) (es:=es) (j:=j) (by simpa using h) he fun i x hi hx=>aP (i+1) x (by omega) (by simpa using hx)
  exact ⟨by simp[k9,h0,a],fun z=>by simp[lT,h0,b],fun v=>by simp[im,h0,c]⟩
theorem Na {kt vt:TypeId} {E:Array MapEntry} {es:List V} {k:V} {kv:Value} (hs:E.size=es.length) (hx: ∀(j:Nat) (e:MapEntry) (x:V),E[j]? =some e→es[j]? =some x→CH P kt vt e x)
  (hn:E.toList.Pairwise (fun a b=>a.key≠b.key)) (hk:mQ P kt k=true) (Dn:p7 kv k) (w:World):
  ((Instr.findKey kt kv E.toList).run P w= .ok none w∧(∀e∈E.toList,e.key≠kv)∧k9 k es=false∧(∀z,lT k es z=z)∧∀v,im k v es=es++[.bd [k,v]])∨
  ∃j e k' y,(Instr.findKey kt kv E.toList).run P w= .ok (some (j,e.val)) w∧E[j]? =some e∧e.key=kv∧es[j]? =some (.bd [k',y])∧mQ P kt k'=true∧p7 kv k'∧eG P vt y=true∧iZ e.val y∧
   k9 k es=true∧(∀z,lT k es z=y)∧∀v,im k v es=es.set j (.bd [k',v]):=by
 have K:=HJ hk
 obtain ⟨l,hl⟩:=Dm hk Dn
 have Nb: ∀(j:Nat) x,es[j]? =some x→∃e,E[j]? =some e∧CH P kt vt e x:=by
  intro j x hj
  have aP:j<E.size:=by rw[hs];exact (br.1 hj).1
  exact ⟨E[j],kp aP,hx j _ x (kp aP) hj⟩
 have keys: ∀e∈E.toList,∃l,Go.keyOf P kt e.key=some l:=by
  intro e he
  obtain ⟨j,hj⟩:=rq he
  have gj:E[j]? =some e:=by simpa using hj
  have aP:j<es.length:=by rw[←hs];exact (gS.1 gj).1
  obtain ⟨k',y,_,h1,U,_⟩:=hx j e es[j] gj (bz aP)
  exact Dm h1 U
 rcases K.find w hl E.toList keys with ⟨h1,U⟩|⟨j,e,h1,U,h3⟩
 ·left
  refine ⟨h1,U,M8 fun x WY=> ?_⟩
  obtain ⟨j,hj⟩:=rq WY
  obtain ⟨e,he,k',y,rfl,f1,f2,_⟩:=Nb j x hj
  cases hq:lS k (V.comp (.bd [k',y]) 0) with
  | false=>rfl
  | true=>
   have:=(HK hk f1 Dn f2).1 hq
   exact absurd this.symm (U e (jq (by simpa using he)))
 ·right
  have hE:E[j]? =some e:=by simpa using U
  have aP:j<es.length:=by rw[←hs];exact (gS.1 hE).1
  obtain ⟨k',y,hy,f1,f2,f3,f4⟩:=hx j e es[j] hE (bz aP)
  have hj:=bz aP
  rw[hy] at hj
  rw[h3] at f2
  refine ⟨j,e,k',y,h1,hE,h3,hj,f1,f2,f3,f4,M9 hj ((HK hk f1 Dn f2).2 rfl) fun i x hi gh=> ?_⟩
  obtain ⟨e',gI,k2,y2,rfl,g1,g2,_⟩:=Nb i x gh
  cases hq:lS k (V.comp (.bd [k2,y2]) 0) with
  | false=>rfl
  | true=>
   have:=(HK hk g1 Dn g2).1 hq
   have i1:i<E.toList.length:=by have:=(br.1 gh).1;simp;omega
   have i2:j<E.toList.length:=by simp;omega
   have:=Ce.1 hn i j i1 i2 hi
   have a1:E.toList[i]=e':=by
    have:E.toList[i]? =some e':=by simpa using gI
    rw[bz i1] at this;exact cY this
   have a2:E.toList[j]=e:=by
    have:=U
    rw[bz i2] at this;exact cY this
   rw[a1,a2,h3] at this
   exact absurd (by rw[← ‹kv=e'.key›]) this
theorem ao.Nc {v:Value} {x:V} (h:ao P w I β hp v x) {t:TypeId} (hx:oS P t x=true):iZ v x:=by
 rcases qt hx with ⟨q,n,_,rfl,_⟩|⟨b,_,rfl⟩|⟨s,_,rfl,_⟩
 ·exact h.dL
 ·exact h.jZ
 ·exact h.lX
theorem ao.Nd {v:Value} {x:V} (h:ao P w I β hp v x) {t:TypeId} (hx:mQ P t x=true):p7 v x:=by
 cases v5 hx with
 | one f c=>
  have:=h.Nc f
  cases x<;>first|exact this|cases this
 | arr hx A hl _ hf=>
  subst hx
  obtain ⟨cs,rfl,h1,U⟩:=h.kE
  exact ⟨cs,rfl,h1,fun j u y hu hy=>(U j u y hu hy).Nc (HH hf hy)⟩
theorem Nf {vt:TypeId} {y:V} (h:mapVal P vt=true) (ht:eG P vt y=true):(∃q n,P.underlying vt=some (.int q)∧y= .int q n)∨∃b,P.underlying vt=some .bool∧y= .bool b:=by
 unfold mapVal at h
 unfold eG at ht
 split at h
 ·rename_i q hu
  rw[hu] at ht
  cases y<;>first|(simp at ht;done)|skip
  simp only[dH] at ht
  subst ht
  exact .inl ⟨_,_,hu,rfl⟩
 ·rename_i hu
  rw[hu] at ht
  cases y<;>first|(simp at ht;done)|skip
  exact .inr ⟨_,hu,rfl⟩
 ·cases h
theorem iZ.HM {vt:TypeId} {v:Value} {y:V} (h:mapVal P vt=true) (ht:eG P vt y=true) (hv:iZ v y):ao P w I β hp v y:=by
 rcases Nf h ht with ⟨q,n,_,rfl⟩|⟨b,_,rfl⟩
 ·obtain rfl:v= .int q n:=hv;exact .int
 ·obtain rfl:v= .bool b:=hv;exact .bool
theorem ao.WZ {vt:TypeId} {v:Value} {y:V} (h:mapVal P vt=true) (ht:eG P vt y=true) (hv:ao P w I β hp v y):iZ v y:=by
 rcases Nf h ht with ⟨q,n,_,rfl⟩|⟨b,_,rfl⟩
 ·exact hv.dL
 ·exact hv.jZ
theorem W0 {vt:TypeId} {z:V} (h:Cr P vt=some z) (w:World): ∃v,(zeroValue vt).run P w= .ok v w∧iZ v z:=by
 unfold Cr at h
 cases hi:P.info? vt with
 | none=>rw[hi] at h;cases h
 | some i=>
  rw[hi] at h
  simp only[Option.bind_some] at h
  cases hz:i.zero with
  | none=>rw[hz] at h;cases h
  | some v=>
   rw[hz] at h
   refine ⟨v,by simp[zeroValue,typeInfo,hi,hz],?_⟩
   cases v<;>simp only at h<;>first|(cases h;done)|skip
   ·cases h;rfl
   ·cases h;rfl
theorem HN {t kt vt:TypeId} (h:la P t=some (kt,vt)):P.underlying t=some (.map kt vt):=by
 unfold la at h
 split at h
 ·rename_i k e hu;cases h;exact hu
 ·cases h
theorem HO (S:aE P w I β hp B M w0) {ok:Bool} {v:Value} {x:V} {b:Bool} {r:R} {rd:List Nat} {res:Result Value} (hv:ao P w I β hp v x)
  (hr:res= .ok (if ok then .tuple #[v,.bool b] else v) w) (h:(Cs ok x b).run C hp=some (r,rd)):cU P res w I β hp B M w0 r:=by
 unfold Cs at h
 obtain rfl:=aN h
 cases ok with
 | false=>exact .same S hr hv
 | true=>
  refine .same S hr (.bd rfl fun j u y hu hy=> ?_)
  match j,hu,hy with
  | 0,hu,hy=>simp at hu hy;subst hu;subst hy;exact hv
  | 1,hu,hy=>simp at hu hy;subst hu;subst hy;exact .bool
  | j+2,hu,hy=>simp at hy
theorem W3 (S:aE P w I β hp B M w0) {t kt vt:TypeId} (ht:la P t=some (kt,vt)) {m k:Value} {mx kx:V} {ok:Bool} {r:R} {rd:List Nat} (hm:ao P w I β hp m mx) (hk:ao P w I β hp k kx)
  (h:(GB P t mx kx ok).run C hp=some (r,rd)):cU P ((Instr.lookup t m k ok).run P w) w I β hp B M w0 r:=by
 unfold GB at h
 rw[ht] at h
 simp only at h
 cases hz:Cr P vt with
 | none=>rw[hz] at h;cases h
 | some z=>
  rw[hz] at h
  obtain ⟨hc,h'⟩:=aF h
  clear h
  have h:=h'
  clear h'
  simp only[aK] at hc
  obtain ⟨pb,zt,Dp⟩:=hc
  have hu:=HN ht
  have v7:=hk.Nd pb
  have K:=HJ pb
  obtain ⟨l,hl⟩:=Dm pb v7
  obtain ⟨zv,Ng,Nh⟩:=W0 hz w
  cases mx<;>simp only at h<;>first|(cases h;done)|skip
  ·rename_i t' id
   obtain ⟨ln,h'⟩:=aF h
   clear h
   have h:=h'
   clear h'
   rw[aR] at ln
   subst ln
   obtain ⟨l2,h'⟩:=run_get h
   clear h
   have h:=h'
   clear h'
   cases ab:hp id with
   | none=>rw[ab] at h;cases h
   | some blk=>
    rw[ab] at h
    cases blk<;>simp only at h<;>first|(cases h;done)|skip
    rename_i t2 es
    obtain ⟨ln,h'⟩:=aF h
    clear h
    have h:=h'
    clear h'
    rw[aR] at ln
    subst ln
    cases hm with
    | g9 hd=>rw[ab] at hd;cases hd
    | @cp _ _ b aH hd hb=>
     rw[ab] at hd
     cases hd
     have hr:=S.h.rel id _ ab
     cases hr with
     | @map _ Ni Nj _ b' clock E fB az hh hs hI hx hn=>
      rw[hb] at az;cases az
      rw[hu] at fB;cases fB
      rcases Na hs hx hn pb v7 w with ⟨h1,_,h3,h4,_⟩|⟨j,e,k',y,h1,_,_,_,_,_,h6,h7,h3,h4,_⟩
      ·rw[h3,h4,zd Dp] at h
       refine HO S (iZ.HM zt Dp Nh) ?_ h
       unfold Instr.lookup
       simp only[Sem.run_bind,run_underlying hu,Result.andThen_ok,Go.MapKept.run_getObj_map hh,Sem.run_pure,K.check w E.isEmpty hl,h1,Ng]
      ·rw[h3,h4,zd h6] at h
       refine HO S (iZ.HM zt h6 h7) ?_ h
       unfold Instr.lookup
       simp only[Sem.run_bind,run_underlying hu,Result.andThen_ok,Go.MapKept.run_getObj_map hh,Sem.run_pure,K.check w E.isEmpty hl,h1]
  ·rename_i t'
   obtain ⟨ln,h⟩:=aF h
   cases hm
   rw[zd Dp] at h
   refine HO S (iZ.HM zt Dp Nh) ?_ h
   have hf:(Instr.findKey kt k []).run P w= .ok none w:=by
    rcases K.find w hl [] (by simp) with ⟨h1,_⟩|⟨j,e,_,U,_⟩
    ·exact h1
    ·simp at U
   unfold Instr.lookup
   simp[run_underlying hu,K.check w true hl,hf,Ng]
theorem W4 (S:aE P w I β hp B M w0) {t:TypeId} {nb:Nat} {r:R} {rd:List Nat} (h:(Rd.aB (la P t).isSome (iW nb (.map t []) (.cp t nb) [])).run C hp=some (r,rd)):
  cU P ((Instr.makeMap t none).run P w) w I β hp B M w0 r:=by
 obtain ⟨ht,h⟩:=aF h
 obtain ⟨hn,rfl⟩:=m7 h
 obtain ⟨⟨kt,vt⟩,ht⟩:=yu.1 ht
 have hu:=HN ht
 have cK: ¬I w.heap.size:=fun h=>Nat.lt_irrefl _ (S.h.jv _ h)
 have eI:(w.alloc (.map #[] 0)).heap[w.heap.size]? =some (.map #[] 0):=heap_alloc_new w _
 obtain ⟨a1,a2⟩:=za S (w':=w.alloc (.map #[] 0)) (blk:= .map t []) (b:=w.heap.size) hn (fun aC blk' h ho=>Nat.lt_irrefl _ (S.h.lt h ho)) cK
  (fun b' _ aP=>heap_alloc_old w _ b' aP) (by simp) ⟨rfl,rfl⟩ (.inr S.size) (fun b' h=>(cY (h.flat (by simp))).symm)
  (fun _=> .map hu rfl eI rfl cK (fun j e x he _=>by simp at he) (by simp))
 exact ⟨_,_,_,_,Go.RowKit.run_makeMap t w,a1,a2,.cp (cR _ _ _) (cR _ _ _)⟩
theorem Nk (S:aE P w I β hp B M w0) {t kt vt:TypeId} (ht:la P t=some (kt,vt)) {m k v:Value} {mx kx vx:V} {r:R} {rd:List Nat} (hm:ao P w I β hp m mx) (hk:ao P w I β hp k kx) (hv:ao P w I β hp v vx)
  (h:(Ct P t mx kx vx).run C hp=some (r,rd)):o0 P ((Instr.mapUpdate t m k v).run P w) w I β hp B M w0 r:=by
 unfold Ct at h
 rw[ht] at h
 obtain ⟨hc,h'⟩:=aF h
 clear h
 have h:=h'
 clear h'
 simp only[aK] at hc
 obtain ⟨pb,zt,tD⟩:=hc
 have hu:=HN ht
 have v7:=hk.Nd pb
 have vN:=ao.WZ zt tD hv
 have K:=HJ pb
 obtain ⟨l,hl⟩:=Dm pb v7
 cases mx<;>simp only at h<;>first|(cases h;done)|skip
 rename_i t' id
 obtain ⟨ln,h'⟩:=aF h
 clear h
 have h:=h'
 clear h'
 rw[aR] at ln
 subst ln
 obtain ⟨l2,h'⟩:=run_get h
 clear h
 have h:=h'
 clear h'
 cases ab:hp id with
 | none=>rw[ab] at h;cases h
 | some blk=>
  rw[ab] at h
  cases blk<;>simp only at h<;>first|(cases h;done)|skip
  rename_i t2 es
  obtain ⟨ln,h'⟩:=aF h
  clear h
  have h:=h'
  clear h'
  rw[aR] at ln
  subst ln
  obtain rfl:=aN h
  cases hm with
  | g9 hd=>rw[ab] at hd;cases hd
  | @cp _ _ b aH hd hb=>
   rw[ab] at hd
   cases hd
   have hr:=S.h.rel id _ ab
   cases hr with
   | @map _ Ni Nj _ b' clock E fB az hh hs hI hx hn=>
    rw[hb] at az;cases az
    rw[hu] at fB;cases fB
    have aP:b<w.heap.size:=(gS.1 hh).1
    have fin: ∀(E':Array MapEntry) (zu:Nat),(Instr.mapUpdate t (.map (some b)) k v).run P w= .ok () {w with heap:=w.heap.setIfInBounds b (.map E' zu)}→E'.size=(im kx vx es).length→
      (∀(j:Nat) (e:MapEntry) (x:V),E'[j]? =some e→(im kx vx es)[j]? =some x→CH P kt vt e x)→E'.toList.Pairwise (fun a b=>a.key≠b.key)→
      o0 P ((Instr.mapUpdate t (.map (some b)) k v).run P w) w I β hp B M w0 ⟨.undef,[(id,.map t (im kx vx es))]⟩:=by
     intro E' zu cS HG cu HP
     have eI:({w with heap:=w.heap.setIfInBounds b (.map E' zu)}:World).heap[b]? =some (.map E' zu):=by simp[aP]
     obtain ⟨a1,a2⟩:=CR S (w':={w with heap:=w.heap.setIfInBounds b (.map E' zu)}) (blk':= .map t (im kx vx es)) ab (by simp) rfl hb hI (by simp)
      (fun b' az=>by simp[Array.getElem?_setIfInBounds,Ne.symm az]) (by simp only[bsize,eI,hh]) (by simp) ⟨rfl,rfl⟩ (fun _=> .map hu rfl eI HG hI cu HP)
     exact ⟨_,I,β,cS,a1,a2,rfl⟩
    rcases Na hs hx hn pb v7 w with ⟨h1,U,_,_,h5⟩|⟨j,e,k',y,h1,hE,Nl,oo,W5,W6,_,_,_,_,h5⟩
    ·have e5:=h5 vx
     refine fin (E.push {key:=k,val:=v,born:=clock}) (clock+1) ?_ (by rw[e5];simp[hs]) (fun j e x he qg=> ?_) ?_
     ·unfold Instr.mapUpdate
      simp only[Sem.run_bind,run_underlying hu,Result.andThen_ok,Go.MapKept.run_getObj_map hh,K.check w false hl,h1,Go.MapKept.run_setObj_map _ hh]
     ·rw[e5] at qg
      rw[Array.getElem?_push] at he
      split at he
      ·rename_i hj
       rw[il (by omega),hj,hs,Nat.sub_self] at qg
       simp at he qg
       subst he;subst qg
       exact ⟨kx,vx,rfl,pb,v7,tD,vN⟩
      ·have hj:j<E.size:=(gS.1 he).1
       rw[ik (by omega)] at qg
       exact hx j e x he qg
     ·rw[Array.toList_push,List.pairwise_append]
      refine ⟨hn,by simp,fun a ha b' az=> ?_⟩
      simp only[dX] at az
      subst az
      exact U a ha
    ·have e5:=h5 vx
     have hj:j<E.size:=(gS.1 hE).1
     refine fin (E.modify j fun e=>{e with key:=k,val:=v}) clock ?_ (by rw[e5];simp[hs]) (fun i e' x he gh=> ?_) ?_
     ·have ca:=K.stays w hl
      unfold Instr.mapUpdate
      simp only[Sem.run_bind,run_underlying hu,Result.andThen_ok,Go.MapKept.run_getObj_map hh,K.check w false hl,h1]
      simp only[hE,Option.map_some,Option.getD_some,Nl,ca,Result.andThen_ok,Go.MapKept.run_setObj_map _ hh]
     ·rw[e5] at gh
      rw[yv] at he
      rw[List.getElem?_set] at gh
      split at he
      ·rename_i tE
       subst tE
       rw[aj rfl,aj (by omega)] at gh
       rw[hE] at he
       simp at he gh
       subst he;subst gh
       exact ⟨k',vx,rfl,W5,W6,tD,vN⟩
      ·rename_i tE
       rw[ah tE] at gh
       exact hx i e' x he gh
     ·have tF: ∀i (h1:i<(E.modify j fun e=>{e with key:=k,val:=v}).toList.length) (U:i<E.toList.length),((E.modify j fun e=>{e with key:=k,val:=v}).toList[i]).key=(E.toList[i]).key:=by
       intro i h1 U
       simp only[Array.getElem_toList,Array.getElem_modify]
       split
       ·rename_i tE
        subst tE
        have:=(gS.1 hE).2
        rw[this,Nl]
       ·rfl
      rw[Ce] at hn⊢
      intro i i' h1 U iE
      have g1:i<E.toList.length:=by simpa using h1
      have g2:i'<E.toList.length:=by simpa using U
      rw[tF i h1 g1,tF i' U g2]
      exact hn i i' g1 g2 iE
theorem W7 (S:aE P w I β hp B M w0) {t ty kt vt:TypeId} {v:Value} {x:V} {r:R} {rd:List Nat} (hu:P.underlying t=some (.map kt vt)) (hv:ao P w I β hp v x)
  (h:(Cu x).run C hp=some (r,rd)):cU P ((Builtin.len_ #[t] ty #[v]).run P w) w I β hp B M w0 r:=by
 unfold Cu at h
 cases x<;>simp only at h<;>first|(cases h;done)|skip
 ·rename_i t' id
  obtain ⟨l2,h'⟩:=run_get h
  clear h
  have h:=h'
  clear h'
  cases ab:hp id with
  | none=>rw[ab] at h;cases h
  | some blk=>
   rw[ab] at h
   cases blk<;>simp only at h<;>first|(cases h;done)|skip
   rename_i t2 es
   obtain rfl:=aN h
   cases hv with
   | g9 hd=>rw[ab] at hd;cases hd
   | @cp _ _ b aH hd hb=>
    rw[ab] at hd
    cases hd
    have hr:=S.h.rel id _ ab
    cases hr with
    | @map _ Ni Nj _ b' clock E fB az hh hs hI hx hn=>
     rw[hb] at az;cases az
     refine .same S (v:= .int .i64 E.size) (by simp[Builtin.len_,run_underlying hu,Go.MapKept.run_getObj_map hh,goInt]) ?_
     rw[hs]
     exact .int
 ·obtain rfl:=aN h
  cases hv
  exact .same S (v:= .int .i64 0) (by simp[Builtin.len_,run_underlying hu,goInt]) .int
theorem ao.HQ {v:Value} {t:TypeId} (h:ao P w I β hp v (.dk t)):v= .map none:=by cases h;rfl
theorem ao.W8 {v:Value} {t t':TypeId} {id:Nat} {es:List V} (h:ao P w I β hp v (.cp t id)) (ab:hp id=some (.map t' es)): ∃b,v= .map (some b):=by
 cases h with
 | g9 h=>rw[ab] at h;cases h
 | cp h hb=>exact ⟨_,rfl⟩
theorem Nn (S:aE P w I β hp B M w0) {op:BinOp} {t:TypeId} {a:Option Nat} {r:R} {rd:List Nat} (x y:Operand)
  (h:(Co P op t a.isNone).run C hp=some (r,rd)):cU P ((do eqGuard op t x y (.map a) (.map none);binOp op t (.map a) (.map none)).run P w) w I β hp B M w0 r:=by
 unfold Co at h
 split at h
 case h_2=>cases h
 rename_i kt vt hu
 have he:(Op.equal t (.map a) (.map none)).run P w= .ok a.isNone w:=by
  show (Op.equalIn (9999+1) t (.map a) (.map none)).run P w=_
  rw[Op.equalIn]
  cases a<;>simp[Sem.run_bind,run_underlying hu,Result.andThen_ok,Sem.run_pure]
 cases op<;>simp only at h<;>first|(cases h;done)|skip
 ·obtain rfl:=aN h
  exact .same S (by simp[eqGuard,binOp,he]) .bool
 ·obtain rfl:=aN h
  exact .same S (by simp[eqGuard,binOp,he]) .bool
end
end Go.AM
namespace Go.AM
section
variable {P:Program} {w w':World} {I I':Nat→Prop} {β β':Nat→Option Nat} {hp hp':Nat→Option an} {C:ag} {B:Nat} {M:Nat→Prop} {w0:Start}
theorem W9 {e:TypeId} (he:P.underlying e=some (.int .u8)) (hc:P.cellsOf e=1) (s:ByteArray): ∀(i j:Nat) (x:V) (t':TypeId),(s.data.toList.map dm)[i]? =some x→(aS P e)[j]? =some t'→j<P.cellsOf e→
  ∃u,(Lib.strCells s)[i*P.cellsOf e+j]? =some u∧Pure P w I t' u (bH P e x j):=by
 intro i j x t' hx ht hj
 have na:bE P e=false:=by simp[bE,he]
 obtain rfl:j=0:=by omega
 simp only[aS,na,cond_false,List.getElem?_cons_zero,dI] at ht
 subst ht
 rw[fO] at hx
 cases hb:s.data.toList[i]? with
 | none=>rw[hb] at hx;cases hx
 | some b=>
  rw[hb] at hx
  cases hx
  refine ⟨.int .u8 b.toNat,?_,?_⟩
  ·rw[hc,mK,Nat.add_zero]
   simp only[Lib.strCells,fO,hb,Option.map_some]
  ·simp only[bH,na,cond_false]
   exact .int he
theorem Xa (w:World) (t u ty e:TypeId) (i:TypeInfo) (z:Value) (ht:P.underlying t=some (.slice e)) (hu:P.underlying u=some .string) (hi:P.info? e=some i) (hz:i.zero=some z)
  (s:ByteArray) (h0:0<s.size) (Di:(s.size:Int)≤9223372036854775807) (Dj:s.size*i.bytes≤281474976710656) (a0:Option Addr):
  (Builtin.append_ #[t,u] ty #[.slice a0 0 0,.string s]).run P w=
   .ok (.slice (some ⟨w.heap.size,0,none⟩) s.size (grownCap w s.size 0 e))
    (w.drew.alloc (.cells (s.data.map (fun b=>Value.int .u8 b.toNat)++Builtin.zeroCells z.cells (grownCap w s.size 0 e-s.size)) e)):=by
 cases a0 with
 | none=>exact run_append_nil_string w t u ty e i z ht hu hi hz s h0 Di Dj
 | some b=>
  rw[←run_append_nil_string w t u ty e i z ht hu hi hz s h0 Di Dj]
  have hn:s.size≠0:=by omega
  have Xb: ¬(9223372036854775807<(s.size:Int)):=by omega
  have Xc: ¬(281474976710656<Builtin.nextslicecap s.size 0*i.bytes):=by rw[nextslicecap_zero h0];omega
  simp[Builtin.append_,run_underlying ht,run_underlying hu,sizeOf,typeInfo,zeroValue,hi,hz,Builtin.lenOf,Builtin.firstCells,hn,Xb,Xc,Question.forced,newRow,grownCap,loadCells,loadCellsFrom]
theorem No (S:aE P w I β hp B M w0) {t u ty e:TypeId} {nb:Nat} {x:ByteArray} {xs:List V} {i:TypeInfo} {z:Value} (hu:P.underlying t=some (.slice e)) (oq:P.underlying u=some .string) (au:cL P e=true) (hn:hp nb=none)
 (hi:P.info? e=some i) (hz:i.zero=some z) (h3:i.size=P.cellsOf e) (h4:z.cells.size=P.cellsOf e) (v8:i.size=1) (l7:P.bytesOf e=i.bytes) (dF:xs.length*P.bytesOf e≤cI) (mc:xs.length=x.size) (ll:(Lib.strCells x).length=x.size)
 (cN: ∀(i j:Nat) (y:V) (t':TypeId),xs[i]? =some y→(aS P e)[j]? =some t'→j<P.cellsOf e→∃u,(Lib.strCells x)[i*P.cellsOf e+j]? =some u∧Pure P w I t' u (bH P e y j)):
 ∀a0,∃v w' β',(Builtin.append_ #[t,u] ty #[.slice a0 0 0,.string x]).run P w= .ok v w'∧Le P w I β hp w' I β' (aG hp nb (some (.arr e xs false)))∧aE P w' I β' (aG hp nb (some (.arr e xs false))) B M w0∧
  ao P w' I β' (aG hp nb (some (.arr e xs false))) v (.whole e nb):=by
 intro a0
 have tA:=vE au
 have hlen:xs.length≤2^45:=by
  have:xs.length*1≤xs.length*P.bytesOf e:=sP _ tA
  simp only[cI] at dF
  omega
 by_cases h0:x.size=0
 ·have gk:xs=[]:=kW (by omega)
  subst gk
  obtain ⟨a1,a2⟩:=CP S e hn
  have hf:=Lib.run_firstCells_string (P:=P) w 1 x
  rw[h0] at hf
  have ql:Lib.strCells x=[]:=kW (by omega)
  exact ⟨.slice a0 0 0,_,_,by cases a0<;>simp[storeCells,ql,Builtin.append_,run_underlying hu,run_underlying oq,sizeOf,typeInfo,hi,v8,Builtin.lenOf,h0,hf],a1,a2,.dw (cR _ _ _) (cR _ _ _)⟩
 ·have cS:=Xa (P:=P) w t u ty e i z hu oq hi hz x (by omega) (by omega) (by rw[←l7,←mc];simp only[cI] at dF;omega) a0
  have e1:(x.data.map fun b=>Value.int .u8 b.toNat)=(Lib.strCells x).toArray:=by
   apply Array.ext'
   simp[Lib.strCells]
  rw[e1,←mc] at cS
  have o7:=grownCap_ge w xs.length 0 e
  have tB:grownCap w xs.length 0 e≤maxLen:=grownCap_le_maxLen w xs.length 0 e (by simp only[maxLen];omega)
  obtain ⟨n1,n2,n3⟩:=vX S.drew (nb:=nb) (cap:=grownCap w xs.length 0 e) (es:=xs) (C0:=(Lib.strCells x).toArray++Builtin.zeroCells z.cells (grownCap w xs.length 0 e-xs.length)) au hn
   (by
    have:(Lib.strCells x).length=xs.length*P.cellsOf e:=by rw[ll,mc,←h3,v8,mK]
    simp only[Cc,pM,size_zeroCells,h4,this,←df];congr 1;omega) o7 tB
   (fun i' j y t' hy ht hj=>by
    obtain ⟨u,fB,hp⟩:=cN i' j y t' hy ht hj
    have aP:=(br.1 fB).1
    refine ⟨u,?_,Pure.drew hp⟩
    rw[Array.getElem?_append_left (by simpa using aP)]
    simpa using fB)
  exact ⟨_,_,_,cS,(Le.drew w I β hp).trans n1,n2,n3⟩
theorem Xd (S:aE P w I β hp B M w0) {t u ty e:TypeId} {nb:Nat} {s:Value} {sv:V} {x:ByteArray} {r:R} {rd:List Nat} (hu:P.underlying t=some (.slice e)) (oq:P.underlying u=some .string) (he:P.underlying e=some (.int .u8)) (hs:ao P w I β hp s sv)
  (h:(vo P nb e sv (.list e (x.data.toList.map dm))).run C hp=some (r,rd)):cU P ((Builtin.append_ #[t,u] ty #[s,.string x]).run P w) w I β hp B M w0 r:=by
 unfold vo at h
 obtain ⟨au,h⟩:=aF h
 simp only[rF] at h
 obtain ⟨_,h⟩:=aF h
 have na:bE P e=false:=by simp[bE,he]
 have dy:P.cellsOf e=1:=by rw[←(jY au).1,y6 na];rfl
 obtain ⟨i,z,hi,hz,h3,h4,_⟩:=j5 au
 have v8:i.size=1:=by rw[h3,dy]
 have tA:=vE au
 have l7:P.bytesOf e=i.bytes:=by simp[Program.bytesOf,hi]
 have Dq:=W9 (P:=P) (w:=w) (I:=I) he dy x
 have mc:(x.data.toList.map dm).length=x.size:=by simp
 have ll:(Lib.strCells x).length=x.size:=Lib.strCells_length x
 have h1:=Lib.strCells_oneCell x
 generalize gk:x.data.toList.map dm=xs at*
 cases sv with
 | nilS e'=>
  obtain ⟨hc,h⟩:=aF h
  simp only[aK,aR,dP] at hc
  obtain ⟨hn,rfl⟩:=m7 h
  obtain ⟨a0,rfl⟩: ∃a0,s= .slice a0 0 0:=by cases hs;exact ⟨_,rfl⟩
  obtain ⟨v,w',β',a1,a2,a3,a4⟩:=No S hu oq au hn hi hz h3 h4 v8 l7 hc.2 mc ll Dq _
  exact ⟨v,w',I,β',a1,a2,a3,a4⟩
 | whole e' id=>
  obtain ⟨l,h⟩:=run_get h
  cases ab:hp id with
  | none=>rw[ab] at h;cases h
  | some blk=>
   rw[ab] at h
   cases blk with
   | dead=>cases h
   | var _=>cases h
   | nest _ _ _=>cases h
   | map _ _=>cases h
   | arr dt es fz=>
    cases fz with
    | true=>cases h
    | false=>
     obtain ⟨hc,h⟩:=aF h
     obtain ⟨hn,rfl⟩:=m7 h
     simp only[aK,aR,dP] at hc
     obtain ⟨Hw,Hy,dF⟩:=hc
     subst Hw
     subst Hy
     have bu:nb≠id:=fun e=>by rw[e,ab] at hn;cases hn
     obtain ⟨k1,k2⟩:=CQ S ab
     have j6:aG hp id (some an.dead) nb=none:=by rw[dV _ _ bu];exact hn
     cases hs with
     | dS hd=>rw[ab] at hd;cases hd
     | eb hd=>rw[ab] at hd;cases hd
     | dw hd hb=>
      rw[ab] at hd
      cases hd
      simp only[List.length_nil,ga] at dF
      obtain ⟨v,w',β',a1,a2,a3,a4⟩:=No k2 hu oq au j6 hi hz h3 h4 v8 l7 dF mc ll Dq _
      exact ⟨v,w',I,β',a1,k1.trans a2,a3,a4⟩
     | @whole _ _ aH mR b cap hd hb aU bX hm=>
      rw[ab] at hd
      cases hd
      have hr:=S.h.rel id _ ab
      cases hr with
      | dx az=>rw[az] at hb;cases hb
      | @arr _ _ _ b' Ca _ az hh o9 hf dU l8=>
       rw[hb] at az
       cases az
       have hlen:es.length+xs.length≤2^45:=by
        have:(es.length+xs.length)*1≤(es.length+xs.length)*P.bytesOf e:=sP _ tA
        simp only[cI] at dF
        omega
       rw[mV hh] at aU
       have qe: ∀aC blk',aG hp id (some an.dead) aC=some blk'→¬bt P w (β aC) blk' b:=by
        intro aC blk' h1 U
        by_cases iE:aC=id
        ·subst iE;rw[cR] at h1;cases h1;exact U.alive rfl
        ·rw[dV _ _ iE] at h1
         exact iE (S.h.inj aC id blk' _ b h1 ab U (.root (by simp) hb))
       have Hz:=S.h.rM id _ b ab (by simp) hb
       have lp:es.length*P.cellsOf e≤Ca.toList.length:=by simpa using o9
       have Np:(Lib.strCells x).length=xs.length*P.cellsOf e:=by rw[ll,mc,dy,mK]
       by_cases rV:es.length+xs.length≤cap
       ·have zp:es.length*P.cellsOf e+(Lib.strCells x).length≤Ca.size:=by rw[Np,←df,←aU];exact dr _ rV
        have cS:=Lib.run_append_room_string (P:=P) w t u ty e i hu oq hi v8 b es.length cap Ca hh x (by rw[←mc];exact rV) (by rw[←ll];rw[dy,mK] at zp;exact zp)
        have cN:=Dg (P:=P) (w:=w) (I:=I) (n:=es.length) (c:=Ca.toList) rfl (fun i j y t' a b c=>by
         obtain ⟨v,hv,hp⟩:=l8 i j y t' a b c
         exact ⟨v,by simpa using hv,hp⟩) Dq lp (Ca.toList.drop (es.length*P.cellsOf e+(Lib.strCells x).length))
        generalize vT:(Ca.toList.take es.length++Lib.strCells x++Ca.toList.drop (es.length+x.size)).toArray=C' at cS
        have oj:C'.size=Ca.size:=by
         rw[dy,mK] at zp
         rw[←vT];simp;omega
        have Nq:(w.setRow b C').heap[b]? =some (.cells C' e (0,0)):=setRow_heap w b Ca C' e _ hh
        obtain ⟨a1,a2⟩:=za k2 (blk:= .arr e (es++xs) false) (w':=w.setRow b C') j6 qe (dU rfl) (fun b' h _=>setRow_other w b b' _ h) (by simp) ⟨rfl,rfl⟩ Hz
         (fun b' h=>(cY (h.flat (by simp))).symm) (fun hle=> .arr au rfl Nq (by rw[oj,←aU];exact dr _ (by simpa using rV)) (fun h=>by cases h) (fun _=>dU rfl) fun i j y t' a b c=>by
          obtain ⟨v,hv,hp⟩:=cN i j y t' a b c
          refine ⟨v,?_,hp.mono hle.c9 hle.b8⟩
          rw[←vT,mJ]
          rw[dy] at hv⊢
          simpa[ll] using hv)
        refine ⟨_,_,_,_,cS,k1.trans a1,a2,?_⟩
        have a3:=ao.whole (P:=P) (w:=w.setRow b C') (I:=I) (β:=aG β nb (some b)) (hp:=aG (aG hp id (some .dead)) nb (some (.arr e (es++xs) false))) (cap:=cap) (b:=b) (es:=es++xs) (fz:=false) (id:=nb) (e:=e) (cR _ _ _) (cR _ _ _) (by rw[mV Nq,oj,aU]) (by simpa using rV) hm
        rw[cx,mc] at a3
        exact a3
       ·have hold: ∀(j:Nat) v,(Ca.toList.take (es.length*P.cellsOf e))[j]? =some v→w.cell? ((⟨b,0,none⟩:Addr).add j)=some v:=by
         intro j v hj
         have b9:=(br.1 hj).1
         have fT:j<es.length*P.cellsOf e:=by rw[ft] at b9;omega
         rw[eO fT] at hj
         rw[mY,cell?_cells hh,ga]
         simpa using hj
        have cS:=Lib.run_append_grow_string (P:=P) w t u ty e i z hu oq hi hz ⟨b,0,none⟩ es.length cap (Ca.toList.take (es.length*P.cellsOf e)) (by rw[h3];simp;omega) hold x (by omega) (by omega)
         (growslice_fits (by omega) (by rw[←l7,←mc];simp only[cI] at dF;omega))
        rw[←mc] at cS
        have o7:=grownCap_ge w (es.length+xs.length) cap e
        have tB:grownCap w (es.length+xs.length) cap e≤maxLen:=grownCap_le_maxLen w _ cap e (by simp only[maxLen];omega)
        have cN:=Dg (P:=P) (w:=w) (I:=I) (n:=es.length) (c:=Ca.toList) rfl (fun i j y t' a b c=>by
         obtain ⟨v,hv,hp⟩:=l8 i j y t' a b c
         exact ⟨v,by simpa using hv,hp⟩) Dq lp (Builtin.zeroCells z.cells (grownCap w (es.length+xs.length) cap e-(es.length+xs.length))).toList
        obtain ⟨n1,n2,n3⟩:=vX k2.drew (nb:=nb) (cap:=grownCap w (es.length+xs.length) cap e) (es:=es++xs)
         (C0:=(Ca.toList.take (es.length*P.cellsOf e)).toArray++(Lib.strCells x).toArray++Builtin.zeroCells z.cells (grownCap w (es.length+xs.length) cap e-(es.length+xs.length))) au j6
         (by
          have e1:(Ca.toList.take (es.length*P.cellsOf e)).length=es.length*P.cellsOf e:=by simp;omega
          simp only[Cc,pM,size_zeroCells,h4,Np,e1,←df];congr 1;omega) (by simpa using o7) tB
         (fun i j y t' a b c=>by
          obtain ⟨v,hv,hp⟩:=cN i j y t' a b c
          refine ⟨v,?_,Pure.drew hp⟩
          rw[←rr]
          simpa using hv)
        rw[cx] at n3
        exact ⟨_,_,_,_,cS,(k1.trans (Le.drew w I β _)).trans n1,n2,n3⟩
 | _=>cases h
end
section
variable {P:Program} {w w':World} {I I':Nat→Prop} {β β':Nat→Option Nat} {hp hp':Nat→Option an} {C:ag} {B:Nat} {M:Nat→Prop} {w0:Start}
theorem Nr: ∀(ns:List Int) (s:ByteArray),(ns.foldl (fun r n=>r.push (UInt8.ofNat n.toNat)) s).data.toList=s.data.toList++ns.map fun n=>UInt8.ofNat n.toNat
 | [],s=>by simp
 | n::ns,s=>by
  simp only[List.foldl_cons,Nr ns,cQ]
  simp[ByteArray.push]
theorem yl {e:TypeId} {u:Value} {x:V} (he:P.underlying e=some (.int .u8)) (hp:Pure P w I e u x):u= .int .u8 x.toInt:=by
 cases hp with
 | int hp'=>rw[he] at hp';cases hp';rfl
 | bool hp'=>rw[he] at hp';cases hp'
 | str hp'=>rw[he] at hp';cases hp'
 | nil hp'=>rw[he] at hp';cases hp'
 | emp hp'=>rw[he] at hp';cases hp'
 | list _ hp'=>rw[he] at hp';cases hp'
theorem Xe (S:aE P w I β hp B M w0) {src dst e:TypeId} {v:Value} {x:V} {r:R} {rd:List Nat} (hs:P.underlying src=some (.slice e)) (he:P.underlying e=some (.int .u8)) (hd:P.underlying dst=some .string)
  (hv:ao P w I β hp v x) (h:(Rd.aB (cL P e) (rF e x fun es=> .ret ⟨.str (ku es),[]⟩)).run C hp=some (r,rd)):cU P ((convert src dst v).run P w) w I β hp B M w0 r:=by
 obtain ⟨au,h⟩:=aF h
 obtain ⟨xs,hx,l,h⟩:=Df S.h.rel au hv h
 obtain rfl:=aN h
 have na:bE P e=false:=by simp[bE,he]
 have h1:P.cellsOf e=1:=by rw[←(jY au).1,y6 na];rfl
 rcases hx with ⟨⟨a,rfl⟩,rfl⟩|⟨a,c,news,hr⟩
 ·refine .same S (v:= .string .empty) ?_ (.str (by simp[ku]))
  rw[run_convert_bytes_string w src dst e a 0 0 hs he hd]
  cases a<;>simp[Conv.bytesToString,loadCells,loadCellsFrom]
 ·have Dh:news=(xs.map V.toInt).map (Value.int .u8):=by
   apply List.ext_getElem?
   intro j
   by_cases hj:j<xs.length
   ·obtain ⟨u,hu,hp⟩:=hr.el j 0 xs[j] e (bz hj) (by simp[aS,na]) (by omega)
    rw[h1] at hu
    simp only[bH,na,cond_false] at hp
    have fB:news[j]? =some u:=by simpa using hu
    rw[fB]
    have:=yl he hp
    simp[hj,←this]
   ·have hl:news.length=xs.length:=by rw[hr.len,h1];simp
    rw[yp (by omega),yp (by simp;omega)]
  have HR:=run_loadCells_list (P:=P) w a news hr.cell
  have hl:news.length=xs.length:=by rw[hr.len,h1];simp
  rw[hl] at HR
  rw[Dh] at HR
  refine .same S (v:= .string ((xs.map V.toInt).foldl (fun r n=>r.push (UInt8.ofNat n.toNat)) ByteArray.empty)) ?_ (.str ?_)
  ·rw[hr.val,run_convert_bytes_string w src dst e _ _ _ hs he hd]
   exact run_bytesToString w a xs.length c (xs.map V.toInt) HR
  ·rw[Nr]
   simp[ku]
theorem ao.Dr {v:Value} (h:ao P w I β hp v .c8):v= .pointer none:=by cases h;rfl
section
variable (w:World)
theorem Xf (t e:TypeId) (a:Addr) (h:P.underlying t=some (.pointer e)):(binOp .eql t (.pointer (some a)) (.pointer none)).run P w= .ok (.bool false) w:=by
 have h0: ∀d:Nat,(Op.equalIn (d+1) t (.pointer (some a)) (.pointer none)).run P w= .ok false w:=fun d=>by simp[Op.equalIn,run_underlying h]
 simp only[binOp]
 simp[Op.equal,Op.maxDepth,h0 9999]
theorem Xg (t e:TypeId) (a:Addr) (h:P.underlying t=some (.pointer e)):(binOp .neq t (.pointer (some a)) (.pointer none)).run P w= .ok (.bool (!false)) w:=by
 have h0: ∀d:Nat,(Op.equalIn (d+1) t (.pointer (some a)) (.pointer none)).run P w= .ok false w:=fun d=>by simp[Op.equalIn,run_underlying h]
 simp only[binOp]
 simp[Op.equal,Op.maxDepth,h0 9999]
theorem Xh (t e:TypeId) (a:Addr) (h:P.underlying t=some (.pointer e)):(binOp .eql t (.pointer none) (.pointer (some a))).run P w= .ok (.bool false) w:=by
 have h0: ∀d:Nat,(Op.equalIn (d+1) t (.pointer none) (.pointer (some a))).run P w= .ok false w:=fun d=>by simp[Op.equalIn,run_underlying h]
 simp only[binOp]
 simp[Op.equal,Op.maxDepth,h0 9999]
theorem Xi (t e:TypeId) (a:Addr) (h:P.underlying t=some (.pointer e)):(binOp .neq t (.pointer none) (.pointer (some a))).run P w= .ok (.bool (!false)) w:=by
 have h0: ∀d:Nat,(Op.equalIn (d+1) t (.pointer none) (.pointer (some a))).run P w= .ok false w:=fun d=>by simp[Op.equalIn,run_underlying h]
 simp only[binOp]
 simp[Op.equal,Op.maxDepth,h0 9999]
theorem Xj (t e:TypeId) (h:P.underlying t=some (.pointer e)):(binOp .eql t (.pointer none) (.pointer none)).run P w= .ok (.bool true) w:=by
 have h0: ∀d:Nat,(Op.equalIn (d+1) t (.pointer none) (.pointer none)).run P w= .ok true w:=fun d=>by simp[Op.equalIn,run_underlying h]
 simp only[binOp]
 simp[Op.equal,Op.maxDepth,h0 9999]
theorem Xk (t e:TypeId) (h:P.underlying t=some (.pointer e)):(binOp .neq t (.pointer none) (.pointer none)).run P w= .ok (.bool (!true)) w:=by
 have h0: ∀d:Nat,(Op.equalIn (d+1) t (.pointer none) (.pointer none)).run P w= .ok true w:=fun d=>by simp[Op.equalIn,run_underlying h]
 simp only[binOp]
 simp[Op.equal,Op.maxDepth,h0 9999]
end
theorem Ds (S:aE P w I β hp B M w0) {op:BinOp} {t:TypeId} {b:Bool} {x y:Operand} {v1 v2:Value} {r:R} {rd:List Nat} (h:(ptrEq P op t b).run C hp=some (r,rd)) (hg:(eqGuard op t x y v1 v2).run P w= .ok () w)
  (he: ∀e j,P.underlying t=some (.pointer e)→P.info? e=some j→(binOp .eql t v1 v2).run P w= .ok (.bool b) w∧(binOp .neq t v1 v2).run P w= .ok (.bool (!b)) w):
  cU P ((do eqGuard op t x y v1 v2;binOp op t v1 v2:Sem Value).run P w) w I β hp B M w0 r:=by
 unfold ptrEq at h
 cases hu:P.underlying t with
 | none=>rw[hu] at h;cases h
 | some d=>
  rw[hu] at h
  cases d<;>simp only at h<;>first|(cases h;done)|skip
  rename_i e
  obtain ⟨h1,U⟩:=aF h
  obtain ⟨j,hj⟩:=yu.1 h1
  obtain ⟨k1,k2⟩:=he e j hu hj
  cases op<;>simp only at U<;>first|(cases U;done)|skip
  ·obtain rfl:=aN U
   exact .same S (by simp only[Sem.run_bind,hg,Result.andThen_ok,k1]) .bool
  ·obtain rfl:=aN U
   exact .same S (by simp only[Sem.run_bind,hg,Result.andThen_ok,k2]) .bool
theorem Xl {b n:Nat}:(∀b',b'≠b→(w.freeze ⟨b,0,none⟩ n).heap[b']? =w.heap[b']?)∧bsize (w.freeze ⟨b,0,none⟩ n) b=bsize w b∧w.heap.size≤(w.freeze ⟨b,0,none⟩ n).heap.size∧(w.freeze ⟨b,0,none⟩ n).os=w.os∧(w.freeze ⟨b,0,none⟩ n).output=w.output:=by
 unfold World.freeze
 split
 ·exact ⟨fun _ _=>rfl,rfl,ch _,rfl,rfl⟩
 ·refine ⟨fun b' hb=> ?_,?_,by simp,rfl,rfl⟩
  ·simp only[yv]
   rw[ah (fun e=>hb e.symm)]
  ·simp only[bsize,yv,dj]
   cases w.heap[b]? with
   | none=>rfl
   | some o=>cases o<;>rfl
theorem Xm {e:TypeId} (hb:isByte P e=true):P.underlying e=some (.int .u8):=by
 unfold isByte at hb
 split at hb
 ·assumption
 ·cases hb
theorem Xn (S:aE P w I β hp B M w0) {ts:Array TypeId} {ty e:TypeId} {v:Value} {id:Nat} {es:List V} {fz:Bool} (hv:ao P w I β hp v (.whole e id)) (ab:hp id=some (.arr e es fz)) (h0:0<es.length):
  cU P ((Builtin.unsafeSliceData_ ts ty #[v]).run P w) w I β hp B M w0 ⟨.ptr id 0 0,[]⟩:=by
 cases hv with
 | dS h=>rw[ab] at h;cases h
 | dw h _=>rw[ab] at h;cases h;simp at h0
 | eb h _ _ _ _=>rw[ab] at h;cases h
 | @whole _ _ aH mR b cap h hb bX hle hm=>
  rw[ab] at h;cases h
  refine .same S (Lib.run_unsafeSliceData_row w ts ty ⟨b,0,none⟩ es.length cap (by omega)) ?_
  have:=ao.ptr (P:=P) (w:=w) (I:=I) (β:=β) (i:=0) (c:=0) ab (by simp) hb
  simpa using this
theorem Xo (S:aE P w I β hp B M w0) {t u ty e:TypeId} {vx:Value} {id:Nat} {n:Int} {es:List V} (hu:P.underlying t=some (.pointer e)) (hb:isByte P e=true) (hv:ao P w I β hp vx (.ptr id 0 0))
  (ab:hp id=some (.arr e es false)) (h0:0<n) (hn:n≤es.length) (hm:n.toNat≤rE) (lk:(es.take n.toNat).all vw=true):cU P ((Builtin.unsafeString_ #[t,u] ty #[vx,.int .i64 n]).run P w) w I β hp B M w0 ⟨.str (ku (es.take n.toNat)),[(id,.dead)]⟩:=by
 obtain ⟨b,HS,rfl⟩:=hv.gH ab (by simp)
 have he:P.underlying e=some (.int .u8):=by
  unfold isByte at hb
  split at hb
  ·assumption
  ·cases hb
 have na:bE P e=false:=by simp[bE,he]
 have hr:=S.h.rel id _ ab
 rw[HS] at hr
 cases hr with
 | dx az=>cases az
 | @arr _ _ _ b1 Ca au lp hh hs hI cK cN=>
  cases lp
  have h1:P.cellsOf e=1:=by rw[←(jY au).1,y6 na];rfl
  have aP:=S.Vs ab (by simp) HS
  have hl:(ku (es.take n.toNat)).length=n.toNat:=by simp[ku];omega
  have HP:n=((ku (es.take n.toNat)).length:Nat):=by rw[hl];omega
  have cS:=Lib.run_unsafeString_row (P:=P) w t u ty e hu h1 b Ca.size (by simp[World.shape?,hh]) (ku (es.take n.toNat)) (fun h=>by rw[h] at hl;simp at hl;omega) (by rw[hl];rw[h1] at hs;omega) (by rw[hl];unfold rE at hm;omega) (fun j x hx=>by
   have hj:j<n.toNat:=by
    have:=(br.1 hx).1
    rw[hl] at this;exact this
   have hO:j<es.length:=by omega
   simp only[ku,fO,eO hj,bz hO,Option.map_some,dI] at hx
   obtain ⟨v,vY,bp⟩:=cN j 0 es[j] e (bz hO) (by simp[aS,na]) (by omega)
   rw[h1] at vY
   simp only[bH,na,cond_false] at bp
   have:=yl he bp
   have hr:=fc.1 lk es[j] (jq (by rw[eO hj];exact bz hO))
   simp only[vw,aK,dH] at hr
   have o4:(x.toNat:Int)=es[j].toInt:=by
    rw[←hx]
    have:es[j].toInt.toNat<256:=by omega
    simp only[UInt8.toNat_ofNat']
    omega
   rw[mY,cell?_cells hh,o4]
   rw[show 0+j=j*1+0 by omega,vY,this])
  obtain ⟨f1,f2,f3,f4,f5⟩:=Xl (w:=w) (b:=b) (n:=n.toNat)
  obtain ⟨k1,k2⟩:=CR (w':=w.freeze ⟨b,0,none⟩ n.toNat) S ab (by simp) (blk':= .dead) (by trivial) HS (cK rfl) (by simp) f1 f2 f3 ⟨f4,f5⟩ (fun _=> .dead)
  rw[←HP,hl] at cS
  refine ⟨.string ⟨(ku (es.take n.toNat)).toArray⟩,_,I,β,?_,k1,k2,.str ?_⟩
  ·simpa using cS
  ·rfl
def HT:Op→Bool
 | .call {callee:= .value (.func _),..}=>true
 | .call {callee:= .value (.tmp _),..}=>true
 | .defer _=>true
 | _=>false
theorem oY.val {o:Oper} {a:Act} {s:Sem Value} {r:R} (he:execOp a.eval o=(do Pure.pure (Next.value (←s)))) (h:cU P (s.run P w) w I β hp B M w0 r):oY P ((execOp a.eval o).run P w) w I β hp B M w0 r:=by
 rw[he];exact h.op
theorem Xp {A:cB} (S:aE P w I β hp B M w0) (hg:fZ P A.aD w I) {a:Act} {sl:Nat→V} (hs:kC P w I β hp a sl) {ix nb:Nat} {o:Oper} (HU:HT o.op=false) {r:R} {rd:List Nat}
  (h:(fg P A sl ix nb o).run C hp=some (r,rd)):oY P ((execOp a.eval o).run P w) w I β hp B M w0 r:=by
 obtain ⟨dst,op,ty,pos,after,guard⟩:=o
 cases op<;>simp only[fg] at h<;>first|(cases h;done)|skip
 case move x=>
  obtain rfl:=aN h
  exact ⟨_,w,I,β,.inl (by simp[execOp]),Le.refl w I β hp,S,hs.ev hg ty x⟩
 case assign x=>
  obtain rfl:=aN h
  exact ⟨_,w,I,β,.inl (by simp[execOp]),Le.refl w I β hp,S,hs.ev hg ty x⟩
 case pick c x y=>
  have hc:=hs.ev hg ty c
  cases tx:aO P A.aD ty sl c<;>rw[tx] at h hc<;>simp only at h<;>first|(cases h;done)|skip
  rename_i t
  have Xq:=hc.jZ
  have hx:=hs.ev hg ty x
  have hy:=hs.ev hg ty y
  have fin: ∀z:V,ao P w I β hp (if t then a.eval x else a.eval y) z→oY P ((execOp a.eval ⟨dst,.pick c x y,ty,pos,after,guard⟩).run P w) w I β hp B M w0 ⟨z,[]⟩:=by
   intro z hz
   exact ⟨_,w,I,β,.inl (by simp[execOp,Xq,asBool]),Le.refl w I β hp,S,hz⟩
  cases Ns:gone (aO P A.aD ty sl x) with
  | true=>
   rw[Ns] at h
   obtain ⟨h1,h⟩:=aF h
   obtain rfl:=aN h
   have:t=false:=by simpa using h1
   subst this
   refine fin _ ?_
   simpa using hy
  | false=>
   rw[Ns] at h
   simp only[cond_false] at h
   cases Dt:gone (aO P A.aD ty sl y) with
   | true=>
    rw[Dt] at h
    obtain ⟨h1,h⟩:=aF h
    obtain rfl:=aN h
    subst h1
    refine fin _ ?_
    simpa using hx
   | false=>
    rw[Dt] at h
    obtain rfl:=aN h
    exact fin _ (Mi hx hy)
 case makeFunc fn x y=>
  cases fn<;>simp only[fg] at h<;>first|(cases h;done)|skip
  rename_i f
  obtain rfl:=aN h
  refine ⟨.func (.func f) (x.map a.eval) (y.map a.eval),w,I,β,.inl (by simp[execOp,Instr.makeFunc]),Le.refl w I β hp,S,.fn (by simp) (fun j v z hj hz=> ?_) (by simp) (fun j v z hj hz=> ?_)⟩
  ·rw[Array.getElem?_map] at hj
   rw[fO,rr] at hz
   cases hx:x[j]? with
   | none=>rw[hx] at hj;cases hj
   | some o1=>
    rw[hx] at hj hz
    cases hj
    cases hz
    exact hs.ev hg ty o1
  ·rw[Array.getElem?_map] at hj
   rw[fO,rr] at hz
   cases hx:y[j]? with
   | none=>rw[hx] at hj;cases hj
   | some o1=>
    rw[hx] at hj hz
    cases hj
    cases hz
    exact hs.ev hg ty o1
 case defer c=>cases HU
 case makeMap t res=>
  cases res with
  | some x=>cases h
  | none=>exact .val rfl (W4 S h)
 case lookup t m k ok=>
  cases ht:la P t with
  | none=>rw[ht] at h;cases h
  | some q=>
   obtain ⟨kt,vt⟩:=q
   rw[ht] at h
   exact .val (s:=Instr.lookup t (a.eval m) (a.eval k) ok) rfl (W3 S ht (hs.ev hg t m) (hs.ev hg kt k) h)
 case mapUpdate t m k x=>
  cases ht:la P t with
  | none=>rw[ht] at h;cases h
  | some q=>
   obtain ⟨kt,vt⟩:=q
   rw[ht] at h
   have:=Nk S ht (hs.ev hg t m) (hs.ev hg kt k) (hs.ev hg vt x) h
   exact this.op
 case insert t m k x=>
  cases ht:la P t with
  | none=>rw[ht] at h;cases h
  | some q=>
   obtain ⟨kt,vt⟩:=q
   rw[ht] at h
   have:=Nk S ht (hs.ev hg t m) (hs.ev hg kt k) (hs.ev hg vt x) h
   exact this.op
 case alloc e=>
  exact .val rfl (Wa S h)
 case box e x=>
  exact .val rfl (Wb S (hs.ev hg e x) h)
 case build t ps=>exact .val rfl (Wd S hs hg h)
 case buildSlice t len ps=>
  cases hu:P.underlying t with
  | none=>rw[hu] at h;cases h
  | some d=>
   rw[hu] at h
   cases d<;>simp only at h<;>first|(cases h;done)|skip
   exact .val rfl (Wl S hs hg hu h)
 case load t x=>exact .val rfl (VI S (hs.ev hg ty x) h)
 case store t x y=>
  have:=V5 S (hs.ev hg ty x) (hs.ev hg t y) h
  exact this.op
 case nilCheck x=>
  have hx:=hs.ev hg ty x
  cases e6:aO P A.aD ty sl x<;>rw[e6] at h hx<;>simp only at h<;>first|(cases h;done)|skip
  ·obtain ⟨⟨blk,ab,hd⟩,l,h⟩:=vJ h
   obtain rfl:=aN h
   have cu:=hx
   obtain ⟨b,hb,he⟩:=hx.gH ab hd
   rw[he] at cu
   exact ⟨_,w,I,β,.inl (by simp only[execOp,he];rfl),Le.refl w I β hp,S,cu⟩
  ·obtain rfl:=aN h
   have cu:=hx
   obtain ⟨b,o,he,_⟩:=hx.CU
   rw[he] at cu
   exact ⟨_,w,I,β,.inl (by simp only[execOp,he];rfl),Le.refl w I β hp,S,cu⟩
  ·obtain ⟨e0,es,aq,l,ab,h1,U,h3,h⟩:=oa h
   obtain rfl:=aN h
   have cu:=hx
   obtain ⟨b,o,he,_⟩:=hx.Mg ab h1 U h3
   rw[he] at cu
   exact ⟨_,w,I,β,.inl (by simp only[execOp,he];rfl),Le.refl w I β hp,S,cu⟩
 case binOp op t x y yt=>
  have hx:=hs.ev hg t x
  have hy:=hs.ev hg t y
  refine .val (s:=do eqGuard op t x y (a.eval x) (a.eval y);binOp op t (a.eval x) (a.eval y)) rfl ?_
  cases e6:aO P A.aD t sl x<;>cases rW:aO P A.aD t sl y<;>rw[e6,rW] at h<;>rw[e6] at hx<;>rw[rW] at hy<;>first|(simp only[jS] at h;cases h;done)|skip
  ·rw[hx.dL,hy.dL]
   have:=Vy S h
   simpa[Vv] using this
  ·rw[hx.jZ,hy.jZ]
   have:=VA S h
   simpa[Vw] using this
  ·obtain ⟨s1,e1,l1⟩:=hx.lX
   obtain ⟨s2,e2,l2⟩:=hy.lX
   rw[e1,e2]
   rw[←l1,←l2] at h
   have:=VB (t:=t) S h
   simpa[Vx] using this
  ·obtain ⟨cs,e1,h1,U⟩:=hx.kE
   obtain ⟨ds,e2,h3,h4⟩:=hy.kE
   rw[e1,e2]
   exact VC S h1 h3 U h4 h
  ·
   simp only[jS] at h
   obtain ⟨h1,U⟩:=aF h
   clear h
   simp only[aK,aR] at h1
   obtain ⟨rfl,rfl,rfl⟩:=h1
   obtain ⟨⟨blk,ab,hd⟩,l,h⟩:=vJ U
   obtain ⟨b,hb,e1⟩:=hx.gH ab hd
   obtain ⟨b',az,e2⟩:=hy.gH ab hd
   rw[hb] at az;cases az
   rw[e1,e2]
   exact Ds S h (by cases op<;>simp[eqGuard]) fun e j he hj=>⟨run_eql_ptr_same w _ he hj,Lib.run_neq_ptr_same w _ he hj⟩
  ·simp only[jS] at h
   obtain ⟨⟨blk,ab,hd⟩,l,h⟩:=vJ h
   obtain ⟨b,_,e1⟩:=hx.gH ab hd
   rw[e1,hy.Dr]
   exact Ds S h (by cases op<;>simp[eqGuard]) fun e j he hj=>⟨Xf w t e _ he,Xg w t e _ he⟩
  ·simp only[jS] at h
   obtain ⟨⟨blk,ab,hd⟩,l,h⟩:=vJ h
   obtain ⟨b,_,e1⟩:=hy.gH ab hd
   rw[e1,hx.Dr]
   exact Ds S h (by cases op<;>simp[eqGuard]) fun e j he hj=>⟨Xh w t e _ he,Xi w t e _ he⟩
  ·simp only[jS] at h
   rw[hx.Dr,hy.Dr]
   exact Ds S h (by cases op<;>simp[eqGuard]) fun e j he hj=>⟨Xj w t e he,Xk w t e he⟩
  ·
   simp only[jS] at h
   obtain ⟨l,h⟩:=run_get h
   split at h
   ·rename_i t2 es ab
    obtain ⟨b,hb⟩:=hx.W8 ab
    rw[hy.HQ,hb]
    exact Nn (a:=some b) S x y h
   ·cases h
  ·simp only[jS] at h
   rw[hx.HQ,hy.HQ]
   exact Nn (a:=none) S x y h
 case unOp op t x=>exact .val rfl (VD S (hs.ev hg ty x) h)
 case convert src dst x=>
  have hx:=hs.ev hg ty x
  refine .val (s:=convert src dst (a.eval x)) rfl ?_
  cases iz:P.underlying src with
  | none=>rw[iz] at h;cases h
  | some d1=>
   cases nc:P.underlying dst with
   | none=>rw[iz,nc] at h;cases d1<;>cases h
   | some d2=>
    rw[iz,nc] at h
    have gT: ∀{b:Nat} {T:TypeId} {cs:List V} {id:Nat},hp id=some (.var T cs)→β id=some b→w.shape? b=some (T,cs.length):=by
     intro b T cs id ab hb
     have hr:=S.h.rel id _ ab
     rw[hb] at hr
     cases hr with
     | var az hh aU _ _ _=>cases az;simp[World.shape?,hh,aU]
    cases d1<;>(try (cases d2<;>cases h;done))
    ·cases d2<;>(try (cases h;done))
     rename_i k1 k2
     cases e6:aO P A.aD ty sl x<;>rw[e6] at h hx<;>simp only at h<;>first|(cases h;done)|skip
     obtain rfl:=aN h
     rw[hx.dL]
     exact .same S (by simp[convert,run_underlying iz,run_underlying nc,Conv.intToInt]) .int
    ·cases d2<;>(try (cases h;done))
     rename_i u
     cases e6:aO P A.aD ty sl x<;>rw[e6] at h hx<;>simp only at h<;>first|(cases h;done)|skip
     rename_i id i c
     obtain ⟨l,h1⟩:=run_get h
     cases ab:hp id with
     | none=>rw[ab] at h1;cases h1
     | some blk=>
      rw[ab] at h1
      cases blk<;>simp only at h1<;>first|(cases h1;done)|skip
      rename_i T cs
      obtain ⟨U,h3⟩:=aF h1
      simp only[aK,aR] at U
      obtain ⟨rfl,h4,h5⟩:=U
      obtain ⟨b,hb,e1⟩:=hx.gH ab (by simp)
      obtain rfl:=aN h3
      obtain ⟨j,hj⟩:=yu.1 h4
      have cu:=hx
      rw[e1] at cu⊢
      exact .same S (Lib.run_from_unsafe w _ iz nc hj (gT ab hb) (by simpa using h5)) cu
    ·cases d2<;>(try (cases h;done))
     rename_i t
     cases e6:aO P A.aD ty sl x<;>rw[e6] at h hx<;>simp only at h<;>first|(cases h;done)|skip
     rename_i id i c
     obtain ⟨l,h1⟩:=run_get h
     cases ab:hp id with
     | none=>rw[ab] at h1;cases h1
     | some blk=>
      rw[ab] at h1
      cases blk<;>simp only at h1<;>first|(cases h1;done)|skip
      rename_i T cs
      obtain ⟨U,h3⟩:=aF h1
      simp only[aK,aR,jN] at U
      obtain ⟨rfl,h4,h5⟩:=U
      obtain ⟨b,hb,e1⟩:=hx.gH ab (by simp)
      obtain rfl:=aN h3
      cases hj:P.info? t with
      | none=>rw[hj] at h5;cases h5
      | some j=>
       rw[hj] at h5
       simp only[lO] at h5
       have h6:j.size≠0:=fun e=>by rw[e] at h5;cases h5
       have cu:=hx
       rw[e1] at cu⊢
       exact .same S (Lib.run_to_unsafe w _ iz nc hj h6 (gT ab hb) (by simpa using h4)) cu
    ·rename_i e
     cases d2<;>(try (cases h;done))
     simp only at h
     cases he:P.underlying e with
     | none=>rw[he] at h;cases h
     | some d3=>
      rw[he] at h
      cases d3<;>(try (cases h;done))
      rename_i k
      cases k<;>(try (cases h;done))
      exact Xe S iz he nc hx h
 case fieldAddr s x f=>exact .val rfl (VE S (hs.ev hg ty x) h)
 case field s x f=>exact .val rfl (WD S (hs.ev hg ty x) h)
 case indexAddr t x y=>exact .val rfl (WO S (hs.ev hg ty x) (hs.ev hg 0 y) h)
 case index t x y=>
  have hx:=hs.ev hg ty x
  have hy:=hs.ev hg 0 y
  refine .val (s:=Instr.index t (a.eval x) (a.eval y)) rfl ?_
  cases hu:P.underlying t with
  | none=>rw[hu] at h;cases h
  | some d=>
   rw[hu] at h
   cases d<;>(try (cases h;done))
   cases e6:aO P A.aD ty sl x<;>rw[e6] at h hx<;>(try (cases h;done))
   cases rW:aO P A.aD 0 sl y<;>rw[rW] at h hy<;>(try (cases h;done))
   obtain ⟨s,e1,l1⟩:=hx.lX
   rw[e1,hy.dL]
   exact WG S hu l1 h
 case slice t x lo hi mx=>
  cases mx with
  | some m=>
   simp only at h
   refine .val (s:=Instr.sliceAt t (a.eval x) (lo.map a.eval) (hi.map a.eval) (some (a.eval m))) (by simp[execOp]) (WM S (hs.ev hg ty x) (fun hy=> ?_) (fun y hy=> ?_) (fun y hy=> ?_) h)
   ·cases lo with
    | none=>rfl
    | some l=>cases hy
   ·cases hi with
    | none=>cases hy
    | some l=>cases hy;exact ⟨_,rfl,hs.ev hg 0 l⟩
   ·cases hy;exact ⟨_,rfl,hs.ev hg 0 m⟩
  | none=>
   simp only at h
   have plain:(Cv P t (aO P A.aD ty sl x) (lo.map (aO P A.aD 0 sl)) (hi.map (aO P A.aD 0 sl))).run C hp=some (r,rd)→oY P ((execOp a.eval ⟨dst,.slice t x lo hi none,ty,pos,after,guard⟩).run P w) w I β hp B M w0 r:=by
    intro h
    refine .val (s:=Instr.sliceAt t (a.eval x) (lo.map a.eval) (hi.map a.eval) none) (by simp[execOp]) (WK S (hs.ev hg ty x) (fun y hy=> ?_) (fun y hy=> ?_) (fun hy=> ?_) (fun hy=> ?_) h)
    ·cases lo with
     | none=>cases hy
     | some l=>cases hy;exact ⟨_,rfl,hs.ev hg 0 l⟩
    ·cases hi with
     | none=>cases hy
     | some l=>cases hy;exact ⟨_,rfl,hs.ev hg 0 l⟩
    ·cases lo with
     | none=>rfl
     | some l=>cases hy
    ·cases hi with
     | none=>rfl
     | some l=>cases hy
   have tr:(Cw P nb t (aO P A.aD ty sl x) (lo.map (aO P A.aD 0 sl)) (hi.map (aO P A.aD 0 sl))).run C hp=some (r,rd)→oY P ((execOp a.eval ⟨dst,.slice t x lo hi none,ty,pos,after,guard⟩).run P w) w I β hp B M w0 r:=by
    intro h
    refine .val (s:=Instr.sliceAt t (a.eval x) (lo.map a.eval) (hi.map a.eval) none) (by simp[execOp]) (WR S (hs.ev hg ty x) (fun y hy=> ?_) (fun hy=> ?_) h)
    ·cases hi with
     | none=>cases hy
     | some l=>cases hy;exact ⟨_,rfl,hs.ev hg 0 l⟩
    ·cases lo with
     | none=>rfl
     | some l=>cases hy
   cases dst with
   | none=>exact plain h
   | some d=>
    simp only at h
    cases Nt:jQ A.vk d with
    | true=>rw[Nt] at h;exact tr h
    | false=>rw[Nt] at h;exact plain h
 case extract x i=>
  have hx:=hs.ev hg ty x
  cases e6:aO P A.aD ty sl x<;>rw[e6] at h hx<;>simp only at h<;>first|(cases h;done)|skip
  exact .val (s:=Instr.extract (a.eval x) i) rfl (WE S hx h)
 case makeSlice t l c=>
  have hl:=hs.ev hg 0 l
  have hc:=hs.ev hg 0 c
  refine .val (s:=Instr.makeSlice t (a.eval l) (a.eval c)) rfl ?_
  cases hu:P.underlying t with
  | none=>rw[hu] at h;cases h
  | some d=>
   rw[hu] at h
   cases d<;>(try (cases h;done))
   cases HV:aO P A.aD 0 sl l<;>rw[HV] at h hl<;>(try (cases h;done))
   cases tx:aO P A.aD 0 sl c<;>rw[tx] at h hc<;>(try (cases h;done))
   rw[hl.dL,hc.dL]
   cases dst with
   | none=>exact MS S hu h
   | some d=>
    simp only at h
    cases hg:jQ A.vk d with
    | true=>rw[hg] at h;exact Wn S hu h
    | false=>rw[hg] at h;exact MS S hu h
 case call c=>
  obtain ⟨callee,args,argTypes⟩:=c
  cases callee with
  | invoke r m=>cases h
  | value f=>
   cases f with
   | func f=>cases HU
   | tmp f=>cases HU
   | _=>cases h
  | builtin b=>
   have one: ∀{x:Operand},args.toList=[x]→args= #[x]:=fun h=>by rw[←Array.toArray_toList (xs:=args),h]
   have qu: ∀(s:Array TypeId→TypeId→Array Value→Sem Value),builtin b argTypes ty (args.map fun| .const _=>true|_=>false) (args.map a.eval)=(do Pure.pure (Next.value (←s argTypes ty (args.map a.eval))))→
     execOp a.eval ⟨dst,.call ⟨.builtin b,args,argTypes⟩,ty,pos,after,guard⟩=(do Pure.pure (Next.value (←s argTypes ty (args.map a.eval)))):=by
    intro s hb
    simp only[execOp,resolve,pure_bind,invoke]
    exact hb
   cases b<;>(try (cases h;done))
   case append=>
    simp only at h
    cases ha:args.toList with
    | nil=>rw[ha] at h;cases h
    | cons x l=>
     cases l with
     | nil=>rw[ha] at h;cases h
     | cons y l2=>
      cases l2 with
      | cons _ _=>rw[ha] at h;cases h
      | nil=>
       cases da:argTypes.toList with
       | nil=>rw[ha,da] at h;cases h
       | cons t l3=>
        cases l3 with
        | nil=>rw[ha,da] at h;cases h
        | cons u l4=>
         cases l4 with
         | cons _ _=>rw[ha,da] at h;cases h
         | nil=>
          rw[ha,da] at h
          simp only at h
          have e1:args= #[x,y]:=by rw[←Array.toArray_toList (xs:=args),ha]
          have e2:argTypes= #[t,u]:=by rw[←Array.toArray_toList (xs:=argTypes),da]
          cases hu:P.underlying t with
          | none=>rw[hu] at h;cases h
          | some d=>
           rw[hu] at h
           cases d<;>(try (cases h;done))
           cases hc:Nat.beq t u with
           | true=>
            rw[hc] at h
            rw[aR] at hc
            subst hc
            have:=Wq (ty:=ty) S hu (hs.ev hg t x) (hs.ev hg t y) h
            refine .val (qu Builtin.append_ rfl) ?_
            rw[e1,e2]
            simpa using this
           | false=>
            rw[hc] at h
            simp only[cond_false] at h
            have hy:=hs.ev hg u y
            cases oq:P.underlying u with
            | none=>rw[oq] at h;cases h
            | some du=>
             rw[oq] at h
             cases du<;>(try (cases h;done))
             cases rW:aO P A.aD u sl y<;>rw[rW] at h hy<;>(try (cases h;done))
             simp only at h
             obtain ⟨hb,h⟩:=aF h
             obtain ⟨s1,q1,q2⟩:=hy.lX
             subst q2
             have:=Xd (ty:=ty) S hu oq (Xm hb) (hs.ev hg t x) h
             refine .val (qu Builtin.append_ rfl) ?_
             rw[e1,e2]
             simpa[q1] using this
   case len=>
    simp only at h
    cases ha:args.toList with
    | nil=>rw[ha] at h;cases h
    | cons x l=>
     cases l with
     | cons _ _=>rw[ha] at h;cases h
     | nil=>
      cases da:argTypes.toList with
      | nil=>rw[ha,da] at h;cases h
      | cons t l3=>
       cases l3 with
       | cons _ _=>rw[ha,da] at h;cases h
       | nil=>
        rw[ha,da] at h
        simp only at h
        have e1:args= #[x]:=by rw[←Array.toArray_toList (xs:=args),ha]
        have e2:argTypes= #[t]:=by rw[←Array.toArray_toList (xs:=argTypes),da]
        have hx:=hs.ev hg ty x
        refine .val (qu Builtin.len_ rfl) ?_
        rw[e1,e2]
        cases hu:P.underlying t with
        | none=>rw[hu] at h;cases h
        | some d=>
         rw[hu] at h
         cases d<;>(try (cases h;done))
         ·cases e6:aO P A.aD ty sl x<;>rw[e6] at h hx<;>(try (cases h;done))
          have:=Mj (t:=t) (ty:=ty) S hx (fun l hl=>hu) (fun hn=>absurd rfl (hn _)) h
          simpa using this
         ·have U:(∀l,aO P A.aD ty sl x≠ .str l)∧(Cq P (aO P A.aD ty sl x)).run C hp=some (r,rd):=by
           cases e6:aO P A.aD ty sl x<;>rw[e6] at h<;>first|(cases h;done)|exact ⟨fun l=>by simp,h⟩
          have:=Mj (t:=t) (ty:=ty) S hx (fun l hl=>absurd hl (U.1 l)) (fun _=>⟨_,hu⟩) U.2
          simpa using this
         ·have U:(Cu (aO P A.aD ty sl x)).run C hp=some (r,rd):=by
           cases e6:aO P A.aD ty sl x<;>rw[e6] at h<;>exact h
          have:=W7 (t:=t) (ty:=ty) S hu hx U
          simpa using this
   case unsafeSliceData=>
    simp only at h
    cases ha:args.toList with
    | nil=>rw[ha] at h;cases h
    | cons x l=>
     cases l with
     | cons _ _=>rw[ha] at h;cases h
     | nil=>
      rw[ha] at h
      simp only at h
      have e1:args= #[x]:=by rw[←Array.toArray_toList (xs:=args),ha]
      have hx:=hs.ev hg ty x
      refine .val (qu Builtin.unsafeSliceData_ rfl) ?_
      rw[e1]
      cases e6:aO P A.aD ty sl x<;>rw[e6] at h hx<;>simp only at h<;>first|(cases h;done)|skip
      rename_i e id
      obtain ⟨l2,h1⟩:=run_get h
      cases ab:hp id with
      | none=>rw[ab] at h1;cases h1
      | some blk=>
       rw[ab] at h1
       cases blk<;>simp only at h1<;>first|(cases h1;done)|skip
       rename_i e' es fz
       obtain ⟨U,h3⟩:=aF h1
       simp only[aK,aR,jN] at U
       obtain ⟨rfl,h4⟩:=U
       obtain rfl:=aN h3
       have:=Xn (ts:=argTypes) (ty:=ty) S hx ab h4
       simpa using this
   case unsafeString=>
    simp only at h
    cases ha:args.toList with
    | nil=>rw[ha] at h;cases h
    | cons x l=>
     cases l with
     | nil=>rw[ha] at h;cases h
     | cons y l2=>
      cases l2 with
      | cons _ _=>rw[ha] at h;cases h
      | nil=>
       cases da:argTypes.toList with
       | nil=>rw[ha,da] at h;cases h
       | cons t l3=>
        cases l3 with
        | nil=>rw[ha,da] at h;cases h
        | cons u l4=>
         cases l4 with
         | cons _ _=>rw[ha,da] at h;cases h
         | nil=>
          rw[ha,da] at h
          simp only at h
          have e1:args= #[x,y]:=by rw[←Array.toArray_toList (xs:=args),ha]
          have e2:argTypes= #[t,u]:=by rw[←Array.toArray_toList (xs:=argTypes),da]
          have hx:=hs.ev hg ty x
          have hy:=hs.ev hg ty y
          cases hu:P.underlying t with
          | none=>rw[hu] at h;cases h
          | some d=>
           rw[hu] at h
           cases d<;>(try (cases h;done))
           rename_i e
           cases e6:aO P A.aD ty sl x<;>rw[e6] at h hx<;>(try (cases h;done))
           cases rW:aO P A.aD ty sl y<;>rw[rW] at h hy<;>(try (cases h;done))
           rename_i id i c k n
           cases k<;>(try (cases h;done))
           simp only at h
           obtain ⟨l2,h1⟩:=run_get h
           cases ab:hp id with
           | none=>rw[ab] at h1;cases h1
           | some blk=>
            rw[ab] at h1
            cases blk<;>simp only at h1<;>first|(cases h1;done)|skip
            rename_i e' es fz
            cases fz<;>simp only at h1<;>first|(cases h1;done)|skip
            obtain ⟨U,h3⟩:=aF h1
            simp only[aK,aR,dP,dH] at U
            obtain ⟨rfl,h4,rfl,rfl,h5,h6,h7,h8⟩:=U
            obtain rfl:=aN h3
            have:=Xo (u:=u) (ty:=ty) S hu h4 hx ab h5 h6 h7 h8
            refine .val (qu Builtin.unsafeString_ rfl) ?_
            rw[e1,e2]
            simpa[hy.dL] using this
   case copy=>
    simp only at h
    cases ha:args.toList with
    | nil=>rw[ha] at h;cases h
    | cons x l=>
     cases l with
     | nil=>rw[ha] at h;cases h
     | cons y l2=>
      cases l2 with
      | cons _ _=>rw[ha] at h;cases h
      | nil=>
       cases da:argTypes.toList with
       | nil=>rw[ha,da] at h;cases h
       | cons t l3=>
        cases l3 with
        | nil=>rw[ha,da] at h;cases h
        | cons u l4=>
         cases l4 with
         | cons _ _=>rw[ha,da] at h;cases h
         | nil=>
          rw[ha,da] at h
          simp only at h
          have e1:args= #[x,y]:=by rw[←Array.toArray_toList (xs:=args),ha]
          have e2:argTypes= #[t,u]:=by rw[←Array.toArray_toList (xs:=argTypes),da]
          cases hu:P.underlying t with
          | none=>rw[hu] at h;cases h
          | some d=>
           rw[hu] at h
           cases d<;>(try (cases h;done))
           have:=Wx (u:=u) (ty:=ty) S hu (hs.ev hg t x) (hs.ev hg u y) h
           refine .val (qu Builtin.copy_ rfl) ?_
           rw[e1,e2]
           simpa using this
   case clear=>
    simp only at h
    cases ha:args.toList with
    | nil=>rw[ha] at h;cases h
    | cons x l=>
     cases l with
     | cons _ _=>rw[ha] at h;cases h
     | nil=>
      cases da:argTypes.toList with
      | nil=>rw[ha,da] at h;cases h
      | cons t l3=>
       cases l3 with
       | cons _ _=>rw[ha,da] at h;cases h
       | nil=>
        rw[ha,da] at h
        simp only at h
        have e1:args= #[x]:=by rw[←Array.toArray_toList (xs:=args),ha]
        have e2:argTypes= #[t]:=by rw[←Array.toArray_toList (xs:=argTypes),da]
        cases hu:P.underlying t with
        | none=>rw[hu] at h;cases h
        | some d=>
         rw[hu] at h
         cases d<;>(try (cases h;done))
         have:=Wy (ty:=ty) S hu (hs.ev hg t x) h
         refine .val (qu Builtin.clear_ rfl) ?_
         rw[e1,e2]
         simpa using this
   case max=>
    simp only at h
    cases ha:args.toList with
    | nil=>rw[ha] at h;cases h
    | cons x l=>
     rw[ha] at h
     simp only at h
     have:=HC S true (vs:=l.map a.eval) (xs:=l.map (aO P A.aD ty sl)) (hs.ev hg ty x) (by simp) (fun j u y hu hy=>by
      simp only[fO] at hu hy
      cases hl:l[j]? with
      | none=>rw[hl] at hu;cases hu
      | some z=>rw[hl] at hu hy;cases hu;cases hy;exact hs.ev hg ty z) h
     refine .val (qu Builtin.max_ rfl) ?_
     simpa[Builtin.max_,ha] using this
   case min=>
    simp only at h
    cases ha:args.toList with
    | nil=>rw[ha] at h;cases h
    | cons x l=>
     rw[ha] at h
     simp only at h
     have:=HC S false (vs:=l.map a.eval) (xs:=l.map (aO P A.aD ty sl)) (hs.ev hg ty x) (by simp) (fun j u y hu hy=>by
      simp only[fO] at hu hy
      cases hl:l[j]? with
      | none=>rw[hl] at hu;cases hu
      | some z=>rw[hl] at hu hy;cases hu;cases hy;exact hs.ev hg ty z) h
     refine .val (qu Builtin.min_ rfl) ?_
     simpa[Builtin.min_,ha] using this
end
section
variable {P:Program} {A:cB} {w w':World} {I I' I2:Nat→Prop} {μ β β':Nat→Option Nat} {hp hp':Nat→Option an} {C:ag} {B:Nat} {M:Nat→Prop} {w0:Start}
theorem v9: ∀{l m:List Nat},dY.nW l m=true→l=m
 | [],[],_=>rfl
 | [],_::_,h=>by cases h
 | _::_,[],h=>by cases h
 | a::l,b::m,h=>by
  simp only[dY.nW,aK,aR] at h
  rw[h.1,v9 h.2]
@[simp] theorem Nu (n:Nat):ky (dQ n)=n:=by simp[ky,dQ,V.toInt]
theorem Du: ∀(path:List (Nat × Nat)) (rest:List V),yM (path.map (·.2)) ((path.map fun p=>dQ p.1)++rest)=path
 | [],_=>rfl
 | p::l,rest=>by
  simp only[cQ,List.cons_append,yM,V.nth,Nu,kq,iT,Du l rest]
theorem Dw {l:LS} {x:V} {ds:List V} (h:dY l x=some ds):ds.length=l.size∧(l= .pT∨∀rest,iq l (ds++rest)=x):=by
 cases l with
 | pT=>simp only[dY,dI] at h;subst h;exact ⟨rfl,.inl rfl⟩
 | int k=>
  cases x<;>simp only[dY] at h<;>first|(cases h;done)|skip
  rename_i k' n
  by_cases hk:k=k'
  ·subst hk
   simp only[rn,cond_true,dI] at h
   subst h
   exact ⟨rfl,.inr fun _=>rfl⟩
  ·simp[hk] at h
 | bool=>
  cases x<;>simp only[dY] at h<;>first|(cases h;done)|skip
  cases h
  exact ⟨rfl,.inr fun _=>rfl⟩
 | str=>
  cases x<;>simp only[dY] at h<;>first|(cases h;done)|skip
  cases h
  exact ⟨rfl,.inr fun _=>rfl⟩
 | list e=>
  cases x<;>simp only[dY] at h<;>first|(cases h;done)|skip
  rename_i e' es
  cases hb:Nat.beq e e' with
  | false=>rw[hb] at h;cases h
  | true=>
   rw[hb] at h
   rw[aR] at hb
   subst hb
   cases h
   exact ⟨rfl,.inr fun _=>rfl⟩
 | whole e j=>
  cases x<;>simp only[dY] at h<;>first|(cases h;done)|skip
  rename_i e' id
  cases hb:(Nat.beq e e'&&Nat.beq j id) with
  | false=>rw[hb] at h;cases h
  | true=>
   rw[hb] at h
   simp only[aK,aR] at hb
   obtain ⟨rfl,rfl⟩:=hb
   cases h
   exact ⟨rfl,.inr fun _=>rfl⟩
 | sub e j=>
  cases x<;>simp only[dY] at h<;>first|(cases h;done)|skip
  rename_i e' id o n
  cases hb:(Nat.beq e e'&&Nat.beq j id) with
  | false=>rw[hb] at h;cases h
  | true=>
   rw[hb] at h
   simp only[aK,aR] at hb
   obtain ⟨rfl,rfl⟩:=hb
   cases h
   exact ⟨rfl,.inr fun _=>by simp[iq,V.nth]⟩
 | ptr j=>
  cases x<;>simp only[dY] at h<;>first|(cases h;done)|skip
  rename_i id i c
  cases hb:(Nat.beq j id) with
  | false=>rw[hb] at h;cases h
  | true=>
   rw[hb] at h
   rw[aR] at hb
   subst hb
   cases h
   exact ⟨rfl,.inr fun _=>by simp[iq,V.nth]⟩
 | mO j i c=>
  cases x<;>simp only[dY] at h<;>first|(cases h;done)|skip
  rename_i id i' c'
  cases hb:(Nat.beq j id&&(Nat.beq i i'&&Nat.beq c c')) with
  | false=>rw[hb] at h;cases h
  | true=>
   rw[hb] at h
   simp only[aK,aR] at hb
   obtain ⟨rfl,rfl,rfl⟩:=hb
   cases h
   exact ⟨rfl,.inr fun _=>rfl⟩
 | nilS e=>
  cases x<;>simp only[dY] at h<;>first|(cases h;done)|skip
  rename_i e'
  cases hb:Nat.beq e e' with
  | false=>rw[hb] at h;cases h
  | true=>
   rw[hb] at h
   rw[aR] at hb
   subst hb
   cases h
   exact ⟨rfl,.inr fun _=>rfl⟩
 | c8=>
  cases x<;>simp only[dY] at h<;>first|(cases h;done)|skip
  cases h
  exact ⟨rfl,.inr fun _=>rfl⟩
 | cp e j=>
  cases x<;>simp only[dY] at h<;>first|(cases h;done)|skip
  rename_i e' id
  cases hb:(Nat.beq e e'&&Nat.beq j id) with
  | false=>rw[hb] at h;cases h
  | true=>
   rw[hb] at h
   simp only[aK,aR] at hb
   obtain ⟨rfl,rfl⟩:=hb
   cases h
   exact ⟨rfl,.inr fun _=>rfl⟩
 | dk e=>
  cases x<;>simp only[dY] at h<;>first|(cases h;done)|skip
  rename_i e'
  cases hb:Nat.beq e e' with
  | false=>rw[hb] at h;cases h
  | true=>
   rw[hb] at h
   rw[aR] at hb
   subst hb
   cases h
   exact ⟨rfl,.inr fun _=>rfl⟩
 | Ck k n=>
  cases x<;>simp only[dY] at h<;>first|(cases h;done)|skip
  rename_i k' m
  cases hb:(decide (k=k')&&decide (m=n)) with
  | false=>rw[hb] at h;cases h
  | true=>
   rw[hb] at h
   simp only[aK,dH] at hb
   obtain ⟨rfl,rfl⟩:=hb
   cases h
   exact ⟨rfl,.inr fun _=>rfl⟩
 | vj b=>
  cases x<;>simp only[dY] at h<;>first|(cases h;done)|skip
  rename_i c
  cases hb:decide (b=c) with
  | false=>rw[hb] at h;cases h
  | true=>
   rw[hb] at h
   obtain rfl:=gy hb
   cases h
   exact ⟨rfl,.inr fun _=>rfl⟩
 | row e j cs=>
  cases x<;>simp only[dY] at h<;>first|(cases h;done)|skip
  rename_i e' id ver path
  cases hb:(Nat.beq e e'&&(Nat.beq j id&&(Nat.beq ver 0&&dY.nW cs (path.map (·.2))))) with
  | false=>rw[hb] at h;cases h
  | true=>
   rw[hb] at h
   simp only[aK,aR] at hb
   obtain ⟨rfl,rfl,rfl,oe⟩:=hb
   have:=v9 oe
   subst this
   cases h
   exact ⟨by simp[LS.size],.inr fun rest=>by simp only[iq,Du]⟩
 | cA j cs c=>
  cases x<;>simp only[dY] at h<;>first|(cases h;done)|skip
  rename_i id ver path i c'
  cases hb:(Nat.beq j id&&(Nat.beq ver 0&&(Nat.beq c c'&&dY.nW cs (path.map (·.2))))) with
  | false=>rw[hb] at h;cases h
  | true=>
   rw[hb] at h
   simp only[aK,aR] at hb
   obtain ⟨rfl,rfl,rfl,oe⟩:=hb
   have:=v9 oe
   subst this
   cases h
   exact ⟨by simp[LS.size],.inr fun rest=>by simp only[iq,List.cons_append,V.nth,Nu,kq,iT,Du]⟩
def LS.below (n:Nat) (x:V):Prop:= ∀id∈dZ x,id<n
def Nw:V→Prop
 | .agg _=>False
 | .bd _=>False
 | .fn .. =>False
 | .pref .. =>False
 | _=>True
theorem tG {c:Bool} {a d:List V} (h:(bif c then some a else none)=some d):c=true:=by
 cases c with
 | true=>rfl
 | false=>cases h
theorem Xr {l:LS} {x:V} {ds:List V} {n:Nat} (h:dY l x=some ds) (hl:l≠ .pT) (au:l.ok n=true):Nw x∧LS.below n x:=by
 cases l<;>cases x<;>simp only[dY] at h<;>first|(cases h;done)|(exact absurd rfl hl)|skip
 all_goals refine ⟨trivial,fun id ab=> ?_⟩
 all_goals simp only[dZ,dX,List.not_mem_nil] at ab
 all_goals subst ab
 all_goals simp only[LS.ok,jN] at au
 all_goals
  have hb:=tG h
  simp only[aK,aR] at hb
  omega
theorem ao.Xs {v:Value} {x:V} (h:ao P w I β hp v x) (hx:Nw x) (hs: ∀id∈dZ x,hp' id=hp id∧β' id=β id):ao P w I β' hp' v x:=by
 have one: ∀{id},id∈dZ x→hp' id=hp id∧β' id=β id:=fun h=>hs _ h
 cases h with
 | undef=>exact .undef
 | int=>exact .int
 | bool=>exact .bool
 | str h=>exact .str h
 | list h=>exact .list h
 | nilS=>exact .nilS
 | agg=>exact hx.elim
 | bd=>exact hx.elim
 | c8=>exact .c8
 | fn=>exact hx.elim
 | pref=>exact hx.elim
 | dS h=>exact .dS ((one (by simp[dZ])).1.trans h)
 | fQ h=>exact .fQ ((one (by simp[dZ])).1.trans h)
 | jW h=>exact .jW ((one (by simp[dZ])).1.trans h)
 | dw h hb=>exact .dw ((one (by simp[dZ])).1.trans h) ((one (by simp[dZ])).2.trans hb)
 | whole h hb a b c=>exact .whole ((one (by simp[dZ])).1.trans h) ((one (by simp[dZ])).2.trans hb) a b c
 | eb h hb a b c=>exact .eb ((one (by simp[dZ])).1.trans h) ((one (by simp[dZ])).2.trans hb) a b c
 | fA h hb=>exact .fA ((one (by simp[dZ])).1.trans h) ((one (by simp[dZ])).2.trans hb)
 | sub h hb a b c=>exact .sub ((one (by simp[dZ])).1.trans h) ((one (by simp[dZ])).2.trans hb) a b c
 | ptr h hd hb=>exact .ptr ((one (by simp[dZ])).1.trans h) hd ((one (by simp[dZ])).2.trans hb)
 | jt h qp=>exact .jt ((one (by simp[dZ])).1.trans h) qp
 | ju h qp=>exact .ju ((one (by simp[dZ])).1.trans h) qp
 | row h hb a b c d=>exact .row ((one (by simp[dZ])).1.trans h) ((one (by simp[dZ])).2.trans hb) a b c d
 | cA h hb a b c d e=>exact .cA ((one (by simp[dZ])).1.trans h) ((one (by simp[dZ])).2.trans hb) a b c d e
 | dk=>exact .dk
 | g9 h=>exact .g9 ((one (by simp[dZ])).1.trans h)
 | cp h hb=>exact .cp ((one (by simp[dZ])).1.trans h) ((one (by simp[dZ])).2.trans hb)
theorem nf {a b:List V} {n:Nat} (h:a.length=n):(a++b).drop n=b:=by subst h;simp
def zw (n:Nat) (β:Nat→Option Nat) (hp:Nat→Option an) (β':Nat→Option Nat) (hp':Nat→Option an):Prop:= ∀id,id<n→hp' id=hp id∧β' id=β id
theorem Nx {l:LS} {x:V} {ds:List V} {n:Nat} {v:Value} (h:dY l x=some ds) (au:l.ok n=true) (iG:zw n β hp β' hp') (hv:ao P w I β hp v x) (rest:List V):
  ao P w I β' hp' v (iq l (ds++rest)):=by
 rcases (Dw h).2 with e|e
 ·subst e;exact .undef
 ·rw[e rest]
  by_cases hu:l= .pT
  ·subst hu
   have:x= .undef:=(e rest).symm
   subst this
   exact .undef
  ·obtain ⟨h1,U⟩:=Xr h hu au
   exact hv.Xs h1 fun id ab=>iG id (U id ab)
theorem zx {n:Nat} (iG:zw n β hp β' hp'): ∀{ls:List LS} {xs:List V} {ds:List V},oT ls xs=some ds→ls.all (LS.ok n)=true→
  ds.length=jT ls∧(∀rest,(gU ls (ds++rest)).length=xs.length)∧
  ∀(rest:List V) (j:Nat) (v:Value) (y:V),(∀x,xs[j]? =some x→ao P w I β hp v x)→(gU ls (ds++rest))[j]? =some y→ao P w I β' hp' v y
 | [],[],ds,h,_=>by cases h;exact ⟨rfl,fun _=>rfl,fun rest j v y _ hy=>by simp[gU] at hy⟩
 | [],_::_,ds,h,_=>by cases h
 | _::_,[],ds,h,_=>by cases h
 | l::ls,x::xs,ds,h,au=>by
  simp only[oT] at h
  obtain ⟨a,h1,h⟩:=bind_some h
  obtain ⟨b,U,h⟩:=bind_some h
  cases h
  simp only[List.all_cons,aK] at au
  obtain ⟨i1,i2,i3⟩:=zx iG U au.2
  have cb:=(Dw h1).1
  have hd: ∀rest,(a++b++rest).drop l.size=b++rest:=fun rest=>by rw[cr];exact nf cb
  refine ⟨by simp only[cx,jT];omega,fun rest=>by simp only[gU,List.length_cons,hd,i2],fun rest j v y hv hy=> ?_⟩
  simp only[gU,hd] at hy
  cases j with
  | zero=>
   simp at hy
   subst hy
   exact Nx h1 au.1 iG (hv x rfl) _
  | succ j=>exact i3 rest j v y (fun x hx=>hv x (by simpa using hx)) (by simpa using hy)
theorem HW: ∀{ls:List LS} {xs:List V} {ds:List V},oT ls xs=some ds→ls.all LS.plain=true→ds.length=jT ls∧∀rest,gU ls (ds++rest)=xs
 | [],[],ds,h,_=>by cases h;exact ⟨rfl,fun _=>rfl⟩
 | [],_::_,ds,h,_=>by cases h
 | _::_,[],ds,h,_=>by cases h
 | l::ls,x::xs,ds,h,au=>by
  simp only[oT] at h
  obtain ⟨a,h1,h⟩:=bind_some h
  obtain ⟨b,U,h⟩:=bind_some h
  cases h
  simp only[List.all_cons,aK] at au
  obtain ⟨i1,i2⟩:=HW U au.2
  obtain ⟨cb,hm⟩:=Dw h1
  refine ⟨by simp only[cx,jT];omega,fun rest=> ?_⟩
  simp only[gU]
  rw[show (a++b++rest).drop l.size=b++rest by rw[cr];exact nf cb,i2,cr]
  rcases hm with e|e
  ·subst e;cases au.1
  ·rw[e]
theorem HX {n:Nat} (iG:zw n β hp β' hp') {s:VS} {x:V} {ds:List V} (h:oU s x=some ds) (au:s.ok n=true):
  ds.length=s.size∧∀(rest:List V) (v:Value),ao P w I β hp v x→ao P w I β' hp' v (kA s (ds++rest)):=by
 cases s with
 | one l=>exact ⟨(Dw h).1,fun rest v hv=>Nx h au iG hv rest⟩
 | agg ls=>
  cases x<;>simp only[oU] at h<;>first|(cases h;done)|skip
  rename_i xs
  obtain ⟨i1,i2,i3⟩:=zx (P:=P) (w:=w) (I:=I) iG h au
  refine ⟨i1,fun rest v hv=> ?_⟩
  obtain ⟨cs,rfl,e1,e2⟩:=hv.kE
  exact .agg (by rw[i2];exact e1) fun j v y hj hy=>i3 rest j v y (fun x hx=>e2 j v x hj hx) hy
 | bd ls=>
  cases x<;>simp only[oU] at h<;>first|(cases h;done)|skip
  rename_i xs
  obtain ⟨i1,i2,i3⟩:=zx (P:=P) (w:=w) (I:=I) iG h au
  refine ⟨i1,fun rest v hv=> ?_⟩
  obtain ⟨cs,rfl,e1,e2⟩:=hv.tm
  exact .bd (by rw[i2];exact e1) fun j v y hj hy=>i3 rest j v y (fun x hx=>e2 j v x hj hx) hy
 | fn f a b=>
  cases x<;>simp only[oU] at h<;>first|(cases h;done)|skip
  rename_i f' xs ys
  cases hb:Nat.beq f f' with
  | false=>rw[hb] at h;cases h
  | true=>
   rw[hb] at h
   rw[aR] at hb
   subst hb
   simp only[cond_true] at h
   obtain ⟨p,h1,h⟩:=bind_some h
   obtain ⟨q,U,h⟩:=bind_some h
   cases h
   simp only[VS.ok,aK] at au
   obtain ⟨i1,i2,i3⟩:=zx (P:=P) (w:=w) (I:=I) iG h1 au.1
   obtain ⟨j1,j2,j3⟩:=zx (P:=P) (w:=w) (I:=I) iG U au.2
   refine ⟨by simp only[cx,VS.size];omega,fun rest v hv=> ?_⟩
   cases hv with
   | fn a1 a2 b1 b2=>
    simp only[kA]
    rw[show (p++q++rest).drop (jT a)=q++rest by rw[cr];exact nf i1,cr]
    exact .fn (by rw[i2];exact a1) (fun j v y hj hy=>i3 _ j v y (fun x hx=>a2 j v x hj hx) hy) (by rw[j2];exact b1) (fun j v y hj hy=>j3 _ j v y (fun x hx=>b2 j v x hj hx) hy)
 | pref ts ls=>
  cases x<;>simp only[oU] at h<;>first|(cases h;done)|skip
  rename_i vr xs
  cases hb:dY.nW ts vr with
  | false=>rw[hb] at h;cases h
  | true=>
   rw[hb] at h
   have:=v9 hb
   subst this
   simp only[cond_true] at h
   refine ⟨?_,fun rest v hv=> ?_⟩
   ·exact (HW h au).1
   ·simp only[kA]
    rw[(HW h au).2]
    cases hv with
    | pref hl hI hc=>exact .pref hl hI hc
theorem zy {n:Nat} (iG:zw n β hp β' hp'): ∀{ls:List VS} {xs:List V} {ds:List V},pK ls xs=some ds→ls.all (VS.ok n)=true→
  ds.length=rH ls∧(∀rest,(ff ls (ds++rest)).length=xs.length)∧
  ∀(rest:List V) (j:Nat) (v:Value) (y:V),(∀x,xs[j]? =some x→ao P w I β hp v x)→(ff ls (ds++rest))[j]? =some y→ao P w I β' hp' v y
 | [],[],ds,h,_=>by cases h;exact ⟨rfl,fun _=>rfl,fun rest j v y _ hy=>by simp[ff] at hy⟩
 | [],_::_,ds,h,_=>by cases h
 | _::_,[],ds,h,_=>by cases h
 | l::ls,x::xs,ds,h,au=>by
  simp only[pK] at h
  obtain ⟨a,h1,h⟩:=bind_some h
  obtain ⟨b,U,h⟩:=bind_some h
  cases h
  simp only[List.all_cons,aK] at au
  obtain ⟨i1,i2,i3⟩:=zy iG U au.2
  obtain ⟨cb,vY⟩:=HX (P:=P) (w:=w) (I:=I) iG h1 au.1
  have hd: ∀rest,(a++b++rest).drop l.size=b++rest:=fun rest=>by rw[cr];exact nf cb
  refine ⟨by simp only[cx,rH];omega,fun rest=>by simp only[ff,List.length_cons,hd,i2],fun rest j v y hv hy=> ?_⟩
  simp only[ff,hd] at hy
  cases j with
  | zero=>
   simp at hy
   subst hy
   exact vY _ v (hv x rfl)
  | succ j=>exact i3 rest j v y (fun x hx=>hv x (by simpa using hx)) (by simpa using hy)
end
section
variable {P:Program} {A:cB} {w w':World} {I I' I2:Nat→Prop} {μ β β':Nat→Option Nat} {hp hp' hp0:Nat→Option an} {C:ag} {B:Nat} {M:Nat→Prop} {w0:Start}
theorem gM: ∀{l:List an} {j:Nat},jr l j=l[j]?
 | [],j=>by simp[jr]
 | b::l,0=>rfl
 | b::l,j+1=>by simp only[jr,gM,List.getElem?_cons_succ]
theorem HY {sl:Nat→V} {k:Nat} {y:V}: ∀{l:List (Nat × VS)} {ds:List V},yK sl l=some ds→(∀p∈l,∀d,oU p.2 (sl p.1)=some d→d.length=p.2.size)→
  ds.length=nX l∧∀rest,dv (eX l (ds++rest)) k=some y→∃s d fV,(k,s)∈l∧oU s (sl k)=some d∧y=kA s (d++fV)
 | [],ds,h,_=>by cases h;exact ⟨rfl,fun rest h=>by cases h⟩
 | (q,s)::l,ds,h,hz=>by
  simp only[yK] at h
  obtain ⟨a,h1,h⟩:=bind_some h
  obtain ⟨b,U,h⟩:=bind_some h
  cases h
  obtain ⟨i1,i2⟩:=HY (k:=k) (y:=y) U fun p hp=>hz p (kX _ hp)
  have cb:=hz (q,s) (ru ..) a h1
  refine ⟨by simp only[cx,nX];simp only at cb;omega,fun rest hl=> ?_⟩
  simp only[eX,dv] at hl
  rw[show (a++b++rest).drop s.size=b++rest by rw[cr];exact nf cb] at hl
  cases hb:Nat.beq k q with
  | true=>
   rw[hb] at hl
   rw[aR] at hb
   subst hb
   cases hl
   exact ⟨s,a,b++rest,ru ..,h1,by rw[cr]⟩
  | false=>
   rw[hb] at hl
   obtain ⟨s',d,fV,m1,m2,m3⟩:=i2 rest hl
   exact ⟨s',d,fV,kX _ m1,m2,m3⟩
theorem HZ {α:Type} {c:Bool} {x:Option α} {a:α} (h:(bif c then x else none)=some a):c=true∧x=some a:=by
 cases c with
 | true=>exact ⟨rfl,h⟩
 | false=>cases h
theorem Xt {n:Nat} {b:BS} {o:Option an} {ds:List V} (h:kz b o=some ds) (au:b.ok n=true):ds.length=b.size:=by
 cases b with
 | dead=>cases o<;>(cases h;rfl)
 | var T0 ls=>
  cases o with
  | none=>cases h
  | some blk=>
   cases blk<;>simp only[kz] at h<;>first|(cases h;done)|skip
   exact (zy (P:=default) (w:=default) (I:=fun _=>False) (β:=fun _=>none) (hp:=fun _=>none) (fun _ _=>⟨rfl,rfl⟩) (HZ h).2 au).1
 | arr e fz=>
  cases o with
  | none=>cases h
  | some blk=>
   cases blk<;>simp only[kz] at h<;>first|(cases h;done)|skip
   rw[tG h] at h
   cases h
   rfl
 | nest e=>
  cases o with
  | none=>cases h
  | some blk=>
   cases blk<;>simp only[kz] at h<;>first|(cases h;done)|skip
   rw[tG h] at h
   cases h
   rfl
 | map t=>
  cases o with
  | none=>cases h
  | some blk=>
   cases blk<;>simp only[kz] at h<;>first|(cases h;done)|skip
   rw[tG h] at h
   cases h
   rfl
theorem Ny {n:Nat}: ∀{l:List BS} {j:Nat} {ds:List V},yL hp j l=some ds→l.all (BS.ok n)=true→
  (∀rest,(ek l (ds++rest)).length=l.length)∧∀(rest:List V) (i:Nat) (blk:an),(ek l (ds++rest))[i]? =some blk→∃b d fV,l[i]? =some b∧b.ok n=true∧kz b (hp (j+i))=some d∧blk=fw b (d++fV)
 | [],j,ds,h,_=>by cases h;exact ⟨fun _=>rfl,fun rest i blk hb=>by simp[ek] at hb⟩
 | b::l,j,ds,h,au=>by
  simp only[yL] at h
  obtain ⟨a,h1,h⟩:=bind_some h
  obtain ⟨c,U,h⟩:=bind_some h
  cases h
  simp only[List.all_cons,aK] at au
  obtain ⟨i1,i2⟩:=Ny U au.2
  have cb:=Xt h1 au.1
  have hd: ∀rest,(a++c++rest).drop b.size=c++rest:=fun rest=>by rw[cr];exact nf cb
  refine ⟨fun rest=>by simp only[ek,List.length_cons,hd,i1],fun rest i blk hb=> ?_⟩
  simp only[ek,hd] at hb
  cases i with
  | zero=>
   simp at hb
   exact ⟨b,a,c++rest,rfl,au.1,h1,by rw[←hb]⟩
  | succ i=>
   obtain ⟨b',d,fV,m1,m2,m3,m4⟩:=i2 rest i blk (by simpa using hb)
   exact ⟨b',d,fV,by simpa using m1,m2,by rw[show j+(i+1)=j+1+i by omega];exact m3,m4⟩
theorem Xu {n:Nat} {b:BS} {blk:an} {ds rest:List V} (h:kz b (some blk)=some ds) (au:b.ok n=true):
  blk.le (fw b (ds++rest))∧(fw b (ds++rest)= .dead∨fw b (ds++rest)=blk∨∃T ls cs,b= .var T ls∧blk= .var T cs∧pK ls cs=some ds∧fw b (ds++rest)= .var T (ff ls (ds++rest))):=by
 cases b with
 | dead=>exact ⟨by cases blk<;>trivial,.inl rfl⟩
 | var T0 ls=>
  cases blk<;>simp only[kz] at h<;>first|(cases h;done)|skip
  obtain ⟨hT,h0⟩:=HZ h
  clear h
  rw[aR] at hT
  subst hT
  exact ⟨rfl,.inr (.inr ⟨_,_,_,rfl,rfl,h0,rfl⟩)⟩
 | arr e fz=>
  cases blk<;>simp only[kz] at h<;>first|(cases h;done)|skip
  rename_i e' es mR
  have hb:=tG h
  simp only[aK,aR,rv] at hb
  obtain ⟨rfl,rfl⟩:=hb
  simp only[jo,beq_self_eq_true,Bool.and_self,cond_true,dI] at h
  subst h
  exact ⟨⟨rfl,rfl⟩,.inr (.inl rfl)⟩
 | nest e=>
  cases blk<;>simp only[kz] at h<;>first|(cases h;done)|skip
  rename_i e' es aq
  have hb:=tG h
  simp only[aK,aR] at hb
  obtain ⟨rfl,hv⟩:=hb
  have:=v9 hv
  subst this
  simp only[jo,mL] at h
  cases h
  exact ⟨⟨rfl,rfl,rfl,fun _=>ch _⟩,.inr (.inl rfl)⟩
 | map t=>
  cases blk<;>simp only[kz] at h<;>first|(cases h;done)|skip
  rename_i t' es
  have hb:=tG h
  rw[aR] at hb
  subst hb
  simp only[jo,cond_true,dI] at h
  subst h
  exact ⟨rfl,.inr (.inl rfl)⟩
theorem Nz {m:Nat} {S:Shape} {st:St} {ds:List V} (h:js m S st=some ds):
  S.ok=true∧m≤S.a8.length∧∃a b,yK st.sl S.bK=some a∧yL st.hp 0 S.a8=some b∧ds=a++b:=by
 unfold js at h
 cases hc:(S.ok&&Nat.ble m S.a8.length) with
 | false=>rw[hc] at h;cases h
 | true=>
  rw[hc] at h
  simp only[cond_true] at h
  simp only[aK,dP] at hc
  obtain ⟨a,h1,h⟩:=bind_some h
  obtain ⟨b,U,h⟩:=bind_some h
  cases h
  exact ⟨hc.1,hc.2,a,b,h1,U,rfl⟩
theorem reshape {m:Nat} {S:Shape} {st:St} {ds:List V} (h:js m S st=some ds) (hS:aE P w I β st.hp B M w0):
  aE P w I β (bn S ds).hp B M w0∧(∀(k:Nat) (v:Value),ao P w I β st.hp v (st.sl k)→ao P w I β (bn S ds).hp v ((bn S ds).sl k))∧
  (∀(μ:Nat→Option Nat) (hp0:Nat→Option an),(∀id blk,hp0 id=some blk→id<m)→Le P w0.w w0.I μ hp0 w I β st.hp→Le P w0.w w0.I μ hp0 w I β (bn S ds).hp)∧
  ∀j blk',(bn S ds).hp j=some blk'→blk'≠ .dead→∃blk,st.hp j=some blk∧blk.le blk'∧∀o b,bt P w o blk' b→bt P w o blk b:=by
 obtain ⟨au,hm,a,b,h1,U,rfl⟩:=Nz h
 unfold Shape.ok at au
 rw[aK] at au
 obtain ⟨NA,HE⟩:=au
 have aU: ∀p∈S.bK,∀d,oU p.2 (st.sl p.1)=some d→d.length=p.2.size:=fun p hp d hd=>
  (HX (P:=P) (w:=w) (I:=I) (β:=β) (hp:=st.hp) (fun _ _=>⟨rfl,rfl⟩) hd (fc.1 NA p hp)).1
 have cb:a.length=nX S.bK:=(HY (k:=0) (y:= .undef) h1 aU).1
 have Dl:(bn S (a++b)).hp=jr (ek S.a8 (b++[])):=by
  simp only[bn,mk,dJ]
  rw[nf cb]
 obtain ⟨bl,bg⟩:=Ny U HE
 have get: ∀j blk',(bn S (a++b)).hp j=some blk'→j<S.a8.length∧∃bs d fV,bs.ok S.a8.length=true∧kz bs (st.hp j)=some d∧blk'=fw bs (d++fV):=by
  intro j blk' hj
  rw[Dl,gM] at hj
  obtain ⟨bs,d,fV,m1,m2,m3,m4⟩:=bg [] j blk' hj
  rw[ga] at m3
  exact ⟨(br.1 m1).1,bs,d,fV,m2,m3,m4⟩
 have have': ∀j,j<S.a8.length→∃blk',(bn S (a++b)).hp j=some blk':=by
  intro j hj
  rw[Dl,gM]
  exact ⟨_,bz (by rw[bl];exact hj)⟩
 generalize gF:(bn S (a++b)).hp=tH at*
 let bp:Nat→Option an:=fun id=>if id<S.a8.length then tH id else st.hp id
 have back: ∀j blk',tH j=some blk'→blk'≠ .dead→∃blk,st.hp j=some blk∧blk.le blk'∧(blk'=blk∨∃T ls cs d fV,ls.all (VS.ok S.a8.length)=true∧blk= .var T cs∧pK ls cs=some d∧blk'= .var T (ff ls (d++fV))):=by
  intro j blk' hj hd
  obtain ⟨b9,bs,d,fV,m1,m2,m3⟩:=get j blk' hj
  cases ca:st.hp j with
  | none=>
   rw[ca] at m2
   cases bs<;>simp only[kz] at m2<;>first|(cases m2;done)|skip
   exact absurd m3 hd
  | some blk=>
   rw[ca] at m2
   obtain ⟨n1,n2⟩:=Xu (rest:=fV) m2 m1
   rw[←m3] at n1 n2
   refine ⟨blk,rfl,n1,?_⟩
   rcases n2 with e|e|⟨T,ls,cs,e1,e2,e3,e4⟩
   ·exact absurd e hd
   ·exact .inl e
   ·subst e1
    exact .inr ⟨T,ls,cs,d,fV,m1,e2,e3,e4⟩
 have Xv: ∀j blk,st.hp j=some blk→j<S.a8.length→∃blk',tH j=some blk'∧blk.le blk':=by
  intro j blk hj b9
  obtain ⟨blk',az⟩:=have' j b9
  refine ⟨blk',az,?_⟩
  by_cases hd:blk'= .dead
  ·subst hd;cases blk<;>trivial
  ·obtain ⟨bP,e1,e2,_⟩:=back j blk' az hd
   rw[hj] at e1;cases e1
   exact e2
 have Xw: ∀j e es aq e' aH vers',st.hp j=some (.nest e es aq)→tH j=some (.nest e' aH vers')→e'=e∧aH=es∧vers'=aq:=by
  intro j e es aq e' aH vers' hj gj
  obtain ⟨blk,e1,_,e3⟩:=back j _ gj (by simp)
  rw[hj] at e1;cases e1
  rcases e3 with e3|⟨_,_,_,_,_,_,e3,_⟩
  ·cases e3;exact ⟨rfl,rfl,rfl⟩
  ·cases e3
 have hle:Le P w I β st.hp w I β bp:=by
  refine ⟨fun _ h=>h,fun _ _=>rfl,fun id blk ab=> ?_,fun _ _ _ _ _ _ _ _=>rfl,Le.rN (fun _ _ _ _ _ _=>rfl) fun id e es aq e' aH vers' ab bB=> ?_⟩
  ·by_cases hl:id<S.a8.length
   ·obtain ⟨blk',e1,e2⟩:=Xv id blk ab hl
    exact ⟨blk',by simp only[bp,aj hl];exact e1,e2,fun _=>rfl⟩
   ·exact ⟨blk,by simp only[bp,ah hl];exact ab,an.le_refl _,fun _=>rfl⟩
  ·by_cases hl:id<S.a8.length
   ·simp only[bp,aj hl] at bB
    exact Xw _ _ _ _ _ _ _ ab bB
   ·simp only[bp,ah hl] at bB
    rw[ab] at bB;cases bB
    exact ⟨rfl,rfl,rfl⟩
 have iG:zw S.a8.length β bp β tH:=fun id ab=>⟨by simp only[bp,aj ab],rfl⟩
 have vR: ∀j blk' blk o b,tH j=some blk'→st.hp j=some blk→bt P w o blk' b→bt P w o blk b:=by
  intro j blk' blk o b gj hj ho
  obtain ⟨bP,e1,_,e3⟩:=back j blk' gj ho.alive
  rw[hj] at e1;cases e1
  rcases e3 with e3|⟨T,ls,cs,d,fV,_,e3,_,e5⟩
  ·subst e3;exact ho
  ·subst e3;subst e5
   exact .root (by simp) (ho.flat (by simp))
 refine ⟨⟨⟨fun j blk' hj=> ?_,fun j1 j2 b1 b2 b' e1 e2 o1 o2=> ?_,fun j blk b' hj ho=> ?_,hS.h.jv⟩,hS.b8,hS.size,hS.new,hS.io⟩,fun k v hv=> ?_,fun μ hp0 aP hE=> ?_,fun j blk' hj hd=> ?_⟩
 ·by_cases hd:blk'= .dead
  ·subst hd;exact .dead
  ·obtain ⟨blk,e1,_,e3⟩:=back j blk' hj hd
   have hr:=hS.h.rel j blk e1
   generalize β j=o at hr
   rcases e3 with e3|⟨T0,ls,cs,d,fV,q1,e3,e4,e5⟩
   ·subst e3
    cases hr with
    | @var xs b' Ca T hb hh hs cK hx fS=>
     obtain ⟨b9,bs,d,fV,m1,m2,m3⟩:=get j _ hj
     rw[e1] at m2
     cases bs<;>simp only[kz] at m2<;>first|(cases m2;done)|skip
     ·rename_i T0 ls
      simp only[fw] at m3
      obtain ⟨hT,m2⟩:=HZ m2
      obtain ⟨i1,i2,i3⟩:=zy (P:=P) (w:=w) (I:=I) iG m2 m1
      injection m3 with m4 m3
      rw[m3]
      exact .var hb hh (by rw[i2];exact hs) cK (fun i v y hi hy=>i3 fV i v y (fun x cu=>(hx i v x hi cu).mono hle) hy) fS
     ·simp only[fw] at m3
      cases m3
    | dx hb=>exact .dx hb
    | arr a1 a2 a3 a4 a5 a6 a7=>exact .arr a1 a2 a3 a4 a5 a6 a7
    | dead=>exact absurd rfl hd
    | nest a1 a2 a3=>exact .nest a1 a2 a3
    | map a1 a2 a3 a4 a5 a6 a7=>exact .map a1 a2 a3 a4 a5 a6 a7
   ·subst e3
    subst e5
    cases hr with
    | @var xs b' Ca T hb hh hs cK hx fS=>
     obtain ⟨i1,i2,i3⟩:=zy (P:=P) (w:=w) (I:=I) iG e4 q1
     exact .var hb hh (by rw[i2];exact hs) cK (fun i v y hi hy=>i3 fV i v y (fun x cu=>(hx i v x hi cu).mono hle) hy) fS
 ·obtain ⟨c1,x1,_,_⟩:=back j1 b1 e1 o1.alive
  obtain ⟨c2,x2,_,_⟩:=back j2 b2 e2 o2.alive
  exact hS.h.inj j1 j2 c1 c2 b' x1 x2 (vR _ _ _ _ _ e1 x1 o1) (vR _ _ _ _ _ e2 x2 o2)
 ·obtain ⟨c1,x1,_,_⟩:=back j blk hj ho.alive
  exact hS.h.own j c1 b' x1 (vR _ _ _ _ _ hj x1 ho)
 ·change ao P w I β tH v (iX (eX S.bK (a++b)) k)
  unfold iX
  cases H0:dv (eX S.bK (a++b)) k with
  | none=>exact .undef
  | some y=>
   obtain ⟨s,d,fV,n1,n2,n3⟩:=(HY h1 aU).2 b H0
   simp only[Option.getD_some,n3]
   exact (HX (P:=P) (w:=w) (I:=I) iG n2 (fc.1 NA _ n1)).2 fV v (hv.mono hle)
 ·have h3:=hE.trans hle
  refine ⟨h3.c9,h3.b8,fun id blk ab=> ?_,fun id blk blk' b' ab bB hd hb=> ?_,fun id e es aq e' aH vers' b2 q i c t v e1 l ab bB=> ?_⟩
  ·have hl:=aP id blk ab
   obtain ⟨blk',k1,k2,k3⟩:=h3.blk id blk ab
   simp only[bp,aj (show id<S.a8.length by omega)] at k1
   exact ⟨blk',k1,k2,k3⟩
  ·have hl:=aP id blk ab
   exact h3.size id blk blk' b' ab (by simp only[bp,aj (show id<S.a8.length by omega)];exact bB) hd hb
  ·have hl:=aP id _ ab
   exact h3.row id e es aq e' aH vers' b2 q i c t v e1 l ab (by simp only[bp,aj (show id<S.a8.length by omega)];exact bB)
 ·obtain ⟨blk,e1,e2,_⟩:=back j blk' hj hd
  exact ⟨blk,e1,e2,fun o b' ho=>vR _ _ _ _ _ hj e1 ho⟩
end
section
variable {P:Program} {A:cB} {w w':World} {I I' I2:Nat→Prop} {μ β β':Nat→Option Nat} {hp hp' hp0:Nat→Option an} {C:ag} {B:Nat} {M:Nat→Prop} {w0:Start}
inductive dN (P:Program) (w:World) (β:Nat→Option Nat) (hp:Nat→Option an):Place→Option Nat→an→Prop
 | var {id:Nat} {T:TypeId} {cs H2:List V}:hp id=some (.var T cs)→dN P w β hp (.blk id) (β id) (.var T H2)
 | arr {id:Nat} {e:TypeId} {es:List V}:hp id=some (.arr e es false)→dN P w β hp (.blk id) (β id) (.arr e es false)
 | nest {id:Nat} {e:TypeId} {es:List V} {aq:List Nat}:hp id=some (.nest e es aq)→dN P w β hp (.blk id) (β id) (.nest e es [0,0,0])
 | row {id ver b b':Nat} {path:Path} {e0 e':TypeId} {es l:List V} {aq:List Nat}:hp id=some (.nest e0 es aq)→β id=some b→At P w b e0 es path b' e' l→yJ P e'=true→
   0<path.length→path.length≤aq.length→bA aq (path.length-1)=ver→0<l.length→dN P w β hp (.row id ver path) (some b') (.arr e' l false)
 | map {id:Nat} {t:TypeId} {es:List V}:hp id=some (.map t es)→dN P w β hp (.blk id) (β id) (.map t es)
def zz (P:Program) (w:World) (β:Nat→Option Nat) (hp:Nat→Option an) (ρ:List Place) (μ:Nat→Option Nat) (hp0:Nat→Option an):Prop:=
 ∀j p,dR ρ j=some p→∃blk,hp0 j=some blk∧dN P w β hp p (μ j) blk
theorem ot: ∀{l m:List Place} {j:Nat} {p:Place},dR l j=some p→dR (l++m) j=some p
 | [],m,j,p,h=>by cases h
 | a::l,m,0,p,h=>h
 | a::l,m,j+1,p,h=>ot (l:=l) h
theorem lr: ∀{l:List Place} {j:Nat},dR l j=l[j]?
 | [],j=>by simp[dR]
 | a::l,0=>rfl
 | a::l,j+1=>by simp only[dR,lr,List.getElem?_cons_succ]
structure Ext (P:Program) (w:World) (I:Nat→Prop) (β:Nat→Option Nat) (hp:Nat→Option an) (h h':Hand) (d:List V) (u:List (Nat × an)):Prop where
 ds:h'.ds=h.ds++d
 upd:h'.upd=h.upd++u
 Dx: ∀q∈u,y5 hp q
 pl: ∃m,h'.pl=h.pl++m
 nodup:(h.pl.map Place.id).Nodup→(h'.pl.map Place.id).Nodup
theorem Ext.refl (h:Hand):Ext P w I β hp h h [] []:=⟨by simp,by simp,by simp,⟨[],by simp⟩,id⟩
theorem Ext.trans {h1 U h3:Hand} {d1 d2:List V} {u1 u2:List (Nat × an)} (a:Ext P w I β hp h1 U d1 u1) (b:Ext P w I β hp U h3 d2 u2):Ext P w I β hp h1 h3 (d1++d2) (u1++u2):=by
 obtain ⟨m1,e1⟩:=a.pl
 obtain ⟨m2,e2⟩:=b.pl
 exact ⟨by rw[b.ds,a.ds,cr],by rw[b.upd,a.upd,cr],fun q hq=>(ei.1 hq).elim (a.Dx q) (b.Dx q),⟨m1++m2,by rw[e2,e1,cr]⟩,fun h=>b.nodup (a.nodup h)⟩
theorem Ext.look {h h':Hand} {d:List V} {u:List (Nat × an)} (a:Ext P w I β hp h h' d u) {j:Nat} {p:Place} (hj:dR h.pl j=some p):dR h'.pl j=some p:=by
 obtain ⟨m,e⟩:=a.pl
 rw[e]
 exact ot hj
theorem Ext.leaf (h:Hand) (x:V):Ext P w I β hp h {h with ds:=h.ds++[x]} [x] []:=⟨rfl,by simp,by simp,⟨[],by simp⟩,id⟩
theorem Xx {α:Type} {ρ:List Place} {j:Nat} {p:Place} {k:List Place→Rd α} {r:α} {rd:List Nat} (h:(unify ρ j p k).run C hp=some (r,rd)) (hb: ∃id,p= .blk id∨∃ver path,p= .row id ver path):
  ∃jA,(k jA).run C hp=some (r,rd)∧(∃m,jA=ρ++m)∧dR jA j=some p∧((ρ.map Place.id).Nodup→(jA.map Place.id).Nodup):=by
 unfold unify at h
 cases hc:Nat.blt j ρ.length with
 | true=>
  rw[hc] at h
  obtain ⟨h1,U⟩:=aF h
  refine ⟨ρ,U,⟨[],by simp⟩,?_,id⟩
  unfold L6 at h1
  split at h1
  ·rename_i a b he
   rw[aR] at h1
   subst h1
   exact he
  ·cases h1
 | false=>
  rw[hc] at h
  obtain ⟨h1,U⟩:=aF h
  simp only[aK,aR,lO] at h1
  obtain ⟨rfl,h3⟩:=h1
  refine ⟨ρ++[p],U,⟨[p],rfl⟩,?_,fun hn=> ?_⟩
  ·rw[lr];simp
  ·rw[gf,Cf]
   refine ⟨hn,by simp,fun a ha b hb=> ?_⟩
   simp only[cQ,gA,dX] at hb
   subst hb
   intro e
   subst e
   rw[vO ha] at h3
   cases h3
theorem tI {α:Type} {h:Hand} {j:Nat} {p:Place} {k:List Place→Rd α} {r:α} {rd:List Nat} (hr:(unify h.pl j p k).run C hp=some (r,rd)) (ds:List V):
  ∃jA,(k jA).run C hp=some (r,rd)∧dR jA j=some p∧Ext P w I β hp h {h with pl:=jA,ds:=h.ds++ds} ds []:=by
 obtain ⟨jA,a,b,c,d⟩:=Xx hr (by cases p with|blk id=>exact ⟨id,.inl rfl⟩|row id ver path=>exact ⟨id,.inr ⟨ver,path,rfl⟩⟩)
 exact ⟨jA,a,c,⟨rfl,by simp,by simp,b,d⟩⟩
theorem Xy {o:Option Nat} {blk:an} {e:TypeId} {id j:Nat} {v:Value} (hv:ao P w I β hp v (.whole e id)) (hl:dN P w β hp (.blk id) o blk) (hj:hp0 j=some blk) (jB:μ j=o):ao P w I' μ hp0 v (.whole e j):=by
 cases hl with
 | var h=>
  cases hv with
  | dS U=>rw[h] at U;cases U
  | dw U=>rw[h] at U;cases U
  | whole U=>rw[h] at U;cases U
  | eb U=>rw[h] at U;cases U
 | arr h=>
  cases hv with
  | dS U=>rw[h] at U;cases U
  | dw U hb=>rw[h] at U;cases U;exact .dw hj (jB.trans hb)
  | whole U hb a b c=>rw[h] at U;cases U;exact .whole hj (jB.trans hb) a b c
  | eb U=>rw[h] at U;cases U
 | nest h=>
  cases hv with
  | dS U=>rw[h] at U;cases U
  | dw U=>rw[h] at U;cases U
  | whole U=>rw[h] at U;cases U
  | eb U hb a b c=>rw[h] at U;cases U;exact .eb hj (jB.trans hb) a b c
 | map h=>
  cases hv with
  | dS U=>rw[h] at U;cases U
  | dw U=>rw[h] at U;cases U
  | whole U=>rw[h] at U;cases U
  | eb U=>rw[h] at U;cases U
theorem Xz {o:Option Nat} {blk:an} {t:TypeId} {id j:Nat} {v:Value} (hv:ao P w I β hp v (.cp t id)) (hl:dN P w β hp (.blk id) o blk) (hj:hp0 j=some blk) (jB:μ j=o):ao P w I' μ hp0 v (.cp t j):=by
 cases hv with
 | g9 U=>cases hl<;>(rename_i h;rw[h] at U;cases U)
 | cp U hb=>
  cases hl<;>(rename_i h;rw[h] at U;cases U)
  exact .cp hj (jB.trans hb)
theorem XA {o:Option Nat} {blk:an} {e:TypeId} {id off n j:Nat} {v:Value} (hv:ao P w I β hp v (.sub e id off n)) (hl:dN P w β hp (.blk id) o blk) (hj:hp0 j=some blk) (jB:μ j=o):ao P w I' μ hp0 v (.sub e j off n):=by
 cases hl with
 | var h=>
  cases hv with
  | fQ U=>rw[h] at U;cases U
  | fA U=>rw[h] at U;cases U
  | sub U=>rw[h] at U;cases U
 | arr h=>
  cases hv with
  | fQ U=>rw[h] at U;cases U
  | fA U hb=>rw[h] at U;cases U;exact .fA hj (jB.trans hb)
  | sub U hb a b c=>rw[h] at U;cases U;exact .sub hj (jB.trans hb) a b c
 | nest h=>
  cases hv with
  | fQ U=>rw[h] at U;cases U
  | fA U=>rw[h] at U;cases U
  | sub U=>rw[h] at U;cases U
 | map h=>
  cases hv with
  | fQ U=>rw[h] at U;cases U
  | fA U=>rw[h] at U;cases U
  | sub U=>rw[h] at U;cases U
theorem NB {o:Option Nat} {blk:an} {id i c j:Nat} {v:Value} (hv:ao P w I β hp v (.ptr id i c)) (hl:dN P w β hp (.blk id) o blk) (hj:hp0 j=some blk) (jB:μ j=o):ao P w I' μ hp0 v (.ptr j i c):=by
 cases hl with
 | @var _ T0 cs H2 h=>
  obtain ⟨b,hb,rfl⟩:=hv.gH h (by simp)
  exact ao.ptr (blk:= .var T0 H2) hj (by simp) (jB.trans hb)
 | @arr _ e es h=>
  obtain ⟨b,hb,rfl⟩:=hv.gH h (by simp)
  exact ao.ptr (blk:= .arr e es false) hj (by simp) (jB.trans hb)
 | @nest _ e es aq h=>
  obtain ⟨b,hb,rfl⟩:=hv.gH h (by simp)
  exact ao.ptr (blk:= .nest e es [0,0,0]) hj (by simp) (jB.trans hb)
 | @map _ t es h=>
  obtain ⟨b,hb,rfl⟩:=hv.gH h (by simp)
  exact ao.ptr (blk:= .map t es) hj (by simp) (jB.trans hb)
theorem XB (cC: ∀id blk,hp id=some blk→dK P w I β hp (β id) blk) {id b i c:Nat} {e0 t:TypeId} {es l:List V} {aq:List Nat} {q:Path} {e:TypeId} {v:Value} (ab:hp id=some (.nest e0 es aq)) (hb:β id=some b)
  (ht:P.underlying t=some (.slice e)) (hc:lV P w b e0 es q i c t v (.list e l)) (hl:0<l.length): ∃b1 cap,v= .slice (some ⟨b1,0,none⟩) l.length cap∧cap*P.cellsOf e=bsize w b1∧l.length≤cap∧cap≤maxLen∧At P w b e0 es (q++[(i,c)]) b1 e l:=by
 obtain ⟨b2,e1,m,Ca,T,f,x,n1,n2,n3,n4,n5,n6⟩:=hc
 have hr:=cC _ _ ab
 cases hr with
 | nest az hr hn=>
  rw[hb] at az;cases az
  have hR:=hr _ _ _ _ n1
  obtain ⟨y8,c1,c2,c3⟩:=hR.cells
  rw[n2] at c1
  cases c1
  have tk:c<P.cellsOf e1:=by rw[←fi hR.ok];exact (br.1 n4).1
  obtain ⟨v',d1,d2⟩:=c3 i c x t n3 n4 tk
  rw[n6] at d1
  cases d1
  rw[n5] at d2
  generalize hy:V.list e l=y at d2
  cases d2 with
  | fy a p=>unfold fv at a;rw[ht] at a;cases a
  | emp hu ha=>cases hy;simp at hl
  | row hu jw aU bX oc=>
   cases hy
   exact ⟨_,_,rfl,aU,bX,oc,n1.snoc n2 n3 n4 ht n5 jw n6⟩
theorem XC (S:aE P w I β hp B M w0) {o:Option Nat} {blk:an} {e:TypeId} {id ver j:Nat} {path:Path} {v:Value} (hv:ao P w I β hp v (.row e id ver path)) (hl:dN P w β hp (.row id ver path) o blk) (hj:hp0 j=some blk) (jB:μ j=o):ao P w I' μ hp0 v (.whole e j):=by
 cases hl with
 | row h hb ha hf h1 U h3 h4=>
  obtain ⟨b2,q,i,c,t,l2,rfl,iC,ht,hc⟩:=hv.Me h h1 U h3
  rw[hb] at iC;cases iC
  obtain ⟨p1,p2⟩:=G2 ha
  have iy:=hc
  obtain ⟨b3,e3,m3,Ca,T,f,x,n1,n2,n3,n4,n5,n6⟩:=iy
  obtain ⟨q1,q2⟩:=CM n1 n3 n4 ht n5
  rw[p1] at q1
  rw[p2] at q2
  cases q1
  cases q2
  obtain ⟨b1,cap,rfl,m1,m2,m4,m5⟩:=XB S.h.rel h hb ht hc h4
  have:=XD ha m5
  subst this
  exact .whole hj jB m1 m2 m4
where
 XD {b b1 b2:Nat} {e e1 e2:TypeId} {es l l2:List V} {q:Path} (h:At P w b e es q b1 e1 l) (U:At P w b e es q b2 e2 l2):b2=b1:=(h.fun U).1
theorem NC (S:aE P w I β hp B M w0) {α:Type} {l:LS} {x:V} {h:Hand} {k:Hand→Rd α} {r:α} {rd:List Nat} {v:Value} (hr:(Cy P l x h k).run C hp=some (r,rd)) (hv:ao P w I β hp v x):
  ∃h' eJ d u,(k h').run C hp=some (r,eJ)∧Ext P w I β hp h h' d u∧d.length=l.size∧
   ∀(I':Nat→Prop) (μ:Nat→Option Nat) (hp0:Nat→Option an),(∀b,I b→I' b)→(∀q∈u,∀b,rO P w β hp q.1 b→I' b)→∀ρ m,ρ=h'.pl++m→zz P w β hp ρ μ hp0→∀rest,ao P w I' μ hp0 v (iq l (d++rest)):=by
 have plain: ∀{x':V} {jd:List Nat},(k {h with ds:=h.ds++[x']}).run C hp=some (r,jd)→l.size=1→(∀I' μ hp0 rest,ao P w I' μ hp0 v (iq l ([x']++rest)))→∃h' eJ d u,(k h').run C hp=some (r,eJ)∧Ext P w I β hp h h' d u∧d.length=l.size∧
   ∀(I':Nat→Prop) (μ:Nat→Option Nat) (hp0:Nat→Option an),(∀b,I b→I' b)→(∀q∈u,∀b,rO P w β hp q.1 b→I' b)→∀ρ m,ρ=h'.pl++m→zz P w β hp ρ μ hp0→∀rest,ao P w I' μ hp0 v (iq l (d++rest)):=
  fun hk hs hx=>⟨_,_,_,_,hk,Ext.leaf h _,hs.symm,fun I' μ hp0 _ _ _ _ _ _ rest=>hx I' μ hp0 rest⟩
 have m8: ∀{jd:List Nat},(k h).run C hp=some (r,jd)→l.size=0→(∀I' μ hp0 rest,ao P w I' μ hp0 v (iq l rest))→∃h' eJ d u,(k h').run C hp=some (r,eJ)∧Ext P w I β hp h h' d u∧d.length=l.size∧
   ∀(I':Nat→Prop) (μ:Nat→Option Nat) (hp0:Nat→Option an),(∀b,I b→I' b)→(∀q∈u,∀b,rO P w β hp q.1 b→I' b)→∀ρ m,ρ=h'.pl++m→zz P w β hp ρ μ hp0→∀rest,ao P w I' μ hp0 v (iq l (d++rest)):=
  fun hk hs hx=>⟨_,_,_,_,hk,Ext.refl h,by simp[hs],fun I' μ hp0 _ _ _ _ _ _ rest=>hx I' μ hp0 rest⟩
 unfold Cy at hr
 cases l with
 | pT=>exact m8 hr rfl fun _ _ _ _=> .undef
 | int kd=>
  cases x<;>simp only at hr<;>first|(cases hr;done)|skip
  obtain ⟨h1,U⟩:=aF hr
  simp only[dH] at h1
  subst h1
  obtain rfl:=hv.dL
  exact plain U rfl fun _ _ _ _=> .int
 | bool=>
  cases x<;>simp only at hr<;>first|(cases hr;done)|skip
  obtain rfl:=hv.jZ
  exact plain hr rfl fun _ _ _ _=> .bool
 | str=>
  cases x<;>simp only at hr<;>first|(cases hr;done)|skip
  obtain ⟨s,rfl,hl⟩:=hv.lX
  exact plain hr rfl fun _ _ _ _=> .str hl
 | nilS e=>
  cases x<;>simp only at hr<;>first|(cases hr;done)|skip
  obtain ⟨h1,U⟩:=aF hr
  cases hv with
  | nilS=>exact m8 U rfl fun _ _ _ _=> .nilS
 | c8=>
  cases x<;>simp only at hr<;>first|(cases hr;done)|skip
  cases hv with
  | c8=>exact m8 hr rfl fun _ _ _ _=> .c8
 | row e j cs=>
  cases x<;>simp only at hr<;>first|(cases hr;done)|skip
  rename_i e' id ver path
  obtain ⟨e0,es,aq,l0,ab,p1,p2,p3,hr⟩:=oa hr
  obtain ⟨h1,U⟩:=aF hr
  simp only[aK,aR,dP] at h1
  obtain ⟨rfl,oe,XF⟩:=h1
  have:=v9 oe
  subst this
  obtain ⟨jA,a,b,c⟩:=tI (P:=P) (w:=w) (I:=I) (β:=β) U (path.map fun p=>dQ p.1)
  refine ⟨_,_,path.map fun p=>dQ p.1,[],a,c,by simp[LS.size],fun I' μ hp0 i1 i2 ρ m dh cW rest=> ?_⟩
  obtain ⟨blk,k1,k2⟩:=cW j _ (by rw[dh];exact ot b)
  obtain ⟨bb,q,i,cc,t,l,rfl,hb,ht,hc⟩:=hv.Me ab p1 p2 p3
  have qf:blk= .nest e0 es [0,0,0]∧μ j=β id:=by
   generalize μ j=o at k2
   cases k2 with
   | var h=>rw[ab] at h;cases h
   | arr h=>rw[ab] at h;cases h
   | map h=>rw[ab] at h;cases h
   | nest h=>rw[ab] at h;cases h;exact ⟨rfl,rfl⟩
  obtain ⟨rfl,jB⟩:=qf
  simp only[iq,Du]
  have hq:q.length<3:=by rw[cx,List.length_singleton] at XF;omega
  refine .row k1 (jB.trans hb) (by simpa using hq) ?_ ht hc
  match q.length,hq with
  | 0,_=>rfl
  | 1,_=>rfl
  | 2,_=>rfl
 | cA j cs c=>cases hr
 | Ck k n=>cases hr
 | vj b=>cases hr
 | dk t=>
  cases x<;>simp only at hr<;>first|(cases hr;done)|skip
  obtain ⟨h1,U⟩:=aF hr
  cases hv with
  | dk=>exact m8 U rfl fun _ _ _ _=> .dk
 | cp t j=>
  cases x<;>simp only at hr<;>first|(cases hr;done)|skip
  rename_i t' id
  obtain ⟨h1,U⟩:=aF hr
  rw[aR] at h1
  subst h1
  obtain ⟨jA,a,b,c⟩:=tI (P:=P) (w:=w) (I:=I) (β:=β) U []
  refine ⟨_,_,[],[],a,by simpa using c,rfl,fun I' μ hp0 i1 i2 ρ m dh cW rest=> ?_⟩
  obtain ⟨blk,k1,k2⟩:=cW j _ (by rw[dh];exact ot b)
  exact Xz hv k2 k1 rfl
 | list e=>
  obtain ⟨⟨y,u⟩,l1,l2,h1,U⟩:=kD hr
  cases y<;>simp only at U<;>first|(cases U;done)|skip
  rename_i e' es
  obtain ⟨h3,h4⟩:=aF U
  rw[aR] at h3
  subst h3
  obtain ⟨p1,p2⟩:=CN S.h.rel h1 hv
  exact ⟨_,_,[.list e es],u,h4,⟨rfl,rfl,p1,⟨[],by simp⟩,id⟩,rfl,fun I' μ hp0 i1 i2 _ _ _ _ rest=> .list (p2 I' i1 i2)⟩
 | whole e j=>
  cases x<;>simp only at hr<;>first|(cases hr;done)|skip
  ·rename_i e' id
   obtain ⟨h1,U⟩:=aF hr
   rw[aR] at h1
   subst h1
   obtain ⟨jA,a,b,c⟩:=tI (P:=P) (w:=w) (I:=I) (β:=β) U []
   refine ⟨_,_,[],[],a,by simpa using c,rfl,fun I' μ hp0 i1 i2 ρ m dh cW rest=> ?_⟩
   obtain ⟨blk,k1,k2⟩:=cW j _ (by rw[dh];exact ot b)
   exact Xy hv k2 k1 rfl
  ·rename_i e' id ver path
   obtain ⟨h1,U⟩:=aF hr
   rw[aR] at h1
   subst h1
   obtain ⟨jA,a,b,c⟩:=tI (P:=P) (w:=w) (I:=I) (β:=β) U []
   refine ⟨_,_,[],[],a,by simpa using c,rfl,fun I' μ hp0 i1 i2 ρ m dh cW rest=> ?_⟩
   obtain ⟨blk,k1,k2⟩:=cW j _ (by rw[dh];exact ot b)
   exact XC S hv k2 k1 rfl
 | sub e j=>
  cases x<;>simp only at hr<;>first|(cases hr;done)|skip
  rename_i e' id o n
  obtain ⟨h1,U⟩:=aF hr
  rw[aR] at h1
  subst h1
  obtain ⟨jA,a,b,c⟩:=tI (P:=P) (w:=w) (I:=I) (β:=β) U [dQ o,dQ n]
  refine ⟨_,_,[dQ o,dQ n],[],a,c,rfl,fun I' μ hp0 i1 i2 ρ m dh cW rest=> ?_⟩
  obtain ⟨blk,k1,k2⟩:=cW j _ (by rw[dh];exact ot b)
  simpa[iq,V.nth] using XA (I':=I') hv k2 k1 rfl
 | ptr j=>
  cases x<;>simp only at hr<;>first|(cases hr;done)|skip
  rename_i id i c
  obtain ⟨jA,a,b,c'⟩:=tI (P:=P) (w:=w) (I:=I) (β:=β) hr [dQ i,dQ c]
  refine ⟨_,_,[dQ i,dQ c],[],a,c',rfl,fun I' μ hp0 i1 i2 ρ m dh cW rest=> ?_⟩
  obtain ⟨blk,k1,k2⟩:=cW j _ (by rw[dh];exact ot b)
  simpa[iq,V.nth] using NB (I':=I') hv k2 k1 rfl
 | mO j i c=>
  cases x<;>simp only at hr<;>first|(cases hr;done)|skip
  rename_i id i' c'
  obtain ⟨h1,U⟩:=aF hr
  simp only[aK,aR] at h1
  obtain ⟨rfl,rfl⟩:=h1
  obtain ⟨jA,a,b,c'⟩:=tI (P:=P) (w:=w) (I:=I) (β:=β) U []
  refine ⟨_,_,[],[],a,by simpa using c',rfl,fun I' μ hp0 i1 i2 ρ m dh cW rest=> ?_⟩
  obtain ⟨blk,k1,k2⟩:=cW j _ (by rw[dh];exact ot b)
  exact NB hv k2 k1 rfl
end
section
variable {P:Program} {A:cB} {w w':World} {I I' I2:Nat→Prop} {μ β β':Nat→Option Nat} {hp hp' hp0:Nat→Option an} {C:ag} {B:Nat} {M:Nat→Prop} {w0:Start}
def me (P:Program) (w:World) (I:Nat→Prop) (β:Nat→Option Nat) (hp:Nat→Option an) (h':Hand) (u:List (Nat × an)) (K:(Nat→Prop)→(Nat→Option Nat)→(Nat→Option an)→Prop):Prop:=
 ∀(I':Nat→Prop) (μ:Nat→Option Nat) (hp0:Nat→Option an),(∀b,I b→I' b)→(∀q∈u,∀b,rO P w β hp q.1 b→I' b)→∀ρ m,ρ=h'.pl++m→zz P w β hp ρ μ hp0→K I' μ hp0
theorem me.zA {h h':Hand} {d:List V} {u u':List (Nat × an)} {K:(Nat→Prop)→(Nat→Option Nat)→(Nat→Option an)→Prop} (t:me P w I β hp h u K) (e:Ext P w I β hp h h' d u'):me P w I β hp h' (u++u') K:=by
 obtain ⟨m1,e1⟩:=e.pl
 exact fun I' μ hp0 i1 i2 ρ m dh cW=>t I' μ hp0 i1 (fun q hq=>i2 q (ei.2 (.inl hq))) ρ (m1++m) (by rw[dh,e1,cr]) cW
theorem me.more {h:Hand} {u u':List (Nat × an)} {K:(Nat→Prop)→(Nat→Option Nat)→(Nat→Option an)→Prop} (t:me P w I β hp h u K):me P w I β hp h (u'++u) K:=
 fun I' μ hp0 i1 i2 ρ m dh cW=>t I' μ hp0 i1 (fun q hq=>i2 q (ei.2 (.inr hq))) ρ m dh cW
theorem Dy (S:aE P w I β hp B M w0) {α:Type}: ∀{ls:List LS} {xs:List V} {h:Hand} {k:Hand→Rd α} {r:α} {rd:List Nat} {vs:List Value},(vu P ls xs h k).run C hp=some (r,rd)→vs.length=xs.length→
  (∀(j:Nat) v x,vs[j]? =some v→xs[j]? =some x→ao P w I β hp v x)→
  ∃h' eJ d u,(k h').run C hp=some (r,eJ)∧Ext P w I β hp h h' d u∧d.length=jT ls∧ls.length=xs.length∧
   me P w I β hp h' u fun I' μ hp0=> ∀rest,(gU ls (d++rest)).length=xs.length∧∀(j:Nat) v y,vs[j]? =some v→(gU ls (d++rest))[j]? =some y→ao P w I' μ hp0 v y
 | [],[],h,k,r,rd,vs,hr,hl,hv=>⟨h,rd,[],[],hr,Ext.refl h,rfl,rfl,fun I' μ hp0 _ _ _ _ _ _ rest=>⟨rfl,fun j v y _ hy=>by simp[gU] at hy⟩⟩
 | [],_::_,h,k,r,rd,vs,hr,hl,hv=>by cases hr
 | _::_,[],h,k,r,rd,vs,hr,hl,hv=>by cases hr
 | l::ls,x::xs,h,k,r,rd,vs,hr,hl,hv=>by
  cases vs with
  | nil=>simp at hl
  | cons v vs=>
   simp only[vu] at hr
   obtain ⟨h1,jd,d1,u1,a1,a2,a3,a4⟩:=NC S hr (hv 0 v x rfl rfl)
   obtain ⟨U,rX,d2,u2,b1,b2,b3,b5,b4⟩:=Dy S a1 (by simpa using hl) (vs:=vs) (fun j v x hj hx=>hv (j+1) v x (by simpa using hj) (by simpa using hx))
   have XG:me P w I β hp h1 u1 fun I' μ hp0=> ∀rest,ao P w I' μ hp0 v (iq l (d1++rest)):=a4
   refine ⟨U,rX,d1++d2,u1++u2,b1,a2.trans b2,by simp only[cx,jT];omega,by simp[b5],fun I' μ hp0 i1 i2 ρ m dh cW rest=> ?_⟩
   have k1:=(XG.zA b2) I' μ hp0 i1 i2 ρ m dh cW (d2++rest)
   obtain ⟨k2,k3⟩:=b4.more I' μ hp0 i1 i2 ρ m dh cW rest
   simp only[gU]
   rw[show (d1++d2++rest).drop l.size=d2++rest by rw[cr];exact nf a3,cr]
   refine ⟨by simp[k2],fun j v' y hj hy=> ?_⟩
   cases j with
   | zero=>simp at hj hy;subst hj;subst hy;exact k1
   | succ j=>exact k3 j v' y (by simpa using hj) (by simpa using hy)
theorem XH (S:aE P w I β hp B M w0) {α:Type} {s:VS} {x:V} {h:Hand} {k:Hand→Rd α} {r:α} {rd:List Nat} {v:Value} (hr:(yN P s x h k).run C hp=some (r,rd)) (hv:ao P w I β hp v x):
  ∃h' eJ d u,(k h').run C hp=some (r,eJ)∧Ext P w I β hp h h' d u∧d.length=s.size∧
   me P w I β hp h' u fun I' μ hp0=> ∀rest,ao P w I' μ hp0 v (kA s (d++rest)):=by
 cases s with
 | one l=>
  simp only[yN] at hr
  obtain ⟨h1,jd,d1,u1,a1,a2,a3,a4⟩:=NC S hr hv
  exact ⟨h1,jd,d1,u1,a1,a2,a3,a4⟩
 | agg ls=>
  cases x<;>simp only[yN] at hr<;>first|(cases hr;done)|skip
  rename_i xs
  obtain ⟨cs,rfl,e1,e2⟩:=hv.kE
  obtain ⟨h1,jd,d1,u1,a1,a2,a3,a5,a4⟩:=Dy S hr (vs:=cs.toList) (by simpa using e1) (fun j v x hj hx=>e2 j v x (by simpa using hj) hx)
  refine ⟨h1,jd,d1,u1,a1,a2,a3,fun I' μ hp0 i1 i2 ρ m dh cW rest=> ?_⟩
  obtain ⟨k1,k2⟩:=a4 I' μ hp0 i1 i2 ρ m dh cW rest
  exact .agg (by rw[k1];exact e1) fun j v y hj hy=>k2 j v y (by simpa using hj) hy
 | bd ls=>cases x<;>cases hr
 | pref ts ls=>cases x<;>cases hr
 | fn f a b=>
  cases x<;>simp only[yN] at hr<;>first|(cases hr;done)|skip
  rename_i f' xs ys
  obtain ⟨hc,tJ⟩:=aF hr
  clear hr
  rw[aR] at hc
  subst hc
  cases hv with
  | @fn _ fs cs _ _ q1 q2 q3 q4=>
   obtain ⟨h1,jd,d1,u1,a1,a2,a3,a5,a4⟩:=Dy S tJ (vs:=fs.toList) (by simpa using q1) (fun j v x hj hx=>q2 j v x (by simpa using hj) hx)
   obtain ⟨U,rX,d2,u2,b1,b2,b3,b5,b4⟩:=Dy S a1 (vs:=cs.toList) (by simpa using q3) (fun j v x hj hx=>q4 j v x (by simpa using hj) hx)
   refine ⟨U,rX,d1++d2,u1++u2,b1,a2.trans b2,by simp only[cx,VS.size];omega,fun I' μ hp0 i1 i2 ρ m dh cW rest=> ?_⟩
   obtain ⟨k1,k2⟩:=(a4.zA b2) I' μ hp0 i1 i2 ρ m dh cW (d2++rest)
   obtain ⟨k3,k4⟩:=b4.more I' μ hp0 i1 i2 ρ m dh cW rest
   simp only[kA]
   rw[show (d1++d2++rest).drop (jT a)=d2++rest by rw[cr];exact nf a3,cr]
   exact .fn (by rw[k1];exact q1) (fun j v y hj hy=>k2 j v y (by simpa using hj) hy) (by rw[k3];exact q3) (fun j v y hj hy=>k4 j v y (by simpa using hj) hy)
theorem H3 (S:aE P w I β hp B M w0) {α:Type}: ∀{ls:List VS} {xs:List V} {h:Hand} {k:Hand→Rd α} {r:α} {rd:List Nat} {vs:List Value},(yO P ls xs h k).run C hp=some (r,rd)→vs.length=xs.length→
  (∀(j:Nat) v x,vs[j]? =some v→xs[j]? =some x→ao P w I β hp v x)→
  ∃h' eJ d u,(k h').run C hp=some (r,eJ)∧Ext P w I β hp h h' d u∧d.length=rH ls∧ls.length=xs.length∧
   me P w I β hp h' u fun I' μ hp0=> ∀rest,(ff ls (d++rest)).length=xs.length∧∀(j:Nat) v y,vs[j]? =some v→(ff ls (d++rest))[j]? =some y→ao P w I' μ hp0 v y
 | [],[],h,k,r,rd,vs,hr,hl,hv=>⟨h,rd,[],[],hr,Ext.refl h,rfl,rfl,fun I' μ hp0 _ _ _ _ _ _ rest=>⟨rfl,fun j v y _ hy=>by simp[ff] at hy⟩⟩
 | [],_::_,h,k,r,rd,vs,hr,hl,hv=>by cases hr
 | _::_,[],h,k,r,rd,vs,hr,hl,hv=>by cases hr
 | l::ls,x::xs,h,k,r,rd,vs,hr,hl,hv=>by
  cases vs with
  | nil=>simp at hl
  | cons v vs=>
   simp only[yO] at hr
   obtain ⟨h1,jd,d1,u1,a1,a2,a3,a4⟩:=XH S hr (hv 0 v x rfl rfl)
   obtain ⟨U,rX,d2,u2,b1,b2,b3,b5,b4⟩:=H3 S a1 (by simpa using hl) (vs:=vs) (fun j v x hj hx=>hv (j+1) v x (by simpa using hj) (by simpa using hx))
   refine ⟨U,rX,d1++d2,u1++u2,b1,a2.trans b2,by simp only[cx,rH];omega,by simp[b5],fun I' μ hp0 i1 i2 ρ m dh cW rest=> ?_⟩
   have k1:=(a4.zA b2) I' μ hp0 i1 i2 ρ m dh cW (d2++rest)
   obtain ⟨k2,k3⟩:=b4.more I' μ hp0 i1 i2 ρ m dh cW rest
   simp only[ff]
   rw[show (d1++d2++rest).drop l.size=d2++rest by rw[cr];exact nf a3,cr]
   refine ⟨by simp[k2],fun j v' y hj hy=> ?_⟩
   cases j with
   | zero=>simp at hj hy;subst hj;subst hy;exact k1
   | succ j=>exact k3 j v' y (by simpa using hj) (by simpa using hy)
def Dz:List BS→Nat
 | []=>0
 | b::l=>b.size+Dz l
theorem ND: ∀{b:Nat} {e e':TypeId} {es:List V} {v:V},(∀q b' e' m,At P w b e es q b' e' m→iY P w I b' e' m)→∀(path:Path),jR P e path=some e'→lR P e es path=some v→0<v.toList.length→
  ∃b1,At P w b e es path b1 e' v.toList
 | b,e,e',es,v,cD,[],ht,hv,hl=>by
  simp only[jR,dI] at ht
  simp only[lR,dI] at hv
  subst ht;subst hv
  exact ⟨b,.here⟩
 | b,e,e',es,v,cD,(i,c)::q,ht,hv,hl=>by
  simp only[jR] at ht
  simp only[lR] at hv
  obtain ⟨x,hx,hv⟩:=bind_some hv
  cases H4:(jR.yE P e)[c]? with
  | none=>rw[H4] at ht;cases ht
  | some t=>
   rw[H4] at ht
   simp only at ht
   have DA:(aS P e)[c]? =some t:=H4
   cases hu:P.underlying t with
   | none=>rw[hu] at ht;cases ht
   | some d=>
    rw[hu] at ht
    cases d<;>simp only at ht<;>first|(cases ht;done)|skip
    rename_i e1
    rw[mW DA] at hv
    have hR:=cD _ _ _ _ .here
    obtain ⟨Ca,c1,c2,c3⟩:=hR.cells
    have tk:c<P.cellsOf e:=by rw[←fi hR.ok];exact (br.1 DA).1
    obtain ⟨u,d1,d2⟩:=c3 i c x t hx DA tk
    rw[d2.rQ] at hv
    generalize hy:bH P e x c=y at d2 hv
    cases d2 with
    | fy a p=>unfold fv at a;rw[hu] at a;cases a
    | @emp e2 a cap ma ha=>
     rw[hu] at ma;cases ma
     simp only at hv
     cases q with
     | nil=>simp only[lR,dI] at hv;subst hv;simp[V.toList] at hl
     | cons a q=>simp[lR] at hv
    | @row e2 bW b2 cap ma jw aU bX oc=>
     rw[hu] at ma;cases ma
     simp only at hv
     have dp: ∀{q b' e' aH},At P w b2 e1 bW q b' e' aH→At P w b e es ((i,c)::q) b' e' aH:=fun h=> .step c1 hx DA hu hy jw d1 h
     obtain ⟨b1,lp⟩:=ND (fun q b' e' m h=>cD _ _ _ _ (dp h)) q ht hv hl
     exact ⟨b1,dp lp⟩
theorem NF (S:aE P w I β hp B M w0) {α:Type}: ∀{bs:List BS} {j:Nat} {h:Hand} {k:Hand→Rd α} {r:α} {rd:List Nat},(pV P bs j h k).run C hp=some (r,rd)→
  ∃h' eJ d u,(k h').run C hp=some (r,eJ)∧Ext P w I β hp h h' d u∧d.length=Dz bs∧
   ∀rest,(ek bs (d++rest)).length=bs.length∧∃o:Nat→Option Nat,
    (∀(i:Nat) blk,(ek bs (d++rest))[i]? =some blk→∃p,dR h'.pl (j+i)=some p∧dN P w β hp p (o i) blk)∧
    me P w I β hp h' u fun I' μ hp0=> ∀(i:Nat) blk,(ek bs (d++rest))[i]? =some blk→(∀b,bt P w (o i) blk b→¬I' b)→dK P w I' μ hp0 (o i) blk
 | [],j,h,k,r,rd,hr=>⟨h,rd,[],[],hr,Ext.refl h,rfl,fun rest=>⟨rfl,fun _=>none,fun i blk hb=>by simp[ek] at hb,fun I' μ hp0 _ _ _ _ _ _ i blk hb=>by simp[ek] at hb⟩⟩
 | b::bs,j,h,k,r,rd,hr=>by
  simp only[pV] at hr
  have fin: ∀{h1:Hand} {jd:List Nat} {d1:List V} {u1:List (Nat × an)} {o1:Option Nat} {p:Place},(pV P bs (j+1) h1 k).run C hp=some (r,jd)→Ext P w I β hp h h1 d1 u1→d1.length=b.size→dR h.pl j=some p→
    (∀rest,dN P w β hp p o1 (fw b (d1++rest)))→(∀rest,me P w I β hp h1 u1 fun I' μ hp0=>(∀bb,bt P w o1 (fw b (d1++rest)) bb→¬I' bb)→dK P w I' μ hp0 o1 (fw b (d1++rest)))→
    ∃h' eJ d u,(k h').run C hp=some (r,eJ)∧Ext P w I β hp h h' d u∧d.length=Dz (b::bs)∧
     ∀rest,(ek (b::bs) (d++rest)).length=(b::bs).length∧∃o:Nat→Option Nat,
      (∀(i:Nat) blk,(ek (b::bs) (d++rest))[i]? =some blk→∃p,dR h'.pl (j+i)=some p∧dN P w β hp p (o i) blk)∧
      me P w I β hp h' u fun I' μ hp0=> ∀(i:Nat) blk,(ek (b::bs) (d++rest))[i]? =some blk→(∀b,bt P w (o i) blk b→¬I' b)→dK P w I' μ hp0 (o i) blk:=by
   intro h1 jd d1 u1 o1 p hk he hd bp hl ht
   obtain ⟨U,rX,d2,u2,b1,b2,b3,b4⟩:=NF S hk
   refine ⟨U,rX,d1++d2,u1++u2,b1,he.trans b2,by simp only[cx,Dz];omega,fun rest=> ?_⟩
   obtain ⟨c1,o,c2,c3⟩:=b4 rest
   simp only[ek]
   rw[show (d1++d2++rest).drop b.size=d2++rest by rw[cr];exact nf hd,cr]
   refine ⟨by simp[c1],fun i=>match i with|0=>o1|i+1=>o i,fun i blk hb=> ?_,fun I' μ hp0 i1 i2 ρ m dh cW i blk hb cK=> ?_⟩
   ·cases i with
    | zero=>
     simp at hb
     subst hb
     exact ⟨p,b2.look (he.look bp),hl _⟩
    | succ i=>
     obtain ⟨q,e1,e2⟩:=c2 i blk (by simpa using hb)
     exact ⟨q,by rw[show j+(i+1)=j+1+i by omega];exact e1,e2⟩
   ·cases i with
    | zero=>
     simp at hb
     subst hb
     exact ((ht _).zA b2) I' μ hp0 i1 i2 ρ m dh cW cK
    | succ i=>exact c3.more I' μ hp0 i1 i2 ρ m dh cW i blk (by simpa using hb) cK
  cases bp:dR h.pl j with
  | none=>rw[bp] at hr;cases hr
  | some p=>
   rw[bp] at hr
   cases p with
   | blk id=>
    obtain ⟨l1,hr⟩:=run_get hr
    cases ab:hp id with
    | none=>rw[ab] at hr;cases hr
    | some blk=>
     rw[ab] at hr
     cases blk with
     | dead=>cases hr
     | var T0 cs=>
      cases b<;>simp only at hr<;>first|(cases hr;done)|skip
      rename_i T1 ss
      obtain ⟨hT,XI⟩:=aF hr
      clear hr
      rw[aR] at hT
      subst hT
      have cC:=S.h.rel id _ ab
      generalize ho:β id=o at cC
      cases cC with
      | @var _ bb Ca T hb hh hs hI hx fS=>
       obtain ⟨h1,jd,d1,u1,a1,a2,a3,a5,a4⟩:=H3 S XI (vs:=Ca.toList) (by simpa using hs) (fun j v x hj cu=>hx j v x (by simpa using hj) cu)
       refine fin (o1:=β id) a1 a2 a3 bp (fun rest=> .var ab) fun rest I' μ hp0 i1 i2 ρ m dh cW cK=> ?_
       obtain ⟨k1,k2⟩:=a4 I' μ hp0 i1 i2 ρ m dh cW rest
       exact .var (ho.trans hb) hh (by rw[k1];exact hs) (cK _ (.root (by simp[fw]) (ho.trans hb))) (fun i v y hi hy=>k2 i v y (by simpa using hi) hy) fS
     | arr e' es fz=>
      cases fz with
      | true=>cases hr
      | false=>
       cases b with
       | arr e fz=>
        cases fz with
        | true=>cases hr
        | false=>
         obtain ⟨hc,tJ⟩:=aF hr
         clear hr
         rw[aR] at hc
         subst hc
         refine fin (d1:=[.list e es]) (o1:=β id) tJ (Ext.leaf h _) rfl bp (fun rest=>dN.arr ab) fun rest I' μ hp0 i1 i2 ρ m dh cW cK=> ?_
         change dK P w I' μ hp0 (β id) (.arr e es false)
         have cC:=S.h.rel id _ ab
         generalize ho:β id=o at cC cK⊢
         cases cC with
         | dx hb=>exact .dx hb
         | arr a1 a2 a3 a4 a5 a6 a7=>
          refine .arr a1 a2 a3 a4 (fun h=>by cases h) (fun _=>cK _ (.root (by simp[fw]) a2)) fun i j x t' y1 y2 y3=> ?_
          obtain ⟨v,z1,z2⟩:=a7 i j x t' y1 y2 y3
          exact ⟨v,z1,z2.mono i1 fun _ _=>rfl⟩
       | _=>cases hr
     | nest e' es aq=>
      cases b with
      | nest e=>
       obtain ⟨hc,tJ⟩:=aF hr
       clear hr
       rw[aR] at hc
       subst hc
       refine fin (d1:=[.list e es]) (o1:=β id) tJ (Ext.leaf h _) rfl bp (fun rest=>dN.nest ab) fun rest I' μ hp0 i1 i2 ρ m dh cW cK=> ?_
       have NG: ∀bb,bt P w (β id) (.nest e es [0,0,0]) bb→¬I' bb:=cK
       change dK P w I' μ hp0 (β id) (.nest e es [0,0,0])
       have cC:=S.h.rel id _ ab
       generalize ho:β id=o at cC NG⊢
       cases cC with
       | nest hb cD og=>
        refine .nest hb (fun q b' e1 m1 hq=> ?_) og
        obtain ⟨ok,⟨Ca,c1,c2,c3⟩,nI⟩:=cD q b' e1 m1 hq
        refine ⟨ok,⟨Ca,c1,c2,fun i j x t' y1 y2 y3=> ?_⟩,NG _ (.row hb hq)⟩
        obtain ⟨v,z1,z2⟩:=c3 i j x t' y1 y2 y3
        exact ⟨v,z1,z2.mono i1 (fun _ _=>rfl) fun _ _ _ _ _=>rfl⟩
      | _=>cases hr
     | map t' es=>
      cases b with
      | map t=>
       obtain ⟨hc,tJ⟩:=aF hr
       clear hr
       rw[aR] at hc
       subst hc
       refine fin (d1:=[.list t es]) (o1:=β id) tJ (Ext.leaf h _) rfl bp (fun rest=>dN.map ab) fun rest I' μ hp0 i1 i2 ρ m dh cW cK=> ?_
       change dK P w I' μ hp0 (β id) (.map t es)
       have cC:=S.h.rel id _ ab
       generalize ho:β id=o at cC cK⊢
       cases cC with
       | map a1 a2 a3 a4 a5 a6 a7=>exact .map a1 a2 a3 a4 (cK _ (.root (by simp[fw]) a2)) a6 a7
      | _=>cases hr
   | row id ver path=>
    obtain ⟨e0,es,aq,l1,k1,k2,k3,k4,k5⟩:=oa hr
    obtain ⟨e',vv,m1,m2,m3⟩:=vF k5
    cases b with
    | arr e fz=>
     cases fz with
     | true=>cases m3
     | false=>
      obtain ⟨hc,m4⟩:=aF m3
      clear m3
      simp only[aK,aR,jN] at hc
      obtain ⟨rfl,zB,jw⟩:=hc
      have cC:=S.h.rel id _ k1
      cases hb:β id with
      | none=>
       rw[hb] at cC
       cases cC with
       | nest az _ _=>cases az
      | some b0=>
       rw[hb] at cC
       cases cC with
       | nest az cD og=>
        cases az
        obtain ⟨b1,da⟩:=ND cD path m1 m2 jw
        refine fin (d1:=[.list e vv.toList]) (o1:=some b1) m4 (Ext.leaf h _) rfl bp (fun rest=>dN.row k1 hb da zB k2 k3 k4 jw) fun rest I' μ hp0 i1 i2 ρ m dh cW cK=> ?_
        change dK P w I' μ hp0 (some b1) (.arr e vv.toList false)
        obtain ⟨ok,⟨Ca,c1,c2,c3⟩,nI⟩:=cD _ _ _ _ da
        refine .arr ok rfl c1 c2 (fun h=>by cases h) (fun _=>cK _ (.root (by simp[fw]) rfl)) fun i j x t' y1 y2 y3=> ?_
        obtain ⟨v,z1,z2⟩:=c3 i j x t' y1 y2 y3
        refine ⟨v,z1,?_⟩
        generalize bH P e x j=y at z2⊢
        cases z2 with
        | fy _ p=>exact p.mono i1 fun _ _=>rfl
        | emp hu _=>exact absurd hu (NH zB y2 _)
        | row hu _ _ _ _=>exact absurd hu (NH zB y2 _)
    | _=>cases m3
where
 NH {e t:TypeId} {j:Nat} (h:yJ P e=true) (ht:(aS P e)[j]? =some t) (e':TypeId):P.underlying t≠some (.slice e'):=by
  intro hu
  have U:=fc.1 h t (jq ht)
  rw[hu] at U
  cases U
end
end Go.AM
