/-
  Functions of the program, lifted to plain data.
-/
import Derived.Great.BuildSlice
import Derived.Maps.Keyed
import Derived.WideKeyArr
import Derived.MapKept
import Derived.ChangeMaps4
import Derived.Carry
import Derived.Lib.AppendStr
import Derived.Laws.BytesString
import Derived.Lib.Builder
import Derived.Lib.UnsafeStr
import Derived.Test.YtnbcjledacomdaaGreatDoorP1
set_option linter.unusedVariables false
set_option linter.unusedSimpArgs false
namespace Go.AM
section
variable {P:Program} {w w':World} {I I':Nat→Nat→Prop} {β β':Nat→Option Nat} {hp hp':Nat→Option ah} {C:ab} {B:Nat} {M:Nat→Prop} {w0:Start}
theorem agf (S:aW P w I β hp B M w0) {t:TypeId} {a v:Value} {xa x:V} {r:R} {rd:List Nat} (ha:aj P w I β hp a xa) (hv:aj P w I β hp v x)
  (h:(ME P t xa x).run C hp=some (r,rd)):rN P ((Instr.storeAt t a v).run P w) w I β hp B M w0 r:=by
 unfold ME at h
 obtain ⟨h0,h⟩:=a8 h
 simp only[bn,bB] at h0
 obtain ⟨ht,hn⟩:=h0
 cases xa with
 | ptr id i c=>
  obtain ⟨l,h⟩:=run_get h
  cases ae:hp id with
  | none=>rw[ae] at h;cases h
  | some blk=>
   rw[ae] at h
   cases blk with
   | dead=>cases h
   | var T0 cs=>
    obtain ⟨VN,h⟩:=a8 h
    have oq:rB P T0=true→0<c:=fun bP=>by
     rw[bP] at VN
     simpa using VN
    obtain ⟨b,hb,rfl⟩:=ha.jc ae (by simp)
    simp only[ah.sz,Nat.mul_zero,dE]
    cases rM:(B7 P t cs&&fo P t x) with
    | true=>
     dsimp only at h
     rw[rM] at h
     simp only[cond_true] at h
     obtain ⟨hc,h⟩:=a8 h
     obtain rfl:=bp h
     simp only[bn,ly] at hc rM
     obtain ⟨o1,o2⟩:=VG hv rM.2
     have nr:=af0 rM.2
     refine VE S ae hb ht hn (by rw[o2,nr];rfl) oq (fun j u y hu hy=> ?_) (by rw[o2];simp[o1]) (by rw[nr];simp;omega) (VD _ _ _ _) (fun j y hy hj u hu=> ?_) (fun j y hy hj u hu=> ?_)
     ·rw[o2] at hu
      rw[nr] at hy
      cases j with
      | zero=>simp at hu hy;subst hu;subst hy;exact hv
      | succ j=>simp at hy
     ·rw[Ng] at hy
      cases zU:cs[j]? with
      | none=>rw[zU] at hy;cases hy
      | some y0=>
       rw[zU] at hy
       simp only[Option.map_some,eE] at hy
       rw[nr] at hj
       simp only[List.length_singleton] at hj
       have ct:Nat.beq c (0+j)=false:=by
        cases hq:Nat.beq c (0+j) with
        | false=>rfl
        | true=>rw[bB] at hq;omega
       rw[ct] at hy
       have:=Vs (c:=false) hv (hu y0 zU)
       rw[←hy]
       simpa using this
     ·rw[nr] at hj hu
      have hj0:j=0:=by simpa using hj
      subst hj0
      rw[Ng] at hy
      cases zU:cs[c+0]? with
      | none=>rw[zU] at hy;cases hy
      | some y0=>
       rw[zU] at hy
       simp only[Option.map_some,eE] at hy
       have heq:Nat.beq c (0+(c+0))=true:=by rw[bB];omega
       rw[heq] at hy
       have h2:aj P w I β hp u x:=hu x rfl
       have:uP true x y0=x:=af1 x y0
       rw[←hy,this]
       exact h2
    | false=>
     dsimp only at h
     rw[rM] at h
     simp only[cond_false] at h
     obtain ⟨hc,h⟩:=a8 h
     simp only[bn,fC] at hc
     obtain ⟨e1,e2⟩:=Nc hv h
     obtain ⟨h1,l2,h⟩:=Ia h (vs:=v.cells.toList) (by simpa using e1) (fun j u y a b=>e2 j u y (by simpa using a) b)
     obtain rfl:=bp h
     refine VE S ae hb ht hn e1 oq e2 h1 hc.2 (CP _ _ _ hc.2) (fun j y hy hj u hu=> ?_) (fun j y hy hj u hu=> ?_)
     ·unfold gL at hy
      rw[ph _ _ _ _ hc.2] at hy
      rcases hj with hj|hj
      ·rw[af hj] at hy;exact hu y hy
      ·rw[bK,bK] at hy;exact hu y hy
     ·unfold gL at hy
      rw[ph _ _ _ _ hc.2,bK,aZ] at hy
      rw[show c+j-c=j by omega] at hy
      exact hu y hy
   | arr e es fz=>
    cases fz with
    | true=>cases h
    | false=>
    obtain ⟨b,hb,rfl⟩:=ha.jc ae (by simp)
    obtain ⟨az,h⟩:=a8 h
    obtain ⟨⟨ys,fr⟩,l1,l2,bQ,h⟩:=mu h
    obtain ⟨hc,h⟩:=a8 h
    obtain ⟨x0,tm,h⟩:=nk h
    obtain rfl:=bp h
    simp only[bn,oY,fC] at hc
    obtain ⟨eG,hc3,fX⟩:=hc
    have rO:v.cells.size=x.cells.length∧∀(j:Nat) u y,v.cells.toList[j]? =some u→x.cells[j]? =some y→aj P w I β hp u y:=by
     cases x with
     | agg xs=>
      obtain ⟨cs,rfl,h1,h2⟩:=hv.my
      exact ⟨h1,fun j u y a b=>h2 j u y (by simpa[Value.cells] using a) b⟩
     | _=>
      simp only[V.cells] at bQ fX⊢
      simp only[uO] at bQ
      obtain ⟨⟨y1,u1⟩,l3,l4,hq,bQ⟩:=mu bQ
      obtain ⟨q1,q2⟩:=HY S.h.rel hq hv
      obtain ⟨⟨y2,u2⟩,l5,l6,mA,bQ⟩:=mu bQ
      cases mA
      have:=bp bQ
      cases this
      obtain ⟨tl,tg⟩:=wW fX
      have gC:=tg 0 _ y1 (bU (by rw[tl];exact Nat.one_pos)) rfl
      have fk:=q2 (jV P w I β hp u1) (fun _ _ h=> .inl h) (fun p hp b j h=> .inr ⟨p,hp,h⟩)
      have ho:=fk.pure gC
      have Nu:v.cells= #[v]:=by cases ho<;>rfl
      rw[Nu]
      refine ⟨rfl,fun j u y hu hy=> ?_⟩
      cases j with
      | zero=>simp at hu hy;subst hu;subst hy;exact hv
      | succ j=>simp at hy
    obtain ⟨k1,k2,k3⟩:=M6 S.h.rel bQ (vs:=v.cells.toList) (by simpa using rO.1) rO.2
    obtain ⟨tj,S1⟩:=CI S k2
    have CW:cj hp fr id=some (.arr e es false):=by
     rcases wO (hp:=hp) (l:=fr) (id:=id) with h|⟨b',hm,_⟩
     ·exact h.trans ae
     ·exfalso
      have mB:ko (fr.map (·.1)) id=true:=zO (gf.2 ⟨_,hm,rfl⟩)
      rw[mB] at eG;cases eG
    have VO:=k3 (jV P w I β hp fr) (fun _ _ h=> .inl h) (fun p hp b j h=> .inr ⟨p,hp,h⟩)
    obtain ⟨tl,tg⟩:=wW fX
    have zI:=(mw az).1
    have w4:ys.length=v.cells.size:=by rw[k1,rO.1]
    have hcn:c+v.cells.size≤P.cellsOf e:=by rw[rO.1];exact hc3
    have hr:=S1.h.rel id _ CW
    cases hr with
    | eh aI=>simp at tm
    | @arr _ _ _ b' Ca Nb aI hh hs hf dX hx=>
     rw[hb] at aI
     cases aI
     have nt:i<es.length:=(bO.1 tm).1
     have hbound:i*P.cellsOf e+P.cellsOf e≤Ca.size:=by
      have:(i+1)*P.cellsOf e≤es.length*P.cellsOf e:=dM _ nt
      rw[eC] at this
      omega
     simp only[ah.sz]
     have vc:i*P.cellsOf e+c+v.cells.size≤Ca.size:=by omega
     have dv: ∀j,¬jV P w I β hp fr b j:=dX rfl
     have h1: ∀u∈v.cells.toList,u.oneCell'=true:=by
      intro u hu
      obtain ⟨j,hj⟩:=uD hu
      have dG:j<ys.length:=by rw[w4];simpa using (bO.1 hj).1
      have qw:j<(((flat P e).drop c).take x.cells.length).length:=by rw[tl];exact dG
      exact (VO j u ys[j] hj (bU dG)).one (tg j _ ys[j] (bU qw) (bU dG))
     have dH:=Nd (t:=t) (o:=i*P.cellsOf e+c) (v:=v) ht (by rw[rO.1];exact hn.symm) hh vc h1
     have hlen:(Ca.toList.take (i*P.cellsOf e+c)++(v.cells.toList++Ca.toList.drop (i*P.cellsOf e+c+v.cells.toList.length))).length=Ca.size:=by
      rw[CP _ _ _ (by simpa using vc)];simp
     have fk:(parts P e x0).length=P.cellsOf e:=by rw[zL];exact gi az
     have CQ:=Ib S1 (blk':= .arr e (es.set i (dd P e (gL (parts P e x0) c ys))) false)
      (Cb:=(Ca.toList.take (i*P.cellsOf e+c)++(v.cells.toList++Ca.toList.drop (i*P.cellsOf e+c+v.cells.toList.length))).toArray) CW (by simp) ⟨rfl,by simp⟩ hb dv (by simp) hh (by simpa using hlen)
      (fun hle fO=> .arr az rfl fO (by simp only[sM,uC];omega) (fun h=>by cases h) (fun _=>dv) fun i' j z t' hz qw hj=>by
       simp only[m9]
       rw[ph _ _ _ _ (by simpa using vc)]
       simp only[Array.length_toList]
       rw[wi] at hz
       by_cases jX:i=i'
       ·subst jX
        rw[af rfl,af nt] at hz
        cases hz
        have Il:j<(parts P e x0).length:=by omega
        have w5:(gL (parts P e x0) c ys)[j]? =if j<c then (parts P e x0)[j]? else if j<c+ys.length then ys[j-c]? else (parts P e x0)[j]? :=by
         unfold gL;exact ph _ _ _ _ (by omega)
        by_cases te:j<c
        ·rw[aZ]
         rw[af te] at w5
         obtain ⟨u,t2,a1,a2,a3⟩:=H7 hx az tm (bU Il)
         rw[qw] at a1;cases a1
         refine ⟨u,by simpa using a2,?_⟩
         rw[tf (w5.trans (bU Il)) qw]
         exact a3.mono hle.dR hle.cO
        ·rw[ag te] at w5
         by_cases cK:j<c+ys.length
         ·rw[af cK] at w5
          rw[bK,aZ]
          have rP:j-c<ys.length:=by omega
          have VP:j-c<v.cells.toList.length:=by simp;omega
          have aue:j-c<v.cells.size:=by omega
          refine ⟨v.cells.toList[j-c],?_,?_⟩
          ·rw[show i*P.cellsOf e+j-(i*P.cellsOf e+c)=j-c by omega]
           exact bU VP
          ·rw[tf (w5.trans (bU rP)) qw]
           have hft:(((flat P e).drop c).take x.cells.length)[j-c]? =some t':=by
            rw[fB (by omega),jk,show c+(j-c)=j by omega,←u9]
            exact qw
           exact ((VO (j-c) _ ys[j-c] (bU VP) (bU rP)).pure (tg (j-c) t' ys[j-c] hft (bU rP))).mono hle.dR hle.cO
         ·rw[ag cK] at w5
          rw[bK,bK]
          obtain ⟨u,t2,a1,a2,a3⟩:=H7 hx az tm (bU Il)
          rw[qw] at a1;cases a1
          refine ⟨u,by simpa using a2,?_⟩
          rw[tf (w5.trans (bU Il)) qw]
          exact a3.mono hle.dR hle.cO
       ·rw[ag jX] at hz
        obtain ⟨u,a2,a3⟩:=hx i' j z t' hz qw hj
        have ct:i'*P.cellsOf e+j<i*P.cellsOf e+c∨i*P.cellsOf e+c+v.cells.size≤i'*P.cellsOf e+j:=by
         rcases eD i' i with bx|rQ
         ·left
          have:(i'+1)*P.cellsOf e≤i*P.cellsOf e:=dM _ bx
          rw[eC] at this
          omega
         ·right
          have:(i+1)*P.cellsOf e≤i'*P.cellsOf e:=dM _ (by omega)
          rw[eC] at this
          omega
        refine ⟨u,?_,a3.mono hle.dR hle.cO⟩
        rcases ct with ct|ct
        ·rw[af ct];simpa using a2
        ·rw[bK,bK];simpa using a2)
     exact ⟨_,_,_,dH,tj.trans CQ.1,CQ.2,rfl⟩
   | map _ _=>cases h
   | nest e es an=>
    obtain ⟨b,hb,rfl⟩:=ha.jc ae (by simp)
    exact VM S ht hn hv ae hb .here h
 | dk id ver path i c=>
  obtain ⟨e0,es,an,l,ae,h1,h2,h3,h⟩:=qp h
  obtain ⟨b,b1,e1,l1,hb,dY,rfl⟩:=ha.Vo ae h1 h2 h3
  exact VM S ht hn hv ae hb dY h
 | _=>cases h
end
section
variable {P:Program} {w w':World} {I I':Nat→Nat→Prop} {β β':Nat→Option Nat} {hp hp':Nat→Option ah} {C:ab} {B:Nat} {M:Nat→Prop} {w0:Start}
theorem Nv: ∀{ts:List TypeId} {vs:List Value} {j:Nat} {y:V},(km P ts vs)[j]? =some y→∃t v,ts[j]? =some t∧vs[j]? =some v∧y=rA P t v
 | [],vs,j,y,h=>by simp[km] at h
 | _::_,[],j,y,h=>by simp[km] at h
 | t::ts,v::vs,0,y,h=>by simp[km] at h;exact ⟨t,v,rfl,rfl,h.symm⟩
 | t::ts,v::vs,j+1,y,h=>by
  simp only[km,List.getElem?_cons_succ] at h
  obtain ⟨t',v',a,b,c⟩:=Nv h
  exact ⟨t',v',by simpa using a,by simpa using b,c⟩
theorem VQ: ∀{ts:List TypeId} {vs:List Value},ts.length=vs.length→(km P ts vs).length=vs.length
 | [],[],_=>rfl
 | [],_::_,h=>by simp at h
 | _::_,[],h=>by simp at h
 | t::ts,v::vs,h=>by simp[km,VQ (ts:=ts) (vs:=vs) (by simpa using h)]
theorem lO {e:TypeId} (h:dy P e=true): ∃i z,P.info? e=some i∧i.zero=some z∧i.size=P.cellsOf e∧z.cells.size=P.cellsOf e∧zeroCells P e=km P (flat P e) z.cells.toList:=by
 unfold dy at h
 simp only[bn,bB,ly] at h
 obtain ⟨h1,h2,_,h3⟩:=h
 cases hi:P.info? e with
 | none=>rw[hi] at h3;cases h3
 | some i=>
  rw[hi] at h3
  simp only[Option.bind_some] at h3
  cases hz:i.zero with
  | none=>rw[hz] at h3;cases h3
  | some z=>
   rw[hz] at h3
   simp only[bB] at h3
   exact ⟨i,z,rfl,hz,by simp[Program.cellsOf,hi],h3,by simp[zeroCells,hi,hz]⟩
theorem VR {e:TypeId} (h:dy P e=true): ∃i z,P.info? e=some i∧i.zero=some z∧z.cells.size=(zeroCells P e).length∧z.cells.size=P.cellsOf e∧
  ∀(j:Nat) v x,z.cells[j]? =some v→(zeroCells P e)[j]? =some x→aj P w I β hp v x:=by
 obtain ⟨i,z,h1,h2,h3,h4,h5⟩:=lO h
 have hl:(flat P e).length=z.cells.toList.length:=by rw[(mw h).1];simpa using h4.symm
 refine ⟨i,z,h1,h2,?_,h4,fun j v x hv hx=> ?_⟩
 ·rw[h5,VQ hl];simp
 ·rw[h5] at hx
  obtain ⟨t,v',_,zM,rfl⟩:=Nv hx
  have:v'=v:=by
   have e1:z.cells[j]? =some v':=by simpa using zM
   rw[hv] at e1;exact (dD e1).symm
  subst this
  exact aj.const t v'
theorem pk {nb:Nat} {b:ah} {v:V} {upd:List (Nat × ah)} {r:R} {rd:List Nat} (h:(kq nb b v upd).run C hp=some (r,rd)):hp nb=none∧r=⟨v,(nb,b)::upd⟩:=by
 obtain ⟨l,h⟩:=run_get h
 cases hn:hp nb with
 | none=>rw[hn] at h;exact ⟨rfl,(bp h).symm⟩
 | some x=>rw[hn] at h;cases h
theorem VT (S:aW P w I β hp B M w0) {nb:Nat} {xs:List V} {C0:Array Value} {T:TypeId} (hn:hp nb=none) (hs:C0.size=xs.length)
  (hx: ∀(j:Nat) v x,C0[j]? =some v→xs[j]? =some x→aj P w I β hp v x) (ik:Vj P w.heap.size T C0):
  Le P w I β hp (w.alloc (.cells C0 T)) I (a9 β nb (some w.heap.size)) (a9 hp nb (some (.var T xs)))∧aW P (w.alloc (.cells C0 T)) I (a9 β nb (some w.heap.size)) (a9 hp nb (some (.var T xs))) B M w0∧
  aj P (w.alloc (.cells C0 T)) I (a9 β nb (some w.heap.size)) (a9 hp nb (some (.var T xs))) (.pointer (some ⟨w.heap.size,0,none⟩)) (.ptr nb 0 0):=by
 obtain ⟨h1,h2⟩:=M7 S (blk:= .var T xs) (c:=C0) (T:=T) hn (fun b' h=>(dD (h.flat (by simp))).symm) (fun hle fO dv=> .var rfl fO hs dv (fun j v x a b=>(hx j v x a b).mono hle) ik)
 refine ⟨h1,h2,?_⟩
 have:=aj.ptr (P:=P) (w:=w.alloc (.cells C0 T)) (I:=I) (β:=a9 β nb (some w.heap.size)) (hp:=a9 hp nb (some (.var T xs))) (i:=0) (c:=0) (blk:= .var T xs) (dF _ _ _) (by simp) (dF _ _ _)
 simpa using this
theorem agh (S:aW P w I β hp B M w0) {e:TypeId} {nb:Nat} {r:R} {rd:List Nat}
  (h:(Rd.aR (dy P e&&(!(rB P e)||Ve (zeroCells P e))) (kq nb (.var e (zeroCells P e)) (.ptr nb 0 0) [])).run C hp=some (r,rd)):dJ P ((Instr.alloc e true (.tuple #[])).run P w) w I β hp B M w0 r:=by
 obtain ⟨az,h⟩:=a8 h
 rw[bn] at az
 obtain ⟨az,oq⟩:=az
 obtain ⟨hn,rfl⟩:=pk h
 obtain ⟨i,z,h1,h2,h3,h4,h5⟩:=VR (w:=w) (I:=I) (β:=β) (hp:=hp) az
 obtain ⟨a,b,c⟩:=VT S (T:=e) hn h3 h5 fun bP=>by
  rw[bP,BM,Bool.false_or] at oq
  cases hz:zeroCells P e with
  | nil=>rw[hz] at oq;cases oq
  | cons y l=>
   rw[hz] at oq h3 h5
   cases y<;>first|(cases oq;done)|skip
   have bx:0<z.cells.size:=by rw[h3];simp
   have:=h5 0 z.cells[0] .ee (mj bx) rfl
   left
   rw[mj bx]
   generalize z.cells[0]=u at this
   cases this;rfl
 exact ⟨_,_,_,_,by simp[Instr.alloc,zeroValue,typeInfo,h1,h2,newVar,newRow],a,b,c⟩
theorem agi (S:aW P w I β hp B M w0) {e:TypeId} {nb:Nat} {x:V} {v:Value} {r:R} {rd:List Nat} (hv:aj P w I β hp v x)
  (h:(Rd.aR (!(rB P e)) <| nh x.cells (kq nb (.var e x.cells) (.ptr nb 0 0) [])).run C hp=some (r,rd)):dJ P ((Instr.box e v).run P w) w I β hp B M w0 r:=by
 obtain ⟨oq,h⟩:=a8 h
 obtain ⟨e1,e2⟩:=Nc hv h
 obtain ⟨_,l,h⟩:=Ia h (vs:=v.cells.toList) (by simpa using e1) (fun j u y a b=>e2 j u y (by simpa using a) b)
 obtain ⟨hn,rfl⟩:=pk h
 obtain ⟨a,b,c⟩:=VT S (T:=e) hn e1 e2 fun bP=>by rw[bP] at oq;cases oq
 exact ⟨_,_,_,_,by simp[Instr.box,newVar,newRow],a,b,c⟩
theorem foldl_set (off:Nat): ∀(vs:List Value) (k:Nat) (cs:Array Value) (i:Nat),off+k+vs.length≤cs.size→
  ((vs.zipIdx k).foldl (fun cs p=>cs.setIfInBounds (off+p.2) p.1) cs)[i]? =if i<off+k then cs[i]? else if i<off+k+vs.length then vs[i-(off+k)]? else cs[i]?
 | [],k,cs,i,h=>by simp;intro h1 h2;omega
 | v::vs,k,cs,i,h=>by
  simp only[List.zipIdx_cons,List.foldl_cons]
  simp only[List.length_cons] at h⊢
  rw[foldl_set off vs (k+1) _ i (by simp;omega)]
  by_cases h1:i<off+k
  ·rw[aZ,af h1]
   rw[Hj (by omega)]
  ·rw[ag h1]
   by_cases h2:i=off+k
   ·subst h2
    rw[aZ,aZ]
    rw[MB (by omega)]
    simp
   ·rw[bK]
    by_cases h3:i<off+k+(vs.length+1)
    ·rw[aZ,af h3,show i-(off+k)=(i-(off+(k+1)))+1 by omega]
     simp
    ·rw[bK,ag h3,Hj (by omega)]
theorem VU (off:Nat): ∀(vs:List Value) (k:Nat) (cs:Array Value),((vs.zipIdx k).foldl (fun cs p=>cs.setIfInBounds (off+p.2) p.1) cs).size=cs.size
 | [],k,cs=>rfl
 | v::vs,k,cs=>by
  simp only[List.zipIdx_cons,List.foldl_cons]
  rw[VU off vs (k+1)]
  simp
theorem VV {cells:Array Value} {off:Nat} {v:Value} (h:off+v.cells.size≤cells.size) (i:Nat):
  (v.cells.zipIdx.foldl (fun cs (p:Value × Nat)=>cs.setIfInBounds (off+p.2) p.1) cells)[i]? =if i<off then cells[i]? else if i<off+v.cells.size then v.cells[i-off]? else cells[i]? :=by
 have:=foldl_set off v.cells.toList 0 cells i (by simpa using h)
 rw[←Hk]
 simpa[Array.toList_zipIdx] using this
theorem VW {cells:Array Value} {off:Nat} {v:Value}:(v.cells.zipIdx.foldl (fun cs (p:Value × Nat)=>cs.setIfInBounds (off+p.2) p.1) cells).size=cells.size:=by
 have:=VU off v.cells.toList 0 cells
 rw[←Hk]
 simpa[Array.toList_zipIdx] using this
inductive zV (P:Program) (w:World) (I:Nat→Nat→Prop) (β:Nat→Option Nat) (hp:Nat→Option ah):List (Nat × Value)→List (Nat × V)→Prop
 | nil:zV P w I β hp [] []
 | cons {i:Nat} {v:Value} {x:V} {vs:List (Nat × Value)} {xs:List (Nat × V)}:v.cells.size=x.cells.length→(∀(j:Nat) u y,v.cells[j]? =some u→x.cells[j]? =some y→aj P w I β hp u y)→
   zV P w I β hp vs xs→zV P w I β hp ((i,v)::vs) ((i,x)::xs)
theorem VX (place:Nat→Option (Nat × Nat)): ∀{vs:List (Nat × Value)} {px:List (Nat × V)} {cells:Array Value} {xs ys:List V},zV P w I β hp vs px→cells.size=xs.length→
  (∀(j:Nat) v x,cells[j]? =some v→xs[j]? =some x→aj P w I β hp v x)→wB place xs px=some ys→
  ∃rR:Array Value,Instr.fill place cells vs=some rR∧rR.size=ys.length∧∀(j:Nat) v x,rR[j]? =some v→ys[j]? =some x→aj P w I β hp v x
 | _,_,cells,xs,ys,.nil,hs,hx,h=>by
  simp only[wB,eE] at h
  subst h
  exact ⟨cells,by simp[Instr.fill],hs,hx⟩
 | _,_,cells,xs,ys,@zV.cons _ _ _ _ _ i v x vs px h1 h2 h3,hs,hx,h=>by
  simp only[wB] at h
  cases fk:place i with
  | none=>rw[fk] at h;cases h
  | some os=>
   obtain ⟨off,size⟩:=os
   rw[fk] at h
   simp only at h
   cases hc:(Nat.beq x.cells.length size&&Nat.ble (off+size) xs.length) with
   | false=>rw[hc] at h;cases h
   | true=>
    rw[hc] at h
    simp only[cond_true] at h
    simp only[bn,bB,fC] at hc
    have hv:off+v.cells.size≤cells.size:=by omega
    have hb:off+x.cells.length≤xs.length:=by omega
    have hl:(gL xs off x.cells).length=xs.length:=CP _ _ _ hb
    obtain ⟨rR,f1,f2,f3⟩:=VX place (cells:=v.cells.zipIdx.foldl (fun cs (p:Value × Nat)=>cs.setIfInBounds (off+p.2) p.1) cells) (xs:=gL xs off x.cells) h3 (by rw[VW,hl,hs])
     (fun j u y hu hy=>by
      rw[VV hv] at hu
      unfold gL at hy
      rw[ph _ _ _ _ hb] at hy
      by_cases j1:j<off
      ·rw[af j1] at hu hy;exact hx j u y hu hy
      ·rw[ag j1] at hu hy
       by_cases j2:j<off+x.cells.length
       ·rw[aZ] at hu
        rw[af j2] at hy
        exact h2 (j-off) u y hu hy
       ·rw[bK] at hu
        rw[ag j2] at hy
        exact hx j u y hu hy) h
    refine ⟨rR,?_,f2,f3⟩
    simp only[Instr.fill,fk]
    rw[ag (by simp;omega)]
    exact f1
theorem agj {t:TypeId} {parts:Array (Nat × Value)} {cells:Array Value} {z:Value} {i:TypeInfo} (hi:P.info? t=some i) (hz:i.zero=some z) (h:Instr.fill (placeOf P t) z.cells parts.toList=some cells) (ha:cb P t=true)
  (fk: ∀fs,P.underlying t=some (.struct fs)→(fs.toList.mapM fun f=>(P.info? f.type).map fun i=>(f.offset,i.size)).isSome=true) (tn: ∀n e,P.underlying t=some (.array n e)→(P.info? e).isSome=true):
  (Instr.build t parts).run P w= .ok (.agg cells) w:=by
 refine run_build w t parts cells ?_
 unfold Program.built
 unfold cb at ha
 rw[hi]
 split at ha
 ·rename_i fs hu
  have:=fk fs hu
  cases hm:fs.toList.mapM fun f=>(P.info? f.type).map fun i=>(f.offset,i.size) with
  | none=>rw[hm] at this;cases this
  | some places=>
   simp only[hu,hz,hm]
   have hq:placeOf P t=fun i=>places[i]? :=by simp[placeOf,hu,hm]
   rw[hq] at h
   simpa using h
 ·rename_i n e hu
  have:=tn n e hu
  cases kZ:P.info? e with
  | none=>rw[kZ] at this;cases this
  | some ie=>
   simp only[hu,hz,kZ]
   have hq:placeOf P t=fun i=>some (i*ie.size,ie.size):=by simp[placeOf,hu,kZ]
   rw[hq] at h
   exact h
 ·cases ha
theorem VY {α:Type}: ∀(xs ys:List V) (k:Rd α),nh (xs++ys) k=nh xs (nh ys k)
 | [],_,_=>rfl
 | x::xs,ys,k=>by simp only[List.cons_append,nh,VY xs ys k]
theorem VZ {a:Act} {sl:Nat→V} (hs:mr P w I β hp a sl) {G:Nat→V} (hg:iC P G w I) (t:TypeId) {α:Type}: ∀{l:List (Nat × Operand)} {k:Rd α} {r:α} {rd:List Nat},
  (nh ((l.map fun p=>(bq P G t sl p.2).cells).flatten) k).run C hp=some (r,rd)→
  zV P w I β hp (l.map fun p=>(p.1,a.eval p.2)) (l.map fun p=>(p.1,bq P G t sl p.2))∧∃fP,k.run C hp=some (r,fP)
 | [],k,r,rd,h=>⟨.nil,rd,h⟩
 | (i,x)::l,k,r,rd,h=>by
  simp only[ki,List.flatten_cons,VY] at h
  obtain ⟨e1,e2⟩:=Nc (hs.ev hg t x) h
  obtain ⟨_,l1,h⟩:=Ia h (vs:=(a.eval x).cells.toList) (by simpa using e1) (fun j u y a b=>e2 j u y (by simpa using a) b)
  obtain ⟨h1,h2⟩:=VZ hs hg t h
  exact ⟨.cons e1 e2 h1,h2⟩
theorem agk (S:aW P w I β hp B M w0) {a:Act} {sl:Nat→V} (hs:mr P w I β hp a sl) {G:Nat→V} (hg:iC P G w I) {t ty:TypeId} {ps:Array (Nat × Operand)} {r:R} {rd:List Nat}
  (h:(Rd.aR (dy P t&&(cb P t&&HJ P t)) (nh ((ps.toList.map fun p=>(bq P G ty sl p.2).cells).flatten)
   (zu (wB (placeOf P t) (zeroCells P t) (ps.toList.map fun p=>(p.1,bq P G ty sl p.2))) fun cs=> .ret ⟨.agg cs,[]⟩))).run C hp=some (r,rd)):
  dJ P ((Instr.build t (ps.map fun (i,x)=>(i,a.eval x))).run P w) w I β hp B M w0 r:=by
 obtain ⟨az,h⟩:=a8 h
 simp only[bn] at az
 obtain ⟨h1,l,h⟩:=VZ hs hg ty h
 cases hf:wB (placeOf P t) (zeroCells P t) (ps.toList.map fun p=>(p.1,bq P G ty sl p.2)) with
 | none=>rw[hf] at h;cases h
 | some cs=>
  rw[hf] at h
  obtain rfl:=bp h
  obtain ⟨i,z,hi,hz,h3,h4,h5⟩:=VR (w:=w) (I:=I) (β:=β) (hp:=hp) az.1
  obtain ⟨cells,f1,f2,f3⟩:=VX (placeOf P t) h1 h3 h5 hf
  have V0:=az.2.2
  refine .same S (v:= .agg cells) (agj hi hz (by simpa using f1) az.2.1 (fun fs hu=> ?_) (fun n e hu=> ?_)) (.agg f2 f3)
  ·simpa[HJ,hu] using V0
  ·simpa[HJ,hu] using V0
theorem agl (dm: ∀id blk,hp id=some blk→eT P w I β hp (β id) blk) {x:V} {v:Value} {ys:List V} {fr:List (Nat × ah)} {rd:List Nat} {ts:List TypeId} (hv:aj P w I β hp v x)
  (h:(uO P x.cells).run C hp=some ((ys,fr),rd)) (ht:sR P ts ys=true):
  v.cells.size=x.cells.length∧∀(j:Nat) u y,v.cells.toList[j]? =some u→x.cells[j]? =some y→aj P w I β hp u y:=by
 cases x with
 | agg xs=>
  obtain ⟨cs,rfl,h1,h2⟩:=hv.my
  exact ⟨h1,fun j u y a b=>h2 j u y (by simpa[Value.cells] using a) b⟩
 | _=>
  simp only[V.cells] at h⊢
  simp only[uO] at h
  obtain ⟨⟨y1,u1⟩,l3,l4,hq,h⟩:=mu h
  obtain ⟨q1,q2⟩:=HY dm hq hv
  obtain ⟨⟨y2,u2⟩,l5,l6,mA,h⟩:=mu h
  cases mA
  have:=bp h
  cases this
  obtain ⟨tl,tg⟩:=wW ht
  have gC:=tg 0 _ y1 (bU (by rw[tl];exact Nat.one_pos)) rfl
  have fk:=q2 (jV P w I β hp u1) (fun _ _ h=> .inl h) (fun p hp b j h=> .inr ⟨p,hp,h⟩)
  have ho:=fk.pure gC
  have Nu:v.cells= #[v]:=by cases ho<;>rfl
  rw[Nu]
  refine ⟨rfl,fun j u y hu hy=> ?_⟩
  cases j with
  | zero=>simp at hu hy;subst hu;subst hy;exact hv
  | succ j=>simp at hy
def zW (P:Program) (w:World) (I:Nat→Nat→Prop) (e:TypeId) (cells:Array Value) (es:List V):Prop:=
 cells.size=es.length*P.cellsOf e∧∀(i j:Nat) (x:V) (t':TypeId),es[i]? =some x→(bC P e)[j]? =some t'→j<P.cellsOf e→∃v,cells[i*P.cellsOf e+j]? =some v∧Pure P w I t' v (cl P e x j)
theorem zW.set {e:TypeId} {cells:Array Value} {es ys:List V} {i:Nat} {v:Value} (h:zW P w I e cells es) (hi:i<es.length) (hv:v.cells.size=P.cellsOf e) (hy:ys.length=P.cellsOf e)
  (hr: ∀(j:Nat) (t':TypeId) (u:Value) (y:V),(bC P e)[j]? =some t'→v.cells[j]? =some u→ys[j]? =some y→Pure P w I t' u y):
  zW P w I e (v.cells.zipIdx.foldl (fun cs (p:Value × Nat)=>cs.setIfInBounds (i*P.cellsOf e+p.2) p.1) cells) (es.set i (dd P e ys)):=by
 obtain ⟨h1,h2⟩:=h
 have hb:i*P.cellsOf e+v.cells.size≤cells.size:=by
  have:(i+1)*P.cellsOf e≤es.length*P.cellsOf e:=dM _ hi
  rw[eC] at this
  omega
 refine ⟨by rw[VW,uC,h1],fun i' j x t' hx ht hj=> ?_⟩
 rw[VV hb]
 rw[wi] at hx
 by_cases jX:i=i'
 ·subst jX
  rw[af rfl,af hi] at hx
  cases hx
  rw[bK,aZ,show i*P.cellsOf e+j-i*P.cellsOf e=j by omega]
  have h3:j<v.cells.size:=by omega
  have h4:j<ys.length:=by omega
  refine ⟨v.cells[j],mj h3,?_⟩
  rw[tf (bU h4) ht]
  exact hr j t' _ _ ht (mj h3) (bU h4)
 ·rw[ag jX] at hx
  have ct:i'*P.cellsOf e+j<i*P.cellsOf e∨i*P.cellsOf e+v.cells.size≤i'*P.cellsOf e+j:=by
   rcases eD i' i with bx|rQ
   ·left
    have:(i'+1)*P.cellsOf e≤i*P.cellsOf e:=dM _ bx
    rw[eC] at this
    omega
   ·right
    have:(i+1)*P.cellsOf e≤i'*P.cellsOf e:=dM _ (by omega)
    rw[eC] at this
    omega
  rcases ct with ct|ct
  ·rw[af ct];exact h2 i' j x t' hx ht hj
  ·rw[bK,bK];exact h2 i' j x t' hx ht hj
theorem agm {t':TypeId} {v:Value} (gC:fo P t' (zn (rA P t' v))=true):Pure P w I t' v (zn (rA P t' v)):=by
 have hc:=aj.const (P:=P) (w:=w) (I:=I) (β:=fun _=>none) (hp:=fun _=>none) t' v
 cases w6:rA P t' v<;>rw[w6] at gC hc<;>simp only[zn] at gC⊢
 case int k n=>rw[hc.fa];exact Plain.pure (v:= .int k n) (y:= .int k n) rfl gC
 case bool b=>rw[hc.kW];exact Plain.pure (v:= .bool b) (y:= .bool b) rfl gC
 case str l=>obtain ⟨s,e1,e2⟩:=hc.oo;rw[e1];exact Plain.pure (v:= .string s) (y:= .str l) ⟨s,rfl,e2⟩ gC
 case nilS e'=>
  cases hc
  exact Plain.pure (y:= .list e' []) (jT.any fun _=>rfl) gC
 case list e' es=>
  cases hc with
  | list hp=>exact Plain.pure (y:= .list e' es) hp gC
 all_goals (unfold fo at gC;split at gC<;>simp_all)
theorem CX {e:TypeId} (h:og P e=true): ∃i z,P.info? e=some i∧i.zero=some z∧i.size=P.cellsOf e∧z.cells.size=P.cellsOf e∧
  ∀(j:Nat) (t':TypeId),(bC P e)[j]? =some t'→j<P.cellsOf e→∃v,z.cells[j]? =some v∧Pure P w I t' v (cl P e (dd P e (fE P e)) j):=by
 unfold og at h
 simp only[bn] at h
 obtain ⟨i,z,h1,h2,h3,h4,h5⟩:=lO h.1
 refine ⟨i,z,h1,h2,h3,h4,fun j t' ht hj=> ?_⟩
 obtain ⟨tl,tg⟩:=wW h.2
 have dG:j<(fE P e).length:=by rw[←tl,(mw h.1).1];exact hj
 have hz:=bU dG
 have gC:=tg j t' _ (by rw[←u9];exact ht) hz
 refine ⟨z.cells[j],mj (by omega),?_⟩
 rw[tf hz ht]
 have w7:(fE P e)[j]=zn (rA P t' z.cells[j]):=by
  have:(fE P e)[j]? =((zeroCells P e)[j]?).map zn:=by simp[fE]
  rw[hz] at this
  cases hc:(zeroCells P e)[j]? with
  | none=>rw[hc] at this;cases this
  | some y=>
   rw[hc] at this
   simp only[Option.map_some,eE] at this
   rw[h5] at hc
   obtain ⟨t2,v2,a1,a2,rfl⟩:=Nv hc
   have Nw:t2=t':=by
    rw[←u9,ht] at a1;exact (dD a1).symm
   have s8:v2=z.cells[j]:=by
    have hjz:j<z.cells.size:=by omega
    have:z.cells.toList[j]? =some z.cells[j]:=by simp[hjz]
    rw[this] at a2;exact (dD a2).symm
   rw[this,Nw,s8]
 rw[w7] at gC⊢
 exact agm gC
end
section
variable {P:Program} {w w':World} {I I':Nat→Nat→Prop} {β β':Nat→Option Nat} {hp hp':Nat→Option ah} {C:ab} {B:Nat} {M:Nat→Prop} {w0:Start}
theorem zX (S:aW P w I β hp B M w0) {nb cap:Nat} {fz:Bool} {e:TypeId} {es:List V} {C0:Array Value} (az:dy P e=true) (hn:hp nb=none) (hs:C0.size=cap*P.cellsOf e) (hl:es.length≤cap) (hm:cap≤maxLen)
  (hx: ∀(i j:Nat) (x:V) (t':TypeId),es[i]? =some x→(bC P e)[j]? =some t'→j<P.cellsOf e→∃v,C0[i*P.cellsOf e+j]? =some v∧Pure P w I t' v (cl P e x j)):
  Le P w I β hp (w.alloc (.cells C0 e)) I (a9 β nb (some w.heap.size)) (a9 hp nb (some (.arr e es fz)))∧aW P (w.alloc (.cells C0 e)) I (a9 β nb (some w.heap.size)) (a9 hp nb (some (.arr e es fz))) B M w0∧
  aj P (w.alloc (.cells C0 e)) I (a9 β nb (some w.heap.size)) (a9 hp nb (some (.arr e es fz))) (.slice (some ⟨w.heap.size,0,none⟩) es.length cap) (.whole e nb):=by
 obtain ⟨h1,h2⟩:=M7 S (blk:= .arr e es fz) (c:=C0) (T:=e) hn (fun b' h=>(dD (h.flat (by simp))).symm) (fun hle fO dv=> .arr az rfl fO (by rw[hs];exact dM _ hl) (fun _ j h=>absurd h (dv j)) (fun _=>dv) fun i j x t' a b c=>by
  obtain ⟨v,hv,hp⟩:=hx i j x t' a b c
  exact ⟨v,hv,hp.mono hle.dR hle.cO⟩)
 refine ⟨h1,h2,.whole (dF _ _ _) (dF _ _ _) ?_ hl hm⟩
 rw[pc (heap_alloc_new w (.cells C0 e)),hs]
theorem V1 {b n:Nat} {Ca C':Array Value} {T T':TypeId} {f f':Nat × Nat} (hh:w.heap[b]? =some (.cells Ca T f)) (hh':w'.heap[b]? =some (.cells C' T' f')) (hI: ∀j,I b j→j<n) (hp: ∀j,j<n→C'[j]? =Ca[j]?) (j:Nat) (h:I b j):
  w'.cell? ⟨b,j,none⟩=w.cell? ⟨b,j,none⟩:=by
 rw[cell?_cells hh,cell?_cells hh']
 exact hp j (hI j h)
theorem Nx {b n:Nat} {fz:Bool} (hf:fz=true→∀j,I b j→j<n) (dX:fz=false→∀j,¬I b j): ∀j,I b j→j<n:=by
 intro j h
 cases fz with
 | true=>exact hf rfl j h
 | false=>exact absurd h (dX rfl j)
theorem At.only {b b':Nat} {e e':TypeId} {es bj:List V} {q:Path} (hz: ∀(i j:Nat) x t' e1 l,es[i]? =some x→(bC P e)[j]? =some t'→cl P e x j= .list e1 l→l=[])
  (h:At P w b e es q b' e' bj):q=[]∧b'=b∧e'=e∧bj=es:=by
 cases h with
 | here=>exact ⟨rfl,rfl,rfl,rfl⟩
 | step h1 h2 h3 h4 h5 h6=>have:=hz _ _ _ _ _ _ h2 h3 h5;subst this;simp at h6
theorem om.s7 {t:TypeId} {v:Value} {x:V} (h:Pure P w I t v x) (hz: ∀e1 l,x= .list e1 l→l=[]):om P w I t v x:=by
 cases h with
 | int h=>exact .gR (by unfold gM;rw[h]) (.int h)
 | bool h=>exact .gR (by unfold gM;rw[h]) (.bool h)
 | str h hl=>exact .gR (by unfold gM;rw[h]) (.str h hl)
 | nil h=>exact .emp h fun _=>rfl
 | emp h=>exact .emp h fun h=>by cases h
 | list g hu hl _ _ _ _=>
  have:=hz _ _ rfl
  subst this
  simp at hl
  subst hl
  exact .emp hu fun h=>by cases h
theorem agn (S:aW P w I β hp B M w0) {nb cap:Nat} {e:TypeId} {es:List V} {C0:Array Value} (az:dy P e=true) (hn:hp nb=none) (hs:C0.size=cap*P.cellsOf e) (hl:es.length≤cap) (hm:cap≤maxLen)
  (hx: ∀(i j:Nat) (x:V) (t':TypeId),es[i]? =some x→(bC P e)[j]? =some t'→j<P.cellsOf e→∃v,C0[i*P.cellsOf e+j]? =some v∧Pure P w I t' v (cl P e x j))
  (hz: ∀(i j:Nat) x t' e1 l,es[i]? =some x→(bC P e)[j]? =some t'→cl P e x j= .list e1 l→l=[]):
  Le P w I β hp (w.alloc (.cells C0 e)) I (a9 β nb (some w.heap.size)) (a9 hp nb (some (.nest e es [0,0,0])))∧aW P (w.alloc (.cells C0 e)) I (a9 β nb (some w.heap.size)) (a9 hp nb (some (.nest e es [0,0,0]))) B M w0∧
  aj P (w.alloc (.cells C0 e)) I (a9 β nb (some w.heap.size)) (a9 hp nb (some (.nest e es [0,0,0]))) (.slice (some ⟨w.heap.size,0,none⟩) es.length cap) (.whole e nb):=by
 obtain ⟨h1,h2⟩:=M7 S (blk:= .nest e es [0,0,0]) (c:=C0) (T:=e) hn (fun b' h=>by
   cases h with
   | root _ h=>exact (dD h).symm
   | row h ha=>cases h;exact (At.only hz ha).2.1)
  (fun hle fO dv=> .nest rfl (fun q b' e' bj ha=>by
   obtain ⟨rfl,rfl,rfl,rfl⟩:=At.only hz ha
   refine ⟨az,⟨C0,fO,by rw[hs];exact dM _ hl,fun i j x t' a b c=> ?_⟩,dv⟩
   obtain ⟨v,hv,hp⟩:=hx i j x t' a b c
   exact ⟨v,hv,.s7 (hp.mono hle.dR hle.cO) fun e1 l h=>hz i j x t' e1 l a b h⟩)
   fun q1 q2 b' e1 cZ e2 cN a1 a2=>(At.only hz a1).1.trans (At.only hz a2).1.symm)
 refine ⟨h1,h2,.e8 (dF _ _ _) (dF _ _ _) ?_ hl hm⟩
 rw[pc (heap_alloc_new w (.cells C0 e)),hs]
theorem V2 (dm: ∀id blk,hp id=some blk→eT P w I β hp (β id) blk) {a:Act} {sl:Nat→V} (hs:mr P w I β hp a sl) {G:Nat→V} (hg:iC P G w I) {e:TypeId} {len:Nat}: ∀{l:List (Nat × Operand)} {ps:List (Nat × V)} {upd:List (Nat × ah)} {rd:List Nat},
  (Cc P e len (l.map fun p=>(p.1,bq P G e sl p.2))).run C hp=some ((ps,upd),rd)→dy P e=true→(∀p∈upd,CB hp p)∧∀I':Nat→Nat→Prop,(∀b j,I b j→I' b j)→(∀p∈upd,∀b j,u6 P w β hp p.1 b j→I' b j)→
   ∀(cells:Array Value) (es:List V),es.length=len→zW P w I' e cells es→∃rR,Instr.fill (fun i=>some (i*P.cellsOf e,P.cellsOf e)) cells (l.map fun p=>(p.1,a.eval p.2))=some rR∧zW P w I' e rR (B9 es ps)∧(B9 es ps).length=len
 | [],ps,upd,rd,h,_=>by
  cases h
  exact ⟨by simp,fun I' _ _ cells es hl he=>⟨cells,by simp[Instr.fill],he,hl⟩⟩
 | (i,x)::l,ps,upd,rd,h,az=>by
  simp only[ki,Cc] at h
  obtain ⟨⟨ys,u1⟩,l1,l2,h1,h⟩:=mu h
  obtain ⟨hc,h⟩:=a8 h
  obtain ⟨⟨ps',u2⟩,l3,l4,h2,h⟩:=mu h
  have:=bp h
  cases this
  simp only[bn,ly] at hc
  obtain ⟨hi,gC⟩:=hc
  obtain ⟨tl,tg⟩:=wW gC
  have zN:=hs.ev hg e x
  obtain ⟨v1,v2⟩:=agl dm zN h1 gC
  obtain ⟨k1,k2,k3⟩:=M6 dm h1 (vs:=(a.eval x).cells.toList) (by simpa using v1) v2
  obtain ⟨m1,m2⟩:=V2 dm hs hg h2 az
  refine ⟨fun p hp=> ?_,fun I' i1 i2 cells es hl he=> ?_⟩
  ·rcases eP.1 hp with h|h
   ·exact k2 p h
   ·exact m1 p h
  ·have fk:=k3 I' i1 (fun p hp=>i2 p (eP.2 (.inl hp)))
   have bG:=(mw az).1
   have w4:ys.length=P.cellsOf e:=by rw[←tl,bG]
   have VF:(a.eval x).cells.size=P.cellsOf e:=by rw[v1,←k1,w4]
   have w8:=he.set (i:=i) (ys:=ys) (by omega) VF w4 (fun j t' u y ht hu hy=>by
    exact (fk j u y (by simpa using hu) hy).pure (tg j t' y (by rw[←u9];exact ht) hy))
   obtain ⟨rR,f1,f2,f3⟩:=m2 I' i1 (fun p hp=>i2 p (eP.2 (.inr hp))) _ (es.set i (dd P e ys)) (by simpa using hl) w8
   refine ⟨rR,?_,f2,f3⟩
   have hb:i*P.cellsOf e+P.cellsOf e≤cells.size:=by
    rw[he.1,hl]
    have:(i+1)*P.cellsOf e≤len*P.cellsOf e:=dM _ hi
    rw[eC] at this
    omega
   simp only[ki,Instr.fill]
   rw[ag (by simp;omega)]
   exact f1
theorem V3 {z:Array Value} {n k:Nat} (hk:k<n) (hz:0<z.size):((Array.range n).map (z[· %z.size]!))[k]? =z[k %z.size]? :=by
 have hm:k %z.size<z.size:=ze _ hz
 simp[hk,hm]
theorem Im {e:TypeId} (h:og P e=true) {i:TypeInfo} {z:Value} (hi:P.info? e=some i) (hz:i.zero=some z) (n m:Nat) (qf:n≤m):
  ∀(k j:Nat) (x:V) (t':TypeId),(List.replicate n (dd P e (fE P e)))[k]? =some x→(bC P e)[j]? =some t'→j<P.cellsOf e→
   ∃v,((Array.range (m*P.cellsOf e)).map (z.cells[· %z.cells.size]!))[k*P.cellsOf e+j]? =some v∧Pure P w I t' v (cl P e x j):=by
 intro k j x t' hx ht hj
 obtain ⟨i2,z2,h1,h2,h3,h4,h5⟩:=CX (w:=w) (I:=I) h
 rw[hi] at h1;cases h1
 rw[hz] at h2;cases h2
 rw[BN] at hx
 split at hx
 ·rename_i hk
  cases hx
  obtain ⟨v,hv,hp⟩:=h5 j t' ht hj
  refine ⟨v,?_,hp⟩
  have hb:k*P.cellsOf e+j<m*P.cellsOf e:=by
   have:(k+1)*P.cellsOf e≤m*P.cellsOf e:=dM _ (by omega)
   rw[eC] at this
   omega
  rw[V3 hb (by omega),h4,show (k*P.cellsOf e+j) %P.cellsOf e=j by rw[jm,Nat.mul_add_mod];exact BO hj]
  exact hv
 ·cases hx
theorem ago {P:Program} (w:World) (t e:TypeId) (len:Nat) (parts:Array (Nat × Value)) (cells:Array Value) (ie:TypeInfo) (z:Value)
  (hu:P.underlying t=some (.slice e)) (kZ:P.info? e=some ie) (hz:ie.zero=some z) (agp: ¬len*ie.size>2^24)
  (h:Instr.fill (fun i=>some (i*ie.size,ie.size)) ((Array.range (len*ie.size)).map (z.cells[· %z.cells.size]!)) parts.toList=some cells):
  (Instr.buildSlice t len parts).run P w= .ok (.slice (some ⟨w.heap.size,0,none⟩) len len) (w.alloc (.cells cells e)):=by
 by_cases qf:len*ie.size=0
 ·have h0: ∀g:Nat→Value,(Array.range (len*ie.size)).map g= #[]:=by intro g;exact Array.eq_empty_of_size_eq_zero (by simp[qf])
  have hp: ∀(u:Array Value),(Pure.pure u:Sem (Array Value)).run P w= .ok u w:=fun _=>rfl
  rw[h0] at h
  simp only[Instr.buildSlice,Sem.run_bind,run_underlying hu,Result.andThen_ok,sizeOf,typeInfo,kZ]
  have h1:(Array.range (len*ie.size)).map (fun _:Nat=>(default:Value))= #[]:=h0 _
  have hs: ¬16777216<len*ie.size:=by omega
  simp[kZ,hs,qf]
  simp only[qf] at h1
  simp[h1,h,newRow]
 ·exact run_buildSlice w t e len parts cells ie z hu kZ hz agp qf h
theorem agq (S:aW P w I β hp B M w0) {a:Act} {sl:Nat→V} (hs:mr P w I β hp a sl) {G:Nat→V} (hg:iC P G w I) {t e:TypeId} {len nb:Nat} {ps:Array (Nat × Operand)} {r:R} {rd:List Nat} (hu:P.underlying t=some (.slice e))
  (h:(Rd.aR (og P e&&Nat.ble (len*P.cellsOf e) (2^24)) ((Cc P e len (ps.toList.map fun p=>(p.1,bq P G e sl p.2))).bind fun r=>
    kq nb (.arr e (B9 (List.replicate len (dd P e (fE P e))) r.1) false) (.whole e nb) r.2)).run C hp=some (r,rd)):
  dJ P ((Instr.buildSlice t len (ps.map fun (i,x)=>(i,a.eval x))).run P w) w I β hp B M w0 r:=by
 obtain ⟨hc,h⟩:=a8 h
 simp only[bn,fC] at hc
 obtain ⟨dA,wK⟩:=hc
 have az:dy P e=true:=by
  unfold og at dA;simp only[bn] at dA;exact dA.1
 obtain ⟨⟨pv,upd⟩,l1,l2,h1,h⟩:=mu h
 obtain ⟨hn,rfl⟩:=pk h
 obtain ⟨m1,m2⟩:=V2 S.h.rel hs hg h1 az
 obtain ⟨tj,S1⟩:=CI S m1
 obtain ⟨i,z,hi,hz,h3,h4,_⟩:=CX (w:=w) (I:=I) dA
 have lP:=(mw az).2
 have h0:zW P w (jV P w I β hp upd) e ((Array.range (len*P.cellsOf e)).map (z.cells[· %z.cells.size]!)) (List.replicate len (dd P e (fE P e))):=
  ⟨by simp,Im dA hi hz len len (aw _)⟩
 obtain ⟨cells,f1,f2,f3⟩:=m2 (jV P w I β hp upd) (fun _ _ h=> .inl h) (fun p hp b j h=> .inr ⟨p,hp,h⟩) _ _ (by simp) h0
 have lQ:cj hp upd nb=none:=by
  rcases wO (hp:=hp) (l:=upd) (id:=nb) with h|⟨b',hm,_⟩
  ·exact h.trans hn
  ·obtain ⟨e1,cZ,_,h5⟩:=m1 _ hm
   simp only[hn] at h5
   rcases h5 with ⟨_,h5⟩|⟨_,h5⟩<;>cases h5
 have qq:len≤maxLen:=by
  have:len*1≤len*P.cellsOf e:=wj _ lP
  simp only[maxLen]
  omega
 obtain ⟨n1,n2,n3⟩:=zX S1 (cap:=len) az lQ (by rw[f2.1,f3]) (by rw[f3];exact aw _) qq f2.2
 have dH:=ago w t e len (ps.map fun (i,x)=>(i,a.eval x)) cells i z hu hi hz (by rw[h3];omega) (by rw[h3];simpa using f1)
 refine ⟨_,_,_,_,dH,tj.trans n1,n2,?_⟩
 rw[f3] at n3
 exact n3
theorem V4 (S:aW P w I β hp B M w0) {t e:TypeId} {nb:Nat} {kl kc:IntKind} {n m:Int} {r:R} {rd:List Nat} (hu:P.underlying t=some (.slice e))
  (h:(Rd.aR (og P e&&(decide (0≤n)&&(decide (n≤m)&&Nat.ble (m.toNat*P.bytesOf e) bM)))
    (kq nb (.arr e (List.replicate n.toNat (dd P e (fE P e))) false) (.whole e nb) [])).run C hp=some (r,rd)):
  dJ P ((Instr.makeSlice t (.int kl n) (.int kc m)).run P w) w I β hp B M w0 r:=by
 obtain ⟨hc,h⟩:=a8 h
 simp only[bn,fC,dW] at hc
 obtain ⟨dA,h0,qf,fq⟩:=hc
 have az:dy P e=true:=by
  unfold og at dA;simp only[bn] at dA;exact dA.1
 obtain ⟨hn,rfl⟩:=pk h
 obtain ⟨i,z,hi,hz,h3,h4,_⟩:=CX (w:=w) (I:=I) dA
 have ov:P.bytesOf e=i.bytes:=by simp[Program.bytesOf,hi]
 have Ny:m≤9223372036854775807:=by
  have h1:m.toNat*1≤m.toNat*P.bytesOf e:=wj _ (zF az)
  simp only[bM] at fq
  omega
 have dH:=run_make (P:=P) w t e i z hu hi hz kl kc n m h0 qf (by
  rw[ov] at fq
  simp only[bM] at fq
  have:(i.bytes:Int)*m=((m.toNat*i.bytes:Nat):Int):=by
   rw[Int.natCast_mul,Int.toNat_of_nonneg (by omega),Int.mul_comm]
  rw[this]
  omega) Ny
 have hlen:(List.replicate n.toNat (dd P e (fE P e))).length=n.toNat:=by simp
 obtain ⟨n1,n2,n3⟩:=zX S (cap:=m.toNat) (es:=List.replicate n.toNat (dd P e (fE P e))) (C0:=madeCells z.cells (m.toNat*i.size)) az hn (by rw[size_madeCells,h3]) (by rw[hlen];omega) (by simp only[maxLen];omega)
  (by rw[h3];exact Im dA hi hz n.toNat m.toNat (by omega))
 refine ⟨_,_,_,_,dH,n1,n2,?_⟩
 rw[hlen] at n3
 exact n3
theorem Nz: ∀{l:List V} {j:Nat} {e1:TypeId} {k:List V},Cm l=true→V.nth l j= .list e1 k→k=[]
 | [],j,e1,k,_,h=>by cases j<;>cases h
 | x::l,0,e1,k,hn,h=>by
  simp only[V.nth] at h
  subst h
  cases k with
  | nil=>rfl
  | cons _ _=>cases hn
 | x::l,j+1,e1,k,hn,h=>by
  refine Nz (l:=l) (j:=j) ?_ h
  cases x with
  | list e2 k2=>
   cases k2 with
   | nil=>exact hn
   | cons _ _=>cases hn
  | _=>exact hn
theorem agr {e:TypeId} {n:Nat} (az:dy P e=true) (h:Cm (fE P e)=true):
  ∀(i j:Nat) x t' e1 l,(List.replicate n (dd P e (fE P e)))[i]? =some x→(bC P e)[j]? =some t'→cl P e x j= .list e1 l→l=[]:=by
 intro i j x t' e1 l hx ht hl
 have:=List.eq_of_mem_replicate (jN hx)
 subst this
 unfold cl dd at hl
 cases ha:cb P e with
 | true=>rw[ha] at hl;exact Nz h hl
 | false=>rw[ha] at hl;exact Nz h hl
theorem ags (S:aW P w I β hp B M w0) {t e:TypeId} {nb:Nat} {kl kc:IntKind} {n m:Int} {r:R} {rd:List Nat} (hu:P.underlying t=some (.slice e))
  (h:(Rd.aR (og P e&&(decide (0≤n)&&(decide (n≤m)&&Nat.ble (m.toNat*P.bytesOf e) bM)))
    (Rd.aR (Cm (fE P e)) (kq nb (.nest e (List.replicate n.toNat (dd P e (fE P e))) [0,0,0]) (.whole e nb) []))).run C hp=some (r,rd)):
  dJ P ((Instr.makeSlice t (.int kl n) (.int kc m)).run P w) w I β hp B M w0 r:=by
 obtain ⟨hc,h⟩:=a8 h
 simp only[bn,fC,dW] at hc
 obtain ⟨dA,h0,qf,fq⟩:=hc
 have az:dy P e=true:=by
  unfold og at dA;simp only[bn] at dA;exact dA.1
 obtain ⟨hnr,h⟩:=a8 h
 obtain ⟨hn,rfl⟩:=pk h
 obtain ⟨i,z,hi,hz,h3,h4,_⟩:=CX (w:=w) (I:=I) dA
 have ov:P.bytesOf e=i.bytes:=by simp[Program.bytesOf,hi]
 have Ny:m≤9223372036854775807:=by
  have h1:m.toNat*1≤m.toNat*P.bytesOf e:=wj _ (zF az)
  simp only[bM] at fq
  omega
 have dH:=run_make (P:=P) w t e i z hu hi hz kl kc n m h0 qf (by
  rw[ov] at fq
  simp only[bM] at fq
  have:(i.bytes:Int)*m=((m.toNat*i.bytes:Nat):Int):=by
   rw[Int.natCast_mul,Int.toNat_of_nonneg (by omega),Int.mul_comm]
  rw[this]
  omega) Ny
 have hlen:(List.replicate n.toNat (dd P e (fE P e))).length=n.toNat:=by simp
 obtain ⟨n1,n2,n3⟩:=agn S (cap:=m.toNat) (es:=List.replicate n.toNat (dd P e (fE P e))) (C0:=madeCells z.cells (m.toNat*i.size)) az hn (by rw[size_madeCells,h3]) (by rw[hlen];omega) (by simp only[maxLen];omega)
  (by rw[h3];exact Im dA hi hz n.toNat m.toNat (by omega))
  (agr az hnr)
 refine ⟨_,_,_,_,dH,n1,n2,?_⟩
 rw[hlen] at n3
 exact n3
theorem Pure.one {t:TypeId} {v:Value} {x:V} (h:Pure P w I t v x):v.oneCell'=true:=by cases h<;>rfl
structure Row (P:Program) (w:World) (I:Nat→Nat→Prop) (e:TypeId) (v:Value) (xs:List V) (a:Addr) (c:Nat) (news:List Value):Prop where
 val:v= .slice (some a) xs.length c
 len:news.length=xs.length*P.cellsOf e
 cell: ∀(j:Nat) u,news[j]? =some u→w.cell? (a.add j)=some u
 el: ∀(i j:Nat) (x:V) (t':TypeId),xs[i]? =some x→(bC P e)[j]? =some t'→j<P.cellsOf e→∃u,news[i*P.cellsOf e+j]? =some u∧Pure P w I t' u (cl P e x j)
theorem Row.one {e:TypeId} {v:Value} {xs:List V} {a:Addr} {c:Nat} {news:List Value} (h:Row P w I e v xs a c news) (az:dy P e=true): ∀u∈news,u.oneCell'=true:=by
 intro u hu
 obtain ⟨k,hk⟩:=uD hu
 have nu:=(bO.1 hk).1
 have lP:=(mw az).2
 rw[h.len] at nu
 have hi:k/P.cellsOf e<xs.length:=Nat.div_lt_of_lt_mul (by rw[jm];exact nu)
 have hj:k %P.cellsOf e<P.cellsOf e:=ze _ lP
 have iF:k %P.cellsOf e<(bC P e).length:=by rw[gi az];exact hj
 obtain ⟨u',gT,hp⟩:=h.el (k/P.cellsOf e) (k %P.cellsOf e) _ _ (bU hi) (bU iF) hj
 rw[Nat.div_add_mod'] at gT
 rw[hk] at gT
 cases gT
 exact hp.one
theorem V5 {e:TypeId} {es:List V} {b:Nat} {Ca:Array Value} {off len cap o:Nat} (hh:w.heap[b]? =some (.cells Ca e (0,0))) (hs:es.length*P.cellsOf e≤Ca.size)
  (hx: ∀(i j:Nat) (x:V) (t':TypeId),es[i]? =some x→(bC P e)[j]? =some t'→j<P.cellsOf e→∃v,Ca[i*P.cellsOf e+j]? =some v∧Pure P w I t' v (cl P e x j))
  (jU:off+len≤es.length) (ho:0<len→o=off*P.cellsOf e):
  Row P w I e (.slice (some ⟨b,o,none⟩) len cap) ((es.drop off).take len) ⟨b,o,none⟩ cap ((Ca.toList.drop (off*P.cellsOf e)).take (len*P.cellsOf e)):=by
 have hlen:((es.drop off).take len).length=len:=by simp;omega
 have hb:(off+len)*P.cellsOf e≤Ca.size:=kh (dM _ jU) hs
 rw[eC] at hb
 refine ⟨by rw[hlen],by rw[hlen];simp;omega,fun j u hj=> ?_,fun i j x t' iD ht hj=> ?_⟩
 ·have dG:=(bO.1 hj).1
  have NA:j<len*P.cellsOf e:=by
   rw[iU] at dG;omega
  have lJ:0<len:=by
   rcases Nat.eq_zero_or_pos len with h|h
   ·rw[h] at NA;simp at NA
   ·exact h
  rw[fB NA,jk] at hj
  rw[pg,cell?_cells hh,ho lJ]
  simpa using hj
 ·have hi:i<len:=by rw[←hlen];exact (bO.1 iD).1
  rw[fB hi,jk] at iD
  obtain ⟨u,hu,hp⟩:=hx (off+i) j x t' iD ht hj
  refine ⟨u,?_,hp⟩
  have:i*P.cellsOf e+j<len*P.cellsOf e:=by
   have:(i+1)*P.cellsOf e≤len*P.cellsOf e:=dM _ hi
   rw[eC] at this
   omega
  rw[fB this,jk]
  rw[eC] at hu
  rw[←m8]
  simpa using hu
theorem Io (dm: ∀id blk,hp id=some blk→eT P w I β hp (β id) blk) {e:TypeId} {v:Value} {x:V} {k:List V→Rd R} {r:R} {rd:List Nat} (az:dy P e=true) (hv:aj P w I β hp v x)
  (h:(uS e x k).run C hp=some (r,rd)): ∃xs,(((∃a,v= .slice a 0 0)∧xs=[])∨∃a c news,Row P w I e v xs a c news)∧∃l,(k xs).run C hp=some (r,l):=by
 cases hv with
 | list hp'=>
  obtain ⟨hc,h2⟩:=a8 h
  clear h
  rw[bB] at hc
  subst hc
  cases hp' with
  | nil=>exact ⟨[],.inl ⟨⟨_,rfl⟩,rfl⟩,rd,h2⟩
  | @emp a cap=>exact ⟨[],.inr ⟨a,cap,[],⟨rfl,by simp,fun j u hj=>by simp at hj,fun i j x t' hx _ _=>by simp at hx⟩⟩,rd,h2⟩
  | @list b o len cap es g hl cJ hI ij hx=>
   refine ⟨_,.inr ⟨⟨b,o,none⟩,cap,(List.range (len*P.cellsOf e)).map fun k=>g (k/P.cellsOf e) (k %P.cellsOf e),⟨by rw[hl],by rw[hl];simp,fun j u hj=> ?_,fun i j x t' iD ht hj=> ?_⟩⟩,rd,h2⟩
   ·obtain ⟨dG,jy⟩:=bO.1 hj
    simp at dG jy
    have lP:=(mw az).2
    have hi:j/P.cellsOf e<len:=Nat.div_lt_of_lt_mul (by rw[jm];exact dG)
    have cK:j %P.cellsOf e<P.cellsOf e:=ze _ lP
    rw[pg,←jy]
    have:=ij (j/P.cellsOf e) (j %P.cellsOf e) hi cK
    rwa [Nat.div_add_mod'] at this
   ·have hi:i<len:=by rw[←hl];exact (bO.1 iD).1
    have hb:i*P.cellsOf e+j<len*P.cellsOf e:=by
     have:(i+1)*P.cellsOf e≤len*P.cellsOf e:=dM _ hi
     rw[eC] at this
     omega
    refine ⟨g i j,?_,hx i j x t' iD ht⟩
    have e1:(i*P.cellsOf e+j)/P.cellsOf e=i:=by
     rw[jm,BP (mw az).2,BQ hj,Nat.add_zero]
    have e2:(i*P.cellsOf e+j) %P.cellsOf e=j:=by
     rw[jm,Nat.mul_add_mod];exact BO hj
    simp[hb,e1,e2]
 | nilS=>
  obtain ⟨hc,h⟩:=a8 h
  exact ⟨[],.inl ⟨⟨_,rfl⟩,rfl⟩,rd,h⟩
 | eF ae hb=>
  obtain ⟨l,h⟩:=run_get h
  simp only[ae] at h
  obtain ⟨hc,h⟩:=a8 h
  exact ⟨[],.inl ⟨⟨_,rfl⟩,rfl⟩,l,h⟩
 | @whole e' id es fz b cap ae hb bG cJ hm=>
  obtain ⟨l,h⟩:=run_get h
  simp only[ae] at h
  obtain ⟨hc,h2⟩:=a8 h
  clear h
  simp only[bn,bB] at hc
  obtain ⟨rfl,_⟩:=hc
  have hr:=dm _ _ ae
  cases hr with
  | eh aI=>rw[aI] at hb;cases hb
  | arr Nb aI hh hs hf dX hx=>
   rw[hb] at aI;cases aI
   have:=V5 (cap:=cap) (off:=0) (len:=es.length) (o:=0) hh hs hx (by omega) (fun _=>by simp)
   exact ⟨es,.inr ⟨_,_,_,by simpa using this⟩,l,h2⟩
 | gS ae hb=>
  obtain ⟨l,h⟩:=run_get h
  simp only[ae] at h
  obtain ⟨hc,h⟩:=a8 h
  exact ⟨[],.inl ⟨⟨_,rfl⟩,rfl⟩,l,by simpa using h⟩
 | @sub e' id off len es fz b o cap ae hb jU cJ ho=>
  obtain ⟨l,h⟩:=run_get h
  simp only[ae] at h
  obtain ⟨hc,h2⟩:=a8 h
  clear h
  simp only[bn,bB] at hc
  obtain ⟨rfl,_⟩:=hc
  have hr:=dm _ _ ae
  cases hr with
  | eh aI=>rw[aI] at hb;cases hb
  | arr Nb aI hh hs hf dX hx=>
   rw[hb] at aI;cases aI
   exact ⟨_,.inr ⟨_,_,_,V5 (cap:=cap) hh hs hx jU ho⟩,l,h2⟩
 | eS ae=>
  obtain ⟨l,h⟩:=run_get h
  simp only[ae] at h
  cases h
 | ig ae=>
  obtain ⟨l,h⟩:=run_get h
  simp only[ae] at h
  cases h
 | undef=>cases h
 | int=>cases h
 | bool=>cases h
 | str=>cases h
 | agg=>cases h
 | bL=>cases h
 | ee=>cases h
 | fn=>cases h
 | pref=>cases h
 | lH=>cases h
 | ptr=>cases h
 | kT=>cases h
 | kU=>cases h
 | row=>cases h
 | dk=>cases h
 | eg=>cases h
 | jw=>cases h
 | cC=>cases h
 | e8 ae=>
  obtain ⟨l,h⟩:=run_get h
  simp only[ae] at h
  cases h
theorem V6 {t ty e:TypeId} {i:TypeInfo} (ht:P.underlying t=some (.slice e)) (hi:P.info? e=some i) (a:Option Addr) (n cap:Nat) (x:Value) (hx: ∃a c,x= .slice a 0 c) (hn:n≤cap):
  (Builtin.append_ #[t,t] ty #[.slice a n cap,x]).run P w= .ok (.slice a n cap) w:=by
 obtain ⟨a',c,rfl⟩:=hx
 cases a' with
 | none=>cases a<;>simp[Builtin.append_,run_underlying ht,sizeOf,typeInfo,hi,Builtin.lenOf,Builtin.firstCells,hn,storeCells]
 | some a'=>cases a<;>simp[Builtin.append_,run_underlying ht,sizeOf,typeInfo,hi,Builtin.lenOf,Builtin.firstCells,hn,storeCells,loadCells,loadCellsFrom]
theorem Ip {e:TypeId} {es xs:List V} {n:Nat} {c:List Value} {news:List Value} (hn:es.length=n)
  (h1: ∀(i j:Nat) (x:V) (t':TypeId),es[i]? =some x→(bC P e)[j]? =some t'→j<P.cellsOf e→∃v,c[i*P.cellsOf e+j]? =some v∧Pure P w I t' v (cl P e x j))
  (h2: ∀(i j:Nat) (x:V) (t':TypeId),xs[i]? =some x→(bC P e)[j]? =some t'→j<P.cellsOf e→∃v,news[i*P.cellsOf e+j]? =some v∧Pure P w I t' v (cl P e x j))
  (hb:n*P.cellsOf e≤c.length) (rest:List Value):
  ∀(i j:Nat) (x:V) (t':TypeId),(es++xs)[i]? =some x→(bC P e)[j]? =some t'→j<P.cellsOf e→∃v,(c.take (n*P.cellsOf e)++news++rest)[i*P.cellsOf e+j]? =some v∧Pure P w I t' v (cl P e x j):=by
 intro i j x t' hx ht hj
 have hl:(c.take (n*P.cellsOf e)).length=n*P.cellsOf e:=by simp;omega
 by_cases hi:i<n
 ·rw[kj (by omega)] at hx
  obtain ⟨v,hv,hp⟩:=h1 i j x t' hx ht hj
  have:i*P.cellsOf e+j<n*P.cellsOf e:=by
   have:(i+1)*P.cellsOf e≤n*P.cellsOf e:=dM _ hi
   rw[eC] at this
   omega
  exact ⟨v,by rw[db,kj (by omega),fB this];exact hv,hp⟩
 ·rw[kR (by omega),hn] at hx
  obtain ⟨v,hv,hp⟩:=h2 (i-n) j x t' hx ht hj
  have kD:i-n<xs.length:=(bO.1 hx).1
  have e1:i*P.cellsOf e+j-n*P.cellsOf e=(i-n)*P.cellsOf e+j:=by
   rw[Nat.sub_mul]
   have:n*P.cellsOf e≤i*P.cellsOf e:=dM _ (by omega)
   omega
  have h3:(i-n)*P.cellsOf e+j<news.length:=(bO.1 hv).1
  refine ⟨v,?_,hp⟩
  have h4:n*P.cellsOf e≤i*P.cellsOf e+j:=by
   have:n*P.cellsOf e≤i*P.cellsOf e:=dM _ (by omega)
   omega
  rw[db,kR (by omega),hl,e1,kj h3]
  exact hv
theorem Pure.drew {t:TypeId} {v:Value} {x:V} (h:Pure P w I t v x):Pure P w.drew I t v x:=Pure.mono (w:=w) (w':=w.drew) (fun _ _ h=>h) (fun _ _ _=>rfl) h
theorem agt (w:World) (t ty e:TypeId) (i:TypeInfo) (z:Value) (ht:P.underlying t=some (.slice e)) (hi:P.info? e=some i) (hz:i.zero=some z)
  (a0:Option Addr) (a:Addr) (n c:Nat) (news:List Value) (hl:news.length=n*i.size) (Iq: ∀j v,news[j]? =some v→w.cell? (a.add j)=some v)
  (h0:0<n) (Ir:(n:Int)≤9223372036854775807) (Is:n*i.bytes≤281474976710656):
  (Builtin.append_ #[t,t] ty #[.slice a0 0 0,.slice (some a) n c]).run P w=
   .ok (.slice (some ⟨w.heap.size,0,none⟩) n (grownCap w n 0 e)) (w.drew.alloc (.cells (news.toArray++Builtin.zeroCells z.cells (grownCap w n 0 e-n)) e)):=by
 cases a0 with
 | none=>exact run_append_nil w t ty e i z ht hi hz a n c news hl Iq h0 Ir Is
 | some b=>
  have:=run_append_grow (P:=P) w t ty e i z ht hi hz b 0 0 [] (by simp) (by simp) a n c news hl Iq (by omega) (by omega) (by rw[dE,nextslicecap_zero h0];omega)
  simpa using this
theorem NB (S:aW P w I β hp B M w0) {t ty e:TypeId} {nb:Nat} {fz:Bool} {x:Value} {xs:List V} (hu:P.underlying t=some (.slice e)) (az:dy P e=true) (hn:hp nb=none)
  (fq:xs.length*P.bytesOf e≤bM) {a0:Option Addr} (hx:((∃a,x= .slice a 0 0)∧xs=[])∨∃a c news,Row P w I e x xs a c news):
  ∃v w' β',(Builtin.append_ #[t,t] ty #[.slice a0 0 0,x]).run P w= .ok v w'∧Le P w I β hp w' I β' (a9 hp nb (some (.arr e xs fz)))∧aW P w' I β' (a9 hp nb (some (.arr e xs fz))) B M w0∧
   aj P w' I β' (a9 hp nb (some (.arr e xs fz))) v (.whole e nb):=by
 obtain ⟨i,z,hi,hz,h3,h4,_⟩:=lO az
 have w9:=zF az
 have ov:P.bytesOf e=i.bytes:=by simp[Program.bytesOf,hi]
 have hlen:xs.length≤2^45:=by
  have:xs.length*1≤xs.length*P.bytesOf e:=wj _ w9
  simp only[bM] at fq
  omega
 have empty:xs=[]→(∃a c,x= .slice a 0 c)→∃v w' β',(Builtin.append_ #[t,t] ty #[.slice a0 0 0,x]).run P w= .ok v w'∧Le P w I β hp w' I β' (a9 hp nb (some (.arr e xs fz)))∧aW P w' I β' (a9 hp nb (some (.arr e xs fz))) B M w0∧
   aj P w' I β' (a9 hp nb (some (.arr e xs fz))) v (.whole e nb):=by
  intro iG NC
  subst iG
  obtain ⟨a1,a2⟩:=HZ S e hn
  exact ⟨_,_,_,V6 hu hi a0 0 0 x NC (aw _),a1,a2,.eF (dF _ _ _) (dF _ _ _)⟩
 rcases hx with ⟨⟨_,rfl⟩,rfl⟩|⟨a,c,news,hr⟩
 ·exact empty rfl ⟨_,_,rfl⟩
 ·by_cases h0:xs.length=0
  ·have iG:xs=[]:=oW h0
   refine empty iG ⟨some a,c,?_⟩
   rw[hr.val,h0]
  ·have dH:=agt (P:=P) w t ty e i z hu hi hz a0 a xs.length c news (by rw[hr.len,h3]) hr.cell (by omega) (by omega) (by rw[←ov];simp only[bM] at fq;omega)
   have rQ:=grownCap_ge w xs.length 0 e
   have xb:grownCap w xs.length 0 e≤maxLen:=grownCap_le_maxLen w xs.length 0 e (by simp only[maxLen];omega)
   obtain ⟨n1,n2,n3⟩:=zX S.drew (nb:=nb) (cap:=grownCap w xs.length 0 e) (es:=xs) (C0:=news.toArray++Builtin.zeroCells z.cells (grownCap w xs.length 0 e-xs.length)) az hn
    (by simp only[Hl,sM,size_zeroCells,h4,hr.len,←eC];congr 1;omega) rQ xb
    (fun i' j y t' hy ht hj=>by
     obtain ⟨u,gT,hp⟩:=hr.el i' j y t' hy ht hj
     have bx:=(bO.1 gT).1
     refine ⟨u,?_,Pure.drew hp⟩
     rw[Array.getElem?_append_left (by simpa using bx)]
     simpa using gT)
   rw[hr.val]
   exact ⟨_,_,_,dH,(Le.drew w I β hp).trans n1,n2,n3⟩
theorem agu (S:aW P w I β hp B M w0) {t ty e:TypeId} {nb:Nat} {s x:Value} {sv xv:V} {r:R} {rd:List Nat} (hu:P.underlying t=some (.slice e)) (hs:aj P w I β hp s sv) (hx:aj P w I β hp x xv)
  (h:(zt P nb e sv xv).run C hp=some (r,rd)):dJ P ((Builtin.append_ #[t,t] ty #[s,x]).run P w) w I β hp B M w0 r:=by
 unfold zt at h
 obtain ⟨az,h⟩:=a8 h
 obtain ⟨xs,nv,l0,h⟩:=Io S.h.rel az hx h
 cases sv with
 | nilS e'=>
  obtain ⟨hc,h⟩:=a8 h
  simp only[bn,bB,fC] at hc
  obtain ⟨hn,rfl⟩:=pk h
  obtain ⟨a0,rfl⟩: ∃a0,s= .slice a0 0 0:=by cases hs;exact ⟨_,rfl⟩
  obtain ⟨v,w',β',a1,a2,a3,a4⟩:=NB (ty:=ty) S hu az hn hc.2 nv
  exact ⟨v,w',I,β',a1,a2,a3,a4⟩
 | whole e' id=>
  obtain ⟨l,h⟩:=run_get h
  cases ae:hp id with
  | none=>rw[ae] at h;cases h
  | some blk=>
   rw[ae] at h
   cases blk with
   | dead=>cases h
   | var _=>cases h
   | nest _ _ _=>cases h
   | map _ _=>cases h
   | arr eI es fz=>
    obtain ⟨hc,h⟩:=a8 h
    obtain ⟨hn,rfl⟩:=pk h
    simp only[bn,bB,fC] at hc
    obtain ⟨ND,NF,fq⟩:=hc
    subst ND
    subst NF
    have ct:nb≠id:=fun e=>by rw[e,ae] at hn;cases hn
    obtain ⟨k1,k2⟩:=H0 S ae
    have lQ:a9 hp id (some ah.dead) nb=none:=by rw[e9 _ _ ct];exact hn
    cases hs with
    | eS hd=>rw[ae] at hd;cases hd
    | e8 hd=>rw[ae] at hd;cases hd
    | eF hd hb=>
     rw[ae] at hd
     cases hd
     simp only[List.length_nil,dE] at fq
     have agv:((∃a,x= .slice a 0 0)∧xs=[])∨∃a c news,Row P w I e x xs a c news:=nv
     obtain ⟨v,w',β',a1,a2,a3,a4⟩:=NB (ty:=ty) k2 hu az lQ fq agv
     exact ⟨v,w',I,β',a1,k1.trans a2,a3,a4⟩
    | @whole _ _ bj o8 b cap hd hb bG cJ hm=>
     rw[ae] at hd
     cases hd
     have hr:=S.h.rel id _ ae
     cases hr with
     | eh aI=>rw[aI] at hb;cases hb
     | @arr _ _ _ b' Ca _ aI hh qx hf dX ow=>
      rw[hb] at aI
      cases aI
      obtain ⟨i,z,hi,hz,h3,h4,_⟩:=lO az
      have w9:=zF az
      have ov:P.bytesOf e=i.bytes:=by simp[Program.bytesOf,hi]
      have hlen:es.length+xs.length≤2^45:=by
       have:(es.length+xs.length)*1≤(es.length+xs.length)*P.bytesOf e:=wj _ w9
       simp only[bM] at fq
       omega
      rw[pc hh] at bG
      have tc: ∀aV blk',a9 hp id (some ah.dead) aV=some blk'→¬bW P w (β aV) blk' b:=by
       intro aV blk' h1 h2
       by_cases jX:aV=id
       ·subst jX;rw[dF] at h1;cases h1;exact h2.alive rfl
       ·rw[e9 _ _ jX] at h1
        exact jX (S.h.inj aV id blk' _ b h1 ae h2 (.root (by simp) hb))
      have NG:=S.h.u4 id _ b ae (by simp) hb
      have room: ∀(C':Array Value) (w':World) (ys:List V),w'.heap[b]? =some (.cells C' e (0,0))→C'.size=Ca.size→(∀b',b'≠b→w'.heap[b']? =w.heap[b']?)→w.heap.size≤w'.heap.size→(w'.os=w.os∧w'.output=w.output)→ys.length≤cap→es.length≤ys.length→(∀j,j<es.length*P.cellsOf e→C'[j]? =Ca[j]?)→
        (∀(i j:Nat) (y:V) (t':TypeId),ys[i]? =some y→(bC P e)[j]? =some t'→j<P.cellsOf e→∃v,C'[i*P.cellsOf e+j]? =some v∧Pure P w I t' v (cl P e y j))→
        Le P w I β hp w' I (a9 β nb (some b)) (a9 (a9 hp id (some .dead)) nb (some (.arr e ys fz)))∧aW P w' I (a9 β nb (some b)) (a9 (a9 hp id (some .dead)) nb (some (.arr e ys fz))) B M w0∧
        aj P w' I (a9 β nb (some b)) (a9 (a9 hp id (some .dead)) nb (some (.arr e ys fz))) (.slice (some ⟨b,0,none⟩) ys.length cap) (.whole e nb):=by
       intro C' w' ys hC qy la hwz agw w4 hey mC hy
       have hIn:=Nx hf dX
       obtain ⟨a1,a2⟩:=CJ k2 (blk:= .arr e ys fz) (w':=w') lQ tc (V1 hh hC hIn mC) (fun b' h _=>la b' h) hwz agw NG
        (fun b' h=>(dD (h.flat (by simp))).symm) (fun hle=> .arr az rfl hC (by rw[qy,←bG];exact dM _ w4) (fun _ j h=>gd (hIn j h) (dM _ hey)) dX fun i j y t' a b c=>by
         obtain ⟨v,hv,hp⟩:=hy i j y t' a b c
         exact ⟨v,hv,hp.mono hle.dR hle.cO⟩)
       refine ⟨k1.trans a1,a2,.whole (dF _ _ _) (dF _ _ _) ?_ w4 hm⟩
       rw[pc hC,qy,bG]
      have same:xs=[]→(∃a c,x= .slice a 0 c)→dJ P ((Builtin.append_ #[t,t] ty #[.slice (some ⟨b,0,none⟩) es.length cap,x]).run P w) w I β hp B M w0 ⟨.whole e nb,[(nb,.arr e (es++xs) fz),(id,.dead)]⟩:=by
       intro iG NC
       subst iG
       rw[eY]
       obtain ⟨a1,a2,a3⟩:=room Ca w es hh rfl (fun _ _=>rfl) (aw _) ⟨rfl,rfl⟩ cJ (aw _) (fun _ _=>rfl) ow
       exact ⟨_,_,_,_,V6 hu hi _ _ _ x NC cJ,a1,a2,a3⟩
      rcases nv with ⟨⟨_,rfl⟩,rfl⟩|⟨a,c,news,dc⟩
      ·exact same rfl ⟨_,_,rfl⟩
      ·have h1:=dc.one az
       have kY:es.length*P.cellsOf e≤Ca.toList.length:=by simpa using qx
       by_cases vf:es.length+xs.length≤cap
       ·have CY:es.length*P.cellsOf e+news.length≤Ca.size:=by rw[dc.len,←eC,←bG];exact dM _ vf
        have dH:=run_append_room (P:=P) w t ty e i hu hi b es.length cap Ca hh a xs.length c news (by rw[dc.len,h3]) dc.cell h1 vf (by rw[h3];exact CY)
        rw[h3] at dH
        have dA:=Ip (P:=P) (w:=w) (I:=I) (n:=es.length) (c:=Ca.toList) rfl (fun i j y t' a b c=>by
         obtain ⟨v,hv,hp⟩:=ow i j y t' a b c
         exact ⟨v,by simpa using hv,hp⟩) dc.el kY (Ca.toList.drop (es.length*P.cellsOf e+news.length))
        obtain ⟨a1,a2,a3⟩:=room (Ca.toList.take (es.length*P.cellsOf e)++news++Ca.toList.drop (es.length*P.cellsOf e+news.length)).toArray (w.setRow b _) (es++xs)
         (setRow_heap w b Ca _ e _ hh) (by simp;omega) (fun b' aI=>setRow_other w b b' _ aI) (by simp) ⟨rfl,rfl⟩ (by simpa using vf) (by simp) (fun j hj=>by
           rw[m9,db,kj (by simp;omega),fB hj,ry])
         (fun i j y t' a b c=>by
          obtain ⟨v,hv,hp⟩:=dA i j y t' a b c
          exact ⟨v,by simpa using hv,hp⟩)
        rw[dc.val]
        rw[cX] at a3
        exact ⟨_,_,_,_,dH,a1,a2,a3⟩
       ·have hold: ∀(j:Nat) v,(Ca.toList.take (es.length*P.cellsOf e))[j]? =some v→w.cell? ((⟨b,0,none⟩:Addr).add j)=some v:=by
         intro j v hj
         have dG:=(bO.1 hj).1
         have cK:j<es.length*P.cellsOf e:=by rw[iU] at dG;omega
         rw[fB cK] at hj
         rw[pg,cell?_cells hh,dE]
         simpa using hj
        have dH:=run_append_grow (P:=P) w t ty e i z hu hi hz ⟨b,0,none⟩ es.length cap (Ca.toList.take (es.length*P.cellsOf e)) (by rw[h3];simp;omega) hold a xs.length c news (by rw[dc.len,h3]) dc.cell (by omega) (by omega)
         (growslice_fits (by omega) (by rw[←ov];simp only[bM] at fq;omega))
        have rQ:=grownCap_ge w (es.length+xs.length) cap e
        have xb:grownCap w (es.length+xs.length) cap e≤maxLen:=grownCap_le_maxLen w _ cap e (by simp only[maxLen];omega)
        have dA:=Ip (P:=P) (w:=w) (I:=I) (n:=es.length) (c:=Ca.toList) rfl (fun i j y t' a b c=>by
         obtain ⟨v,hv,hp⟩:=ow i j y t' a b c
         exact ⟨v,by simpa using hv,hp⟩) dc.el kY (Builtin.zeroCells z.cells (grownCap w (es.length+xs.length) cap e-(es.length+xs.length))).toList
        obtain ⟨n1,n2,n3⟩:=zX k2.drew (nb:=nb) (cap:=grownCap w (es.length+xs.length) cap e) (es:=es++xs)
         (C0:=(Ca.toList.take (es.length*P.cellsOf e)).toArray++news.toArray++Builtin.zeroCells z.cells (grownCap w (es.length+xs.length) cap e-(es.length+xs.length))) az lQ
         (by
          have e1:(Ca.toList.take (es.length*P.cellsOf e)).length=es.length*P.cellsOf e:=by simp;omega
          simp only[Hl,sM,size_zeroCells,h4,dc.len,e1,←eC];congr 1;omega) (by simpa using rQ) xb
         (fun i j y t' a b c=>by
          obtain ⟨v,hv,hp⟩:=dA i j y t' a b c
          refine ⟨v,?_,Pure.drew hp⟩
          rw[←ry]
          simpa using hv)
        rw[dc.val]
        rw[cX] at n3
        exact ⟨_,_,_,_,dH,(k1.trans (Le.drew w I β _)).trans n1,n2,n3⟩
 | _=>cases h
end
section
variable {P:Program} {w w':World} {I I':Nat→Nat→Prop} {β β':Nat→Option Nat} {hp hp':Nat→Option ah} {C:ab} {B:Nat} {M:Nat→Prop} {w0:Start}
theorem run_copy_none (w:World) {dT sT ty elem:TypeId} {i:TypeInfo} (a0:Option Addr) (V7 agx:Nat) (a1:Option Addr) (V8 agy:Nat) (hu:P.underlying dT=some (.slice elem)) (hi:P.info? elem=some i) (h0:Nat.min V8 V7=0):
  (Builtin.copy_ #[dT,sT] ty #[.slice a0 V7 agx,.slice a1 V8 agy]).run P w= .ok (goInt 0) w:=by
 cases a0<;>cases a1<;>simp[Builtin.copy_,run_underlying hu,Builtin.lenOf,Builtin.firstCells,sizeOf,typeInfo,hi,h0,storeCells,loadCells,loadCellsFrom]
theorem agz (S:aW P w I β hp B M w0) {t u ty e:TypeId} {s x:Value} {sv xv:V} {r:R} {rd:List Nat} (hu:P.underlying t=some (.slice e)) (hs:aj P w I β hp s sv) (hx:aj P w I β hp x xv)
  (h:(MK P e sv xv).run C hp=some (r,rd)):dJ P ((Builtin.copy_ #[t,u] ty #[s,x]).run P w) w I β hp B M w0 r:=by
 unfold MK at h
 obtain ⟨az,h'⟩:=a8 h
 clear h
 simp only[bn,bB] at az
 obtain ⟨az,h1⟩:=az
 obtain ⟨xs,nv,l0,h⟩:=Io S.h.rel az hx h'
 obtain ⟨i,z,hi,hz,bG,_⟩:=lO az
 cases sv<;>simp only at h<;>first|(cases h;done)|skip
 rename_i e' id
 obtain ⟨l,h2⟩:=run_get h
 clear h
 cases ae:hp id with
 | none=>rw[ae] at h2;cases h2
 | some blk=>
  rw[ae] at h2
  cases blk<;>simp only at h2<;>first|(cases h2;done)|skip
  rename_i e2 es fz
  cases fz with
  | true=>cases h2
  | false=>
  obtain ⟨hc,h3⟩:=a8 h2
  simp only[bn,bB] at hc
  obtain ⟨rfl,rfl⟩:=hc
  obtain rfl:=bp h3
  have rS:min xs.length es.length=0→(Builtin.copy_ #[t,u] ty #[s,x]).run P w= .ok (goInt 0) w→dJ P ((Builtin.copy_ #[t,u] ty #[s,x]).run P w) w I β hp B M w0 ⟨.int .i64 (min xs.length es.length:Nat),[(id,.arr e (xs.take es.length++es.drop xs.length) false)]⟩:=by
   intro h0 hr
   have he:xs.take es.length++es.drop xs.length=es:=by
    rcases Nat.le_total xs.length es.length with hl|hl
    ·have:xs=[]:=oW (by omega)
     simp[this]
    ·have:es=[]:=oW (by omega)
     simp[this]
   have ik:cj hp [(id,.arr e (xs.take es.length++es.drop xs.length) false)]=hp:=by
    rw[he];exact MT hp id _ ae
   refine ⟨goInt 0,w,I,β,hr,?_⟩
   simp only[ik,h0]
   exact ⟨Le.refl w I β hp,S,.int⟩
  cases hs with
  | eS hd=>rw[ae] at hd;cases hd
  | e8 hd=>rw[ae] at hd;cases hd
  | @eF _ _ fz a hd hb=>
   rw[ae] at hd
   cases hd
   refine rS (by simp) ?_
   rcases nv with ⟨⟨a',rfl⟩,rfl⟩|⟨a',c,news,dc⟩
   ·exact run_copy_none w _ _ _ _ _ _ hu hi (by simp)
   ·rw[dc.val];exact run_copy_none w _ _ _ _ _ _ hu hi (by simp)
  | @whole _ _ bj o8 b cap hd hb CZ cJ hm=>
   have fG:=hd
   rw[ae] at hd
   cases hd
   rcases nv with ⟨⟨a',rfl⟩,rfl⟩|⟨a',c,news,dc⟩
   ·exact rS (by simp) (run_copy_none w _ _ _ _ _ _ hu hi (by simp))
   have hr:=S.h.rel id _ ae
   cases hr with
   | eh aI=>rw[aI] at hb;cases hb
   | @arr _ _ _ b' Ca _ aI hh qx hf dX ow=>
    rw[hb] at aI
    cases aI
    have ot:news.length=xs.length:=by rw[dc.len,h1,oc]
    rw[h1,oc] at qx
    have fl:(news.take es.length).length=Nat.min xs.length es.length:=by
     rw[iU,ot,Nat.min_comm]
    have It:Nat.min xs.length es.length=min xs.length es.length:=rfl
    have dH:=run_copy_row (P:=P) w t u ty e b 0 es.length cap a' xs.length c Ca e (news.take es.length) hu (by rw[hi];simp[bG,h1]) hh fl
     (fun j v hj=>dc.cell j v (by
      have:=(bO.1 hj).1
      rw[iU] at this
      rwa [fB (by omega)] at hj)) (by rw[fl,It];omega) (fun v hv=>dc.one az v (Hm hv))
    rw[dc.val]
    have hq:(goInt (news.take es.length).length)= .int .i64 ((min xs.length es.length:Nat):Int):=by rw[fl];rfl
    have kC:(xs.take es.length++es.drop xs.length).length=es.length:=by simp;omega
    have qy:(Ca.toList.take 0++news.take es.length++Ca.toList.drop (0+(news.take es.length).length)).toArray.size=Ca.size:=by
     simp only[sM,cX,wh,iU,fl,It]
     simp
     omega
    obtain ⟨a1,a2⟩:=Ib S (blk':= .arr e (xs.take es.length++es.drop xs.length) false) (Cb:=(Ca.toList.take 0++news.take es.length++Ca.toList.drop (0+(news.take es.length).length)).toArray) ae (by simp) ⟨rfl,kC.symm⟩ hb (dX rfl) (by simp) hh qy
     (fun hle fO=> .arr az rfl fO (by rw[qy,kC,h1,oc];exact qx) (fun h=>by cases h) (fun _=>dX rfl) fun i j y t' hy ht hj=>by
      rw[h1] at hj⊢
      obtain rfl:j=0:=by omega
      rw[oc,Nat.add_zero]
      have tp:=(bO.1 hy).1
      rw[kC] at tp
      by_cases C2:i<xs.length
      ·rw[kj (by rw[iU];omega),fB tp] at hy
       obtain ⟨u',k1,k2⟩:=dc.el i 0 y t' hy ht (by omega)
       rw[h1,oc,Nat.add_zero] at k1
       refine ⟨u',?_,k2.mono hle.dR hle.cO⟩
       simp only[List.take_zero,List.nil_append,m9]
       rw[kj (by rw[iU];omega),fB tp]
       exact k1
      ·have e1:(xs.take es.length).length=xs.length:=by rw[iU];omega
       rw[kR (by omega),e1,jk,show xs.length+(i-xs.length)=i by omega] at hy
       obtain ⟨u',k1,k2⟩:=ow i 0 y t' hy ht (by omega)
       rw[h1,oc,Nat.add_zero] at k1
       refine ⟨u',?_,k2.mono hle.dR hle.cO⟩
       simp only[List.take_zero,List.nil_append,m9,dE]
       have e2:(news.take es.length).length=xs.length:=by rw[iU];omega
       rw[kR (by omega),e2,jk,show xs.length+(i-xs.length)=i by omega]
       simpa using k1)
    exact ⟨_,_,_,_,dH,a1,a2,by rw[hq];exact .int⟩
theorem agA (S:aW P w I β hp B M w0) {t ty e:TypeId} {x:Value} {xv:V} {r:R} {rd:List Nat} (hu:P.underlying t=some (.slice e)) (hx:aj P w I β hp x xv)
  (h:(MJ P e xv).run C hp=some (r,rd)):dJ P ((Builtin.clear_ #[t] ty #[x]).run P w) w I β hp B M w0 r:=by
 unfold MJ at h
 obtain ⟨dA,h'⟩:=a8 h
 clear h
 have az:dy P e=true:=by
  unfold og at dA;simp only[bn] at dA;exact dA.1
 obtain ⟨i,z,hi,hz,bG,C3,hzp⟩:=CX (w:=w) (I:=I) dA
 have lP:=(mw az).2
 cases xv<;>simp only at h'<;>first|(cases h';done)|skip
 rename_i e' id off len
 obtain ⟨l,h2⟩:=run_get h'
 clear h'
 cases ae:hp id with
 | none=>rw[ae] at h2;cases h2
 | some blk=>
  rw[ae] at h2
  cases blk<;>simp only at h2<;>first|(cases h2;done)|skip
  rename_i e2 es fz
  cases fz with
  | true=>cases h2
  | false=>
  obtain ⟨hc,h3⟩:=a8 h2
  simp only[bn,bB] at hc
  obtain ⟨rfl,rfl⟩:=hc
  obtain rfl:=bp h3
  have rS:len=0→(Builtin.clear_ #[t] ty #[x]).run P w= .ok (.tuple #[]) w→dJ P ((Builtin.clear_ #[t] ty #[x]).run P w) w I β hp B M w0 ⟨.bL [],[(id,.arr e (es.take off++(List.replicate len (dd P e (fE P e))++es.drop (off+len))) false)]⟩:=by
   intro h0 hr
   subst h0
   have ik:cj hp [(id,.arr e (es.take off++(List.replicate 0 (dd P e (fE P e))++es.drop (off+0))) false)]=hp:=by
    simp only[List.replicate_zero,List.nil_append,Nat.add_zero,List.take_append_drop]
    exact MT hp id _ ae
   refine ⟨.tuple #[],w,I,β,hr,?_⟩
   simp only[ik]
   exact ⟨Le.refl w I β hp,S,.bL rfl fun j v x hj hx=>by simp at hx⟩
  cases hx with
  | ig hd=>rw[ae] at hd;cases hd
  | @gS _ _ _ a0 hd hb=>exact rS rfl (by cases a0<;>simp[Builtin.clear_,run_underlying hu])
  | @sub _ _ _ _ bj o8 b o cap hd hb jU cJ ho=>
   by_cases hlen:len=0
   ·refine rS hlen ?_
    subst hlen
    simp[Builtin.clear_,run_underlying hu]
   have agB:0<len:=by omega
   have fG:=hd
   rw[ae] at hd
   cases hd
   have hr:=S.h.rel id _ ae
   cases hr with
   | eh aI=>rw[aI] at hb;cases hb
   | @arr _ _ _ b' Ca _ aI hh qx hf dX ow=>
    rw[hb] at aI
    cases aI
    have ho:=ho agB
    subst ho
    have w7:(Builtin.zeroCells z.cells len).toList.length=len*P.cellsOf e:=by rw[Array.length_toList,size_zeroCells,C3]
    have hmul:off*P.cellsOf e+len*P.cellsOf e≤es.length*P.cellsOf e:=by rw[←eC];exact dM _ jU
    have tk: ∀v∈(Builtin.zeroCells z.cells len).toList,v.oneCell'=true:=by
     intro v hv
     obtain ⟨k,hk⟩:=uD hv
     have nu:=(bO.1 hk).1
     rw[w7] at nu
     have hzg:(Builtin.zeroCells z.cells len)[k]? =z.cells[k %z.cells.size]? :=V3 (z:=z.cells) (n:=len*z.cells.size) (by rw[C3];exact nu) (by rw[C3];exact lP)
     rw[ry,hzg] at hk
     have hm:k %z.cells.size<P.cellsOf e:=by rw[C3];exact ze _ lP
     have Iu:k %z.cells.size<(bC P e).length:=by rw[gi az];exact hm
     obtain ⟨v',zM,hp'⟩:=hzp (k %z.cells.size) _ (bU Iu) hm
     rw[hk] at zM
     cases zM
     generalize cl P e (dd P e (fE P e)) (k %z.cells.size)=y at hp'
     cases hp'<;>rfl
    have bP:=run_storeCells_at P b (off*P.cellsOf e) e (Builtin.zeroCells z.cells len).toList 0 Ca w hh (by rw[w7];omega) tk
    simp only[Nat.add_zero] at bP
    have dH:(Builtin.clear_ #[t] ty #[.slice (some ⟨b,off*P.cellsOf e,none⟩) len cap]).run P w= .ok (.tuple #[]) (w.setRow b (Ca.toList.take (off*P.cellsOf e)++(Builtin.zeroCells z.cells len).toList++Ca.toList.drop (off*P.cellsOf e+(Builtin.zeroCells z.cells len).toList.length)).toArray):=by
     obtain ⟨n,rfl⟩: ∃n,len=n+1:=⟨len-1,by omega⟩
     simp[Builtin.clear_,run_underlying hu,zeroValue,typeInfo,hi,hz,bP]
    have kC:(es.take off++(List.replicate len (dd P e (fE P e))++es.drop (off+len))).length=es.length:=by simp;omega
    have qy:(Ca.toList.take (off*P.cellsOf e)++(Builtin.zeroCells z.cells len).toList++Ca.toList.drop (off*P.cellsOf e+(Builtin.zeroCells z.cells len).toList.length)).toArray.size=Ca.size:=by
     simp only[sM,cX,wh,iU,w7,Array.length_toList]
     omega
    obtain ⟨a1,a2⟩:=Ib S (blk':= .arr e (es.take off++(List.replicate len (dd P e (fE P e))++es.drop (off+len))) false) ae (by simp) ⟨rfl,kC.symm⟩ hb (dX rfl) (by simp) hh qy
     (fun hle fO=> .arr az rfl fO (by rw[qy,kC];exact qx) (fun h=>by cases h) (fun _=>dX rfl) fun i' j y t' hy ht hj=>by
      have mD:=ph es (List.replicate len (dd P e (fE P e))) off i' (by simp;omega)
      rw[wk] at mD
      rw[mD] at hy
      have hC:(Ca.toList.take (off*P.cellsOf e)++(Builtin.zeroCells z.cells len).toList++Ca.toList.drop (off*P.cellsOf e+(Builtin.zeroCells z.cells len).toList.length)).toArray[i'*P.cellsOf e+j]? =
        if i'*P.cellsOf e+j<off*P.cellsOf e then Ca.toList[i'*P.cellsOf e+j]? else if i'*P.cellsOf e+j<off*P.cellsOf e+len*P.cellsOf e then (Builtin.zeroCells z.cells len).toList[i'*P.cellsOf e+j-off*P.cellsOf e]? else Ca.toList[i'*P.cellsOf e+j]? :=by
       have:=ph Ca.toList (Builtin.zeroCells z.cells len).toList (off*P.cellsOf e) (i'*P.cellsOf e+j) (by rw[w7,Array.length_toList];omega)
       rw[m9,db,this,w7]
      by_cases gl:i'<off
      ·rw[af gl] at hy
       have:(i'+1)*P.cellsOf e≤off*P.cellsOf e:=dM _ gl
       rw[eC] at this
       rw[aZ] at hC
       obtain ⟨u,k1,k2⟩:=ow i' j y t' hy ht hj
       exact ⟨u,hC.trans (by simpa using k1),k2.mono hle.dR hle.cO⟩
      ·rw[ag gl] at hy
       have h1:off*P.cellsOf e≤i'*P.cellsOf e:=dM _ (by omega)
       rw[bK] at hC
       by_cases kD:i'<off+len
       ·rw[af kD] at hy
        have:(i'+1)*P.cellsOf e≤(off+len)*P.cellsOf e:=dM _ kD
        rw[eC,eC] at this
        rw[aZ] at hC
        obtain ⟨v,k1,k2⟩:=Im (w:=w) (I:=I) dA hi hz len len (aw _) (i'-off) j y t' hy ht hj
        refine ⟨v,hC.trans ?_,k2.mono hle.dR hle.cO⟩
        rw[show i'*P.cellsOf e+j-off*P.cellsOf e=(i'-off)*P.cellsOf e+j by rw[Nat.sub_mul];omega,ry]
        unfold Builtin.zeroCells
        rw[C3] at k1⊢
        exact k1
       ·rw[ag kD] at hy
        have:(off+len)*P.cellsOf e≤i'*P.cellsOf e:=dM _ (by omega)
        rw[eC] at this
        rw[bK] at hC
        obtain ⟨u,k1,k2⟩:=ow i' j y t' hy ht hj
        exact ⟨u,hC.trans (by simpa using k1),k2.mono hle.dR hle.cO⟩)
    exact ⟨_,_,_,_,dH,a1,a2,.bL rfl fun j v x hj hx=>by simp at hx⟩
end
section
variable {P:Program} {w w':World} {I I':Nat→Nat→Prop} {β β':Nat→Option Nat} {hp hp':Nat→Option ah} {C:ab} {B:Nat} {M:Nat→Prop} {w0:Start}
theorem agC (S:aW P w I β hp B M w0) {s:TypeId} {f:Nat} {v:Value} {x:V} {r:R} {rd:List Nat} (hv:aj P w I β hp v x)
  (h:(MN P s f x).run C hp=some (r,rd)):dJ P ((Instr.field s v f).run P w) w I β hp B M w0 r:=by
 unfold MN HB at h
 split at h
 ·rename_i fs hu
  cases hf:fs[f]? with
  | none=>rw[hf] at h;cases h
  | some fd=>
   rw[hf] at h
   simp only[zu] at h
   obtain ⟨ht,h⟩:=a8 h
   obtain ⟨d,xc⟩:=CO ht
   obtain ⟨i,hi⟩:=zK xc
   have bG:i.size=P.cellsOf fd.type:=by simp[Program.cellsOf,hi]
   cases x with
   | agg xs=>
    obtain ⟨cs,rfl,h1,h2⟩:=hv.my
    dsimp only at h
    cases ha:cb P fd.type with
    | true=>
     rw[ha] at h
     simp only[cond_true] at h
     obtain ⟨hc,h⟩:=a8 h
     obtain rfl:=bp h
     rw[fC] at hc
     refine .same S (v:= .agg (cs.extract fd.offset (fd.offset+P.cellsOf fd.type))) ?_ (.agg (by simp;omega) fun j u y gT hy=> ?_)
     ·simp[Instr.field,run_underlying hu,hf,part,M9 xc,ha,asAgg,sizeOf,typeInfo,hi,bG]
     ·have hj:j<P.cellsOf fd.type:=by
       have:=(jl.1 gT).1
       simp at this;omega
      rw[fB hj,jk] at hy
      refine h2 (fd.offset+j) u y ?_ hy
      rw[Array.getElem?_extract] at gT
      split at gT
      ·exact gT
      ·cases gT
    | false=>
     rw[ha] at h
     simp only[cond_false] at h
     obtain ⟨y,hy,h⟩:=nk h
     obtain rfl:=bp h
     have bx:fd.offset<cs.size:=by rw[h1];exact (bO.1 hy).1
     refine .same S (v:=cs[fd.offset]) ?_ (h2 _ _ _ (mj bx) hy)
     simp[Instr.field,run_underlying hu,hf,part,M9 xc,ha,asAgg,bx]
   | _=>cases h
 ·cases h
theorem agD (S:aW P w I β hp B M w0) {i:Nat} {v:Value} {xs:List V} {r:R} {rd:List Nat} (hv:aj P w I β hp v (.bL xs))
  (h:(Rd.opt xs[i]? fun v=> .ret ⟨v,[]⟩).run C hp=some (r,rd)):dJ P ((Instr.extract v i).run P w) w I β hp B M w0 r:=by
 obtain ⟨cs,rfl,h1,h2⟩:=hv.wS
 obtain ⟨y,hy,h⟩:=nk h
 obtain rfl:=bp h
 have bx:i<cs.size:=by rw[h1];exact (bO.1 hy).1
 exact .same S (v:=cs[i]) (by simp[Instr.extract,bx]) (h2 _ _ _ (mj bx) hy)
theorem agE (S:aW P w I β hp B M w0) {t:TypeId} {s:ByteArray} {l:List UInt8} {k:IntKind} {i:Int} {r:R} {rd:List Nat} (hu:P.underlying t=some .string) (hs:s.data.toList=l)
  (h:(Rd.opt (bif decide (0≤i) then (l[i.toNat]?).map fun b=>V.int .u8 b.toNat else none) fun v=> .ret ⟨.int .u8 v.toInt,[]⟩).run C hp=some (r,rd)):
  dJ P ((Instr.index t (.string s) (.int k i)).run P w) w I β hp B M w0 r:=by
 obtain ⟨v,hv,h⟩:=nk h
 obtain rfl:=bp h
 cases hc:decide (0≤i) with
 | false=>rw[hc] at hv;cases hv
 | true=>
  rw[hc] at hv
  simp only[cond_true] at hv
  have h0:0≤i:=by simpa using hc
  cases hb:l[i.toNat]? with
  | none=>rw[hb] at hv;cases hv
  | some b=>
   rw[hb] at hv
   simp only[Option.map_some,eE] at hv
   subst hv
   have hsb:s[i.toNat]? =some b:=by
    subst hs
    obtain ⟨bx,he⟩:=bO.1 hb
    have NH:i.toNat<s.size:=by simpa using bx
    rw[getElem?_pos s i.toNat NH]
    congr 1
   refine .same S (v:= .int .u8 b.toNat) ?_ .int
   simp[Instr.index,asIntOf,run_underlying hu,h0,hsb]
theorem NI (S:aW P w I β hp B M w0) (mx:Bool): ∀{vs:List Value} {xs:List V} {v:Value} {x:V} {r:R} {rd:List Nat},aj P w I β hp v x→vs.length=xs.length→
  (∀(j:Nat) u y,vs[j]? =some u→xs[j]? =some y→aj P w I β hp u y)→(zw mx x xs).run C hp=some (r,rd)→
  dJ P ((vs.foldlM (if mx then Builtin.max2 else Builtin.min2) v).run P w) w I β hp B M w0 r
 | [],[],v,x,r,rd,hv,_,_,h=>by
  have:r=⟨x,[]⟩:=by
   cases x<;>(simp only[zw] at h;exact (bp h).symm)
  subst this
  exact .same S (by simp) hv
 | [],_::_,v,x,r,rd,hv,hl,_,h=>by simp at hl
 | _::_,[],v,x,r,rd,hv,hl,_,h=>by simp at hl
 | u::vs,y::xs,v,x,r,rd,hv,hl,hx,h=>by
  cases x<;>cases y<;>simp only[zw] at h<;>first|(cases h;done)|skip
  rename_i k a k' b
  obtain ⟨hc,h4⟩:=a8 h
  clear h
  obtain rfl:k=k':=by simpa using hc
  have hu:=hx 0 u _ rfl rfl
  rw[hv.fa,hu.fa]
  have ih:=NI S mx (vs:=vs) (xs:=xs) (v:= .int k (bif mx then (if b>a then b else a) else (if b<a then b else a))) .int (by simpa using hl)
   (fun j u y h1 h2=>hx (j+1) u y (by simpa using h1) (by simpa using h2)) h4
  cases mx with
  | true=>simpa[List.foldlM_cons,Builtin.max2] using ih
  | false=>simpa[List.foldlM_cons,Builtin.min2] using ih
theorem tq {n cap:Nat} {isS:Bool} {lo hi:Option V} {lov hiv:Option Value} {k:Nat→Nat→Rd R} {r:R} {rd:List Nat} (hn:n≤cap)
  (jY: ∀x,lo=some x→∃v,lov=some v∧aj P w I β hp v x) (jd: ∀x,hi=some x→∃v,hiv=some v∧aj P w I β hp v x) (pn:lo=none→lov=none) (qz:hi=none→hiv=none)
  (h:(uT n lo hi k).run C hp=some (r,rd)): ∃l u,l≤u∧u≤n∧(Instr.sliceBounds isS n cap lov hiv none).run P w= .ok (l,u,cap) w∧(k l u).run C hp=some (r,rd):=by
 have ok: ∀(kk:IntKind) (i:Int) (y:Nat) (c:BoundsCode),0≤i→i≤y→(Instr.sliceBound (.int kk i) y c).run P w= .ok i.toNat w:=by
  intro kk i y c h1 h2
  simp[Instr.sliceBound,asIntOf,h1,h2]
 unfold uT at h
 cases lo with
 | none=>
  rw[pn rfl]
  cases hi with
  | none=>
   rw[qz rfl]
   exact ⟨0,n,na _,aw _,by simp[Instr.sliceBounds],h⟩
  | some x=>
   obtain ⟨v,rfl,hv⟩:=jd x rfl
   cases x<;>simp only at h<;>first|(cases h;done)|skip
   rename_i kk u
   obtain ⟨hc,h⟩:=a8 h
   simp only[bn,dW] at hc
   rw[hv.fa]
   have:=ok kk u cap (if isS then .sliceAcap else .sliceAlen) hc.1 (by omega)
   exact ⟨0,u.toNat,na _,by omega,by simp[Instr.sliceBounds,this],h⟩
 | some x=>
  obtain ⟨v,rfl,hv⟩:=jY x rfl
  cases hi with
  | none=>
   rw[qz rfl]
   cases x<;>simp only at h<;>first|(cases h;done)|skip
   rename_i kk l
   obtain ⟨hc,h⟩:=a8 h
   simp only[bn,dW] at hc
   rw[hv.fa]
   have:=ok kk l n .sliceB hc.1 (by omega)
   exact ⟨l.toNat,n,by omega,aw _,by simp[Instr.sliceBounds,this],h⟩
  | some y=>
   obtain ⟨v2,rfl,s8⟩:=jd y rfl
   cases x<;>cases y<;>simp only at h<;>first|(cases h;done)|skip
   rename_i kk l kk2 u
   obtain ⟨hc,h⟩:=a8 h
   simp only[bn,dW] at hc
   rw[hv.fa,s8.fa]
   have h1:=ok kk2 u cap (if isS then .sliceAcap else .sliceAlen) (by omega) (by omega)
   have h2:=ok kk l u.toNat .sliceB hc.1 (by omega)
   exact ⟨l.toNat,u.toNat,by omega,by omega,by simp[Instr.sliceBounds,h1,h2],h⟩
theorem Iv {a:Option Addr} {t e:TypeId} {i:TypeInfo} (hu:P.underlying t=some (.slice e)) (hi:P.info? e=some i) {lov hiv:Option Value}
  (hb:(Instr.sliceBounds true 0 0 lov hiv none).run P w= .ok (0,0,0) w):(Instr.sliceAt t (.slice a 0 0) lov hiv none).run P w= .ok (.slice a 0 0) w:=by
 cases a<;>simp[Instr.sliceAt,Instr.slice,run_underlying hu,hb,sizeOf,typeInfo,hi]
theorem NJ {t e:TypeId} {i:TypeInfo} {b o len cap l u:Nat} (hu:P.underlying t=some (.slice e)) (hi:P.info? e=some i) {lov hiv:Option Value} (huc:u≤cap)
  (hb:(Instr.sliceBounds true len cap lov hiv none).run P w= .ok (l,u,cap) w): ∃o',(0<u-l→o'=o+l*i.size)∧(Instr.sliceAt t (.slice (some ⟨b,o,none⟩) len cap) lov hiv none).run P w= .ok (.slice (some ⟨b,o',none⟩) (u-l) (cap-l)) w:=by
 by_cases hc:cap=l
 ·subst hc
  refine ⟨o,fun h=>by omega,?_⟩
  ·simp[Instr.sliceAt,Instr.slice,run_underlying hu,hb,sizeOf,typeInfo,hi]
 ·refine ⟨o+l*i.size,fun _=>rfl,?_⟩
  simp[Instr.sliceAt,Instr.slice,run_underlying hu,hb,sizeOf,typeInfo,hi,hc,pg]
theorem agF (s:ByteArray) (l:List UInt8) (h:s.data.toList=l) (a b:Nat):(s.extract a b).data.toList=(l.drop a).take (b-a):=by
 subst h
 simp[ByteArray.data_extract]
theorem agG (S:aW P w I β hp B M w0) {t:TypeId} {v:Value} {x:V} {lo hi:Option V} {lov hiv:Option Value} {r:R} {rd:List Nat} (hv:aj P w I β hp v x)
  (jY: ∀x,lo=some x→∃v,lov=some v∧aj P w I β hp v x) (jd: ∀x,hi=some x→∃v,hiv=some v∧aj P w I β hp v x) (pn:lo=none→lov=none) (qz:hi=none→hiv=none)
  (h:(HH P t x lo hi).run C hp=some (r,rd)):dJ P ((Instr.sliceAt t v lov hiv none).run P w) w I β hp B M w0 r:=by
 unfold HH at h
 cases hu:P.underlying t with
 | none=>rw[hu] at h;cases h
 | some d=>
  rw[hu] at h
  cases d<;>simp only at h<;>first|(cases h;done)|skip
  case string=>
   cases x<;>simp only at h<;>first|(cases h;done)|skip
   rename_i l
   obtain ⟨s,rfl,hs⟩:=hv.oo
   have bG:l.length=s.size:=by rw[←hs];simp
   obtain ⟨a,u,h1,h2,h3,h4⟩:=tq (isS:=false) (cap:=s.size) (by omega) jY jd pn qz h
   obtain rfl:=bp h4
   rw[bG] at h3
   refine .same S (v:= .string (s.extract a u)) ?_ (.str (agF s l hs a u))
   simp[Instr.sliceAt,Instr.slice,run_underlying hu,h3]
  case slice e=>
   cases x<;>simp only at h<;>first|(cases h;done)|skip
   case list e' es=>
    obtain ⟨hc,h⟩:=a8 h
    simp only[bn,bB] at hc
    obtain ⟨eG,az⟩:=hc
    obtain ⟨i,z,eK,_,bG,_⟩:=lO az
    cases hv with
    | list hp'=>
     cases hp' with
     | nil=>
      obtain ⟨a,u,h1,h2,h3,h4⟩:=tq (n:=0) (isS:=true) (cap:=0) (aw _) jY jd pn qz h
      obtain rfl:=bp h4
      obtain rfl:u=0:=by omega
      obtain rfl:a=0:=by omega
      exact .same S (Iv hu eK h3) (by simpa using aj.list jT.nil)
     | @emp ad cap=>
      obtain ⟨a,u,h1,h2,h3,h4⟩:=tq (n:=0) (isS:=true) (cap:=cap) (na _) jY jd pn qz h
      obtain rfl:=bp h4
      obtain rfl:u=0:=by omega
      obtain rfl:a=0:=by omega
      refine .same S (v:= .slice (some ad) 0 cap) ?_ (by simpa using aj.list jT.emp)
      by_cases hc:cap=0
      ·subst hc
       simp[Instr.sliceAt,Instr.slice,run_underlying hu,h3,sizeOf,typeInfo,eK]
      ·simp[Instr.sliceAt,Instr.slice,run_underlying hu,h3,sizeOf,typeInfo,eK,hc,Addr.add]
     | @list b o len cap _ g hl cJ hI ij hx=>
      obtain ⟨a,u,h1,h2,h3,h4⟩:=tq (isS:=true) (cap:=cap) (by omega) jY jd pn qz h
      obtain rfl:=bp h4
      rw[hl] at h2 h3
      obtain ⟨o',nn,dH⟩:=NJ (b:=b) (o:=o) hu eK (by omega) h3
      have iH:e=e':=eG
      refine .same S dH (.list ?_)
      rw[←iH]
      rw[←iH] at ij hx hI
      have hlen:((es.drop a).take (u-a)).length=u-a:=by simp;omega
      refine .list (fun i j=>g (a+i) j) hlen (by omega) (fun j hj=> ?_) (fun i j hi hj=> ?_) (fun i j y t' hy ht=> ?_)
      ·have lP:0<u-a:=oX fun e=>by rw[e,Nat.zero_mul] at hj;cases hj
       rw[nn (by omega),bG,m8]
       refine hI _ (gd (Nat.add_lt_add_left hj _) ?_)
       rw[←eC]
       exact dM _ (by omega)
      ·have:=ij (a+i) j (by omega) hj
       rw[eC,m8,←m8 o] at this
       rw[nn (by omega),bG]
       exact this
      ·have hi:i<u-a:=by rw[←hlen];exact (bO.1 hy).1
       rw[fB hi,jk] at hy
       exact hx (a+i) j y t' hy ht
   case whole e' id=>
    obtain ⟨l,h⟩:=run_get h
    cases ae:hp id with
    | none=>rw[ae] at h;cases h
    | some blk=>
     rw[ae] at h
     cases blk<;>simp only at h<;>first|(cases h;done)|skip
     rename_i eI es fz
     obtain ⟨hc,h9⟩:=a8 h
     clear h
     simp only[bn,bB] at hc
     obtain ⟨eG,fX,az⟩:=hc
     obtain ⟨i,z,eK,_,bG,_⟩:=lO az
     cases hv with
     | eS hd=>rw[ae] at hd;cases hd
     | e8 hd=>rw[ae] at hd;cases hd
     | eF hd hb=>
      rw[ae] at hd
      cases hd
      obtain ⟨a,u,h1,h2,h3,h4⟩:=tq (n:=0) (isS:=true) (cap:=0) (aw _) jY jd pn qz h9
      obtain rfl:=bp h4
      obtain rfl:u=0:=by omega
      obtain rfl:a=0:=by omega
      exact .same S (Iv hu eK h3) (.gS ae hb)
     | @whole _ _ bj o8 b cap hd hb CZ cJ hm=>
      have fG:=hd
      rw[ae] at hd
      cases hd
      obtain ⟨a,u,h1,h2,h3,h4⟩:=tq (isS:=true) (cap:=cap) cJ jY jd pn qz h9
      obtain rfl:=bp h4
      obtain ⟨o',nn,dH⟩:=NJ (b:=b) (o:=0) hu eK (by omega) h3
      have iH:e=e':=eG
      exact .same S dH (.sub fG hb (by omega) (by omega) (fun h=>by rw[nn h,bG,iH,dE]))
   case sub e' id off len=>
    obtain ⟨l,h⟩:=run_get h
    cases ae:hp id with
    | none=>rw[ae] at h;cases h
    | some blk=>
     rw[ae] at h
     cases blk<;>simp only at h<;>first|(cases h;done)|skip
     rename_i eI es fz
     obtain ⟨hc,h⟩:=a8 h
     simp only[bn,bB] at hc
     obtain ⟨eG,fX,az⟩:=hc
     obtain ⟨i,z,eK,_,bG,_⟩:=lO az
     cases hv with
     | ig hd=>rw[ae] at hd;cases hd
     | gS hd hb=>
      have fG:=hd
      obtain ⟨a,u,h1,h2,h3,h4⟩:=tq (isS:=true) (cap:=0) (aw _) jY jd pn qz h
      obtain rfl:=bp h4
      obtain rfl:u=0:=by omega
      obtain rfl:a=0:=by omega
      exact .same S (Iv hu eK h3) (.gS fG hb)
     | @sub _ _ _ _ bj o8 b o cap hd hb jU cJ ho=>
      have fG:=hd
      obtain ⟨a,u,h1,h2,h3,h4⟩:=tq (isS:=true) (cap:=cap) cJ jY jd pn qz h
      obtain rfl:=bp h4
      obtain ⟨o',nn,dH⟩:=NJ (b:=b) (o:=o) hu eK (by omega) h3
      have iH:e=e':=eG
      exact .same S dH (.sub fG hb (by omega) (by omega) (fun h=>by rw[nn h,bG,ho (by omega),iH,eC]))
theorem agH (S:aW P w I β hp B M w0) {t:TypeId} {v:Value} {x:V} {lo hi mx:Option V} {lov hiv V9:Option Value} {r:R} {rd:List Nat} (hv:aj P w I β hp v x)
  (jY:lo=none→lov=none) (jd: ∀y,hi=some y→∃u,hiv=some u∧aj P w I β hp u y) (qq: ∀y,mx=some y→∃u,V9=some u∧aj P w I β hp u y)
  (h:(ML P t x lo hi mx).run C hp=some (r,rd)):dJ P ((Instr.sliceAt t v lov hiv V9).run P w) w I β hp B M w0 r:=by
 unfold ML at h
 cases hu:P.underlying t with
 | none=>rw[hu] at h;cases h
 | some d=>
  rw[hu] at h
  cases d<;>(try (cases h;done))
  rename_i e
  cases lo<;>(try (cases h;done))
  cases hi<;>(try (cases h;done))
  rename_i zY
  cases zY<;>(try (cases h;done))
  cases mx<;>(try (cases h;done))
  rename_i mv1
  cases mv1<;>(try (cases h;done))
  obtain ⟨hc,h9⟩:=a8 h
  clear h
  have h:=h9
  clear h9
  simp only[bn,dW] at hc
  obtain ⟨rfl,rfl,az⟩:=hc
  obtain ⟨i,z,eK,_,_,_⟩:=lO az
  obtain ⟨u1,rfl,k1⟩:=jd _ rfl
  obtain ⟨u2,rfl,k2⟩:=qq _ rfl
  rw[k1.fa,k2.fa,jY rfl]
  have run: ∀{k k2:IntKind} (a:Option Addr) (len cap:Nat),(Instr.sliceAt t (.slice a len cap) none (some (.int k 0)) (some (.int k2 0))).run P w= .ok (.slice a 0 0) w:=by
   intro k k2 a len cap
   cases a<;>simp[Instr.sliceAt,Instr.slice,Instr.sliceBounds,Instr.sliceBound,asIntOf,run_underlying hu,sizeOf,typeInfo,eK]
  cases x<;>(try (cases h;done))
  ·simp only at h
   obtain rfl:=bp h
   cases hv with
   | list hp'=>cases hp'<;>exact .same S (run _ _ _) .nilS
  ·simp only at h
   obtain rfl:=bp h
   cases hv
   exact .same S (run _ _ _) .nilS
  ·rename_i e' id
   simp only at h
   obtain ⟨l,h⟩:=run_get h
   cases ae:hp id with
   | none=>rw[ae] at h;cases h
   | some blk=>
    rw[ae] at h
    cases blk<;>simp only at h<;>first|(cases h;done)|skip
    all_goals
     obtain rfl:=bp h
     cases hv with
     | eS hd=>rw[ae] at hd;cases hd
     | e8 hd=>exact .same S (run _ _ _) .nilS
     | eF hd hb=>exact .same S (run _ _ _) .nilS
     | whole hd=>exact .same S (run _ _ _) .nilS
theorem agI (S:aW P w I β hp B M w0) {t:TypeId} {v ix:Value} {x y:V} {r:R} {rd:List Nat} (hv:aj P w I β hp v x) (hy:aj P w I β hp ix y)
  (h:(MO P t x y).run C hp=some (r,rd)):dJ P ((Instr.indexAt t v ix).run P w) w I β hp B M w0 r:=by
 unfold MO at h
 cases hu:P.underlying t with
 | none=>rw[hu] at h;cases h
 | some d=>
  rw[hu] at h
  cases y<;>(try (cases d<;>cases h;done))
  rename_i k i
  rw[hy.fa]
  cases d<;>simp only at h<;>first|(cases h;done)|skip
  case slice e=>
   have run: ∀(b o len cap:Nat) (ie:TypeInfo),P.info? e=some ie→0≤i→i<(len:Int)→(Instr.indexAt t (.slice (some ⟨b,o,none⟩) len cap) (.int k i)).run P w= .ok (.pointer (some ⟨b,o+i.toNat*ie.size,none⟩)) w:=by
    intro b o len cap ie kZ h0 h1
    simp[Instr.indexAt,asIntOf,run_underlying hu,h0,h1,sizeOf,typeInfo,kZ,pg]
   cases x<;>simp only at h<;>first|(cases h;done)|skip
   case list e' es=>
    obtain ⟨hc,h⟩:=a8 h
    simp only[bn,bB] at hc
    obtain ⟨eG,az⟩:=hc
    have iH:e=e':=eG
    obtain ⟨ie,z,eK,_,bG,_⟩:=lO az
    obtain ⟨el,dA,h⟩:=nk h
    obtain rfl:=bp h
    unfold idx at dA
    cases h0:decide (0≤i) with
    | false=>rw[h0] at dA;cases dA
    | true=>
     rw[h0] at dA
     simp only[cond_true] at dA
     have h0':0≤i:=by simpa using h0
     have bx:i.toNat<es.length:=(bO.1 dA).1
     cases hv with
     | list hp'=>
      cases hp' with
      | nil=>simp at bx
      | emp=>simp at bx
      | @list b o len cap _ g hl cJ hI ij hx=>
       rw[←iH] at ij hx hI
       refine .same S (run b o len cap ie eK h0' (by omega)) ?_
       have fk:=zL (P:=P) e el
       have Iw:=gi az
       have Wa:(bif cb P e then flat P e else [e])=bC P e:=rfl
       rw[Wa]
       have agJ:ie.size=P.cellsOf e:=by simp[Program.cellsOf,eK]
       refine .pref (by rw[fk]) (fun j hj=> ?_) (fun j t' y' ht CK=> ?_)
       ·rw[m8,agJ]
        exact hI _ (MX (by omega) (by rw[fk,Iw] at hj;exact hj))
       ·obtain ⟨t2,a1,a2⟩:=Na CK
        rw[ht] at a1;cases a1
        have hj:j<P.cellsOf e:=by rw[←Iw];exact (bO.1 ht).1
        have fj:=hx i.toNat j el t' dA ht
        refine ⟨g i.toNat j,?_,?_⟩
        ·rw[bG,m8];exact ij i.toNat j (by omega) hj
        ·rw[a2,fj.va];exact fj
   case whole e' id=>
    obtain ⟨l,h⟩:=run_get h
    cases ae:hp id with
    | none=>rw[ae] at h;cases h
    | some blk=>
     rw[ae] at h
     cases blk<;>simp only at h<;>first|(cases h;done)|skip
     rename_i eI es fz
     obtain ⟨hc,h⟩:=a8 h
     simp only[bn,bB] at hc
     obtain ⟨eG,fX⟩:=hc
     obtain ⟨fH,h⟩:=a8 h
     simp only[bn,dW] at fH
     obtain rfl:=bp h
     cases hv with
     | eS hd=>rw[ae] at hd;cases hd
     | e8 hd=>rw[ae] at hd;cases hd
     | eF hd hb=>rw[ae] at hd;cases hd;simp at fH;omega
     | @whole _ _ bj o8 b cap hd hb CZ cJ hm=>
      have fG:=hd
      rw[ae] at hd
      cases hd
      have hr:=S.h.rel id _ ae
      cases hr with
      | eh aI=>rw[aI] at hb;cases hb
      | arr az aI hh hs hf dX hx=>
       have iH:e=e':=eG
       obtain ⟨ie,z,eK,_,bG,_⟩:=lO az
       rw[←iH] at eK bG
       refine .same S (run b 0 _ cap ie eK fH.1 fH.2) ?_
       have:=aj.ptr (P:=P) (w:=w) (I:=I) (i:=i.toNat) (c:=0) fG (by simp) hb
       simp only[ah.sz] at this
       rw[dE,bG,iH]
       simpa using this
     rename_i eI es an
     obtain ⟨hc,h⟩:=a8 h
     simp only[bn,bB] at hc
     obtain ⟨eG,fX⟩:=hc
     obtain ⟨fH,h⟩:=a8 h
     simp only[bn,dW] at fH
     obtain rfl:=bp h
     cases hv with
     | eS hd=>rw[ae] at hd;cases hd
     | eF hd hb=>rw[ae] at hd;cases hd
     | whole hd=>rw[ae] at hd;cases hd
     | @e8 _ _ bj vers' b cap hd hb CZ cJ hm=>
      have fG:=hd
      rw[ae] at hd
      cases hd
      have az:=(S.rows fG hb .here).ok
      have iH:e=e':=eG
      obtain ⟨ie,z,eK,_,bG,_⟩:=lO az
      rw[←iH] at eK bG
      refine .same S (run b 0 _ cap ie eK fH.1 fH.2) ?_
      have:=aj.ptr (P:=P) (w:=w) (I:=I) (i:=i.toNat) (c:=0) fG (by simp) hb
      simp only[ah.sz] at this
      rw[dE,bG,iH]
      simpa using this
   case row e' id ver path=>
    obtain ⟨e0,es,an,l,ae,h1,h2,h3,h⟩:=qp h
    obtain ⟨e2,v',k1,k2,h⟩:=zG h
    obtain ⟨hc,h⟩:=a8 h
    simp only[bn,bB] at hc
    obtain ⟨eG,fX⟩:=hc
    obtain ⟨fH,h⟩:=a8 h
    simp only[bn,dW] at fH
    obtain rfl:=bp h
    cases hv with
    | kT hd hp'=>rw[ae] at hd;cases hd;exact absurd hp' (zH h1 h2 h3)
    | @row v _ e0 t1 _ ver b i1 c1 q es l1 an hd hb hq Nq ht ij=>
     have agK:=ij
     obtain ⟨b',e3,bj,Ca,T,f,x,m1,m2,m3,m4,m5,m6⟩:=ij
     have nq:=hd
     rw[ae] at nq
     cases nq
     obtain ⟨n1,n2⟩:=HX m1 m3 m4 ht m5
     rw[n2] at k2
     cases k2
     simp only[V.toList] at fH
     have hR:=S.rows hd hb m1
     obtain ⟨C1,c2,c3,c4⟩:=hR.cells
     rw[m2] at c2
     cases c2
     have hj:c1<P.cellsOf e3:=by
      rw[←gi hR.ok];exact (bO.1 m4).1
     obtain ⟨v2,d1,d2⟩:=c4 _ _ _ _ m3 m4 hj
     rw[m6] at d1
     cases d1
     rw[m5] at d2
     cases d2 with
     | gR a _=>unfold gM at a;rw[ht] at a;cases a
     | emp _ _=>simp at fH;omega
     | @row _ _ b1 cap _ hl _ _ _=>
      have az:=(S.rows hd hb (m1.snoc m2 m3 m4 ht m5 hl m6)).ok
      have iH:e=e':=eG
      obtain ⟨ie,z,eK,_,bG,_⟩:=lO az
      rw[←iH] at eK bG
      refine .same S (run b1 0 _ cap ie eK fH.1 fH.2) ?_
      have:=aj.dk (P:=P) (I:=I) (i:=i.toNat) (c:=0) hd hb hq Nq ht hl agK
      rw[dE,bG,iH]
      simpa using this
   case sub e' id off len=>
    obtain ⟨l,h⟩:=run_get h
    cases ae:hp id with
    | none=>rw[ae] at h;cases h
    | some blk=>
     rw[ae] at h
     cases blk<;>simp only at h<;>first|(cases h;done)|skip
     rename_i eI es fz
     obtain ⟨hc,h⟩:=a8 h
     simp only[bn,bB] at hc
     obtain ⟨eG,fX⟩:=hc
     obtain ⟨fH,h⟩:=a8 h
     simp only[bn,dW] at fH
     obtain rfl:=bp h
     cases hv with
     | ig hd=>rw[ae] at hd;cases hd
     | gS hd hb=>simp at fH;omega
     | @sub _ _ _ _ bj o8 b o cap hd hb jU cJ ho=>
      have fG:=hd
      rw[ae] at hd
      cases hd
      have hr:=S.h.rel id _ ae
      cases hr with
      | eh aI=>rw[aI] at hb;cases hb
      | arr az aI hh hs hf dX hx=>
       have iH:e=e':=eG
       obtain ⟨ie,z,eK,_,bG,_⟩:=lO az
       rw[←iH] at eK bG
       refine .same S (run b o _ cap ie eK fH.1 fH.2) ?_
       have:=aj.ptr (P:=P) (w:=w) (I:=I) (i:=off+i.toNat) (c:=0) fG (by simp) hb
       simp only[ah.sz] at this
       rw[ho (by omega),bG,iH,←eC]
       simpa using this
  case array n e=>
   have run: ∀(b o:Nat) (ie:TypeInfo),P.info? e=some ie→0≤i→i<(n:Int)→(Instr.indexAt t (.pointer (some ⟨b,o,none⟩)) (.int k i)).run P w= .ok (.pointer (some ⟨b,o+i.toNat*ie.size,none⟩)) w:=by
    intro b o ie kZ h0 h1
    simp[Instr.indexAt,asIntOf,run_underlying hu,h0,h1,sizeOf,typeInfo,kZ,pg,Instr.sureAddr]
   cases x<;>simp only at h<;>first|(cases h;done)|skip
   case ptr id j c=>
    obtain ⟨⟨blk,ae,hd⟩,l,h⟩:=zJ h
    obtain ⟨fH,h⟩:=a8 h
    simp only[bn,dW] at fH
    obtain rfl:=bp h
    obtain ⟨b,hb,rfl⟩:=hv.jc ae hd
    obtain ⟨d,xc⟩:=CO fH.1
    obtain ⟨ie,kZ⟩:=zK xc
    have bG:ie.size=P.cellsOf e:=by simp[Program.cellsOf,kZ]
    refine .same S (run b _ ie kZ fH.2.1 fH.2.2) ?_
    rw[bG,m8]
    exact .ptr ae hd hb
   case pref ts cs=>
    obtain ⟨fH,h⟩:=a8 h
    simp only[bn,dW] at fH
    obtain rfl:=bp h
    obtain ⟨b,o,rfl,h1,h2,h3⟩:=hv.H5
    obtain ⟨d,xc⟩:=CO fH.1
    obtain ⟨ie,kZ⟩:=zK xc
    have bG:ie.size=P.cellsOf e:=by simp[Program.cellsOf,kZ]
    refine .same S (run b _ ie kZ fH.2.1 fH.2.2) ?_
    rw[bG]
    exact aj.Vu h1 h2 h3
end
end Go.AM
namespace Go.AM
open Go.Maps
section
variable {P:Program} {w w':World} {I I':Nat→Nat→Prop} {β β':Nat→Option Nat} {hp hp':Nat→Option ah} {C:ab} {B:Nat} {M:Nat→Prop} {w0:Start}
theorem agL (S:aW P w I β hp B M w0) {nb:Nat} {t:TypeId} {v:Value} {x:V} {lo hi:Option V} {lov hiv:Option Value} {r:R} {rd:List Nat} (hv:aj P w I β hp v x)
  (jd: ∀x,hi=some x→∃v,hiv=some v∧aj P w I β hp v x) (pn:lo=none→lov=none)
  (h:(HI P nb t x lo hi).run C hp=some (r,rd)):dJ P ((Instr.sliceAt t v lov hiv none).run P w) w I β hp B M w0 r:=by
 unfold HI at h
 split at h
 case h_2=>cases h
 rename_i e e' id k hh hu
 obtain ⟨l,h1⟩:=run_get h
 cases ae:hp id with
 | none=>rw[ae] at h1;cases h1
 | some blk=>
  rw[ae] at h1
  cases blk<;>simp only at h1<;>first|(cases h1;done)|skip
  rename_i e2 es fz
  cases fz with
  | true=>cases h1
  | false=>
  obtain ⟨hc,h2⟩:=a8 h1
  simp only[bn,bB,dW] at hc
  obtain ⟨rfl,rfl,az,Wb,Wc⟩:=hc
  obtain ⟨hn,rfl⟩:=pk h2
  have jY:=pn rfl
  subst jY
  obtain ⟨NK,rfl,hhv⟩:=jd _ rfl
  obtain rfl:=hhv.fa
  obtain ⟨i,z,eK,_,bG,_⟩:=lO az
  have ct:nb≠id:=fun e=>by rw[e,ae] at hn;cases hn
  obtain ⟨k1,k2⟩:=H0 S ae
  have lQ:a9 hp id (some ah.dead) nb=none:=by rw[e9 _ _ ct];exact hn
  have Wd: ∀cap,es.length≤cap→(Instr.sliceBounds true es.length cap none (some (.int k hh)) none).run P w= .ok (0,hh.toNat,cap) w:=by
   intro cap cJ
   have hb:(uT es.length none (some (.int k hh)) fun l u=> .aR (decide (l=0∧u=hh.toNat)) (.ret (⟨.undef,[]⟩:R))).run C hp=some (⟨.undef,[]⟩,[]):=by
    simp[uT,Rd.run,Wb,Wc]
   obtain ⟨l,u,b1,b2,b3,b4⟩:=tq (P:=P) (w:=w) (I:=I) (β:=β) (hp:=hp) (n:=es.length) (isS:=true) (cap:=cap) (lov:=none) (hiv:=some (.int k hh)) cJ (by simp) (fun x hx=>by cases hx;exact ⟨_,rfl,.int⟩) (fun _=>rfl) (by simp) hb
   obtain ⟨b5,_⟩:=a8 b4
   simp only[dW] at b5
   obtain ⟨rfl,rfl⟩:=b5
   exact b3
  cases hv with
  | eS hd=>rw[ae] at hd;cases hd
  | e8 hd=>rw[ae] at hd;cases hd
  | @eF _ _ _ a0 hd hb=>
   rw[ae] at hd
   cases hd
   have Ni:hh=0:=by simpa using Int.le_antisymm Wc Wb
   subst Ni
   have aI:=Wd 0 (aw _)
   obtain ⟨a1,a2⟩:=HZ k2 e lQ
   refine ⟨_,w,I,_,Iv hu eK aI,k1.trans a1,a2,.eF (dF _ _ _) (dF _ _ _)⟩
  | @whole _ _ bj o8 b cap hd hb CZ cJ hm=>
   have fG:=hd
   rw[ae] at hd
   cases hd
   have hr:=S.h.rel id _ ae
   cases hr with
   | eh aI=>rw[aI] at hb;cases hb
   | @arr _ _ _ b' Ca _ aI Ix qx hf dX ow=>
    rw[hb] at aI
    cases aI
    have kC:(es.take hh.toNat).length=hh.toNat:=by rw[iU];omega
    have dH:(Instr.sliceAt t (.slice (some ⟨b,0,none⟩) es.length cap) none (some (.int k hh)) none).run P w= .ok (.slice (some ⟨b,0,none⟩) hh.toNat cap) w:=by
     have aI:=Wd cap cJ
     by_cases Iy:cap=0
     ·subst Iy
      simp[Instr.sliceAt,Instr.slice,run_underlying hu,aI,sizeOf,typeInfo,eK]
     ·simp[Instr.sliceAt,Instr.slice,run_underlying hu,aI,sizeOf,typeInfo,eK,Iy,pg]
    have tc: ∀aV blk',a9 hp id (some ah.dead) aV=some blk'→¬bW P w (β aV) blk' b:=by
     intro aV blk' h1 h2
     by_cases jX:aV=id
     ·subst jX;rw[dF] at h1;cases h1;exact h2.alive rfl
     ·rw[e9 _ _ jX] at h1
      exact jX (S.h.inj aV id blk' _ b h1 ae h2 (.root (by simp) hb))
    obtain ⟨a1,a2⟩:=CJ k2 (blk:= .arr e (es.take hh.toNat) false) (w':=w) lQ tc (fun _ _=>rfl) (fun _ _ _=>rfl) (aw _) ⟨rfl,rfl⟩ (S.h.u4 id _ b ae (by simp) hb)
     (fun b' h=>(dD (h.flat (by simp))).symm) (fun hle=> .arr az rfl Ix (by rw[kC];exact kh (dM _ (by omega)) qx) (fun h=>by cases h) (fun _=>dX rfl) fun i j y t' hy ht hj=>by
      have tp:=(bO.1 hy).1
      rw[kC] at tp
      rw[fB tp] at hy
      obtain ⟨v,hv,hp⟩:=ow i j y t' hy ht hj
      exact ⟨v,hv,hp.mono hle.dR hle.cO⟩)
    refine ⟨_,w,I,_,dH,k1.trans a1,a2,?_⟩
    have:=aj.whole (P:=P) (w:=w) (I:=I) (β:=a9 β nb (some b)) (hp:=a9 (a9 hp id (some .dead)) nb (some (.arr e (es.take hh.toNat) false))) (cap:=cap) (dF _ _ _) (dF _ _ _) CZ (by rw[kC];omega) hm
    rw[kC] at this
    exact this
theorem tt {t:TypeId} {x:V} (h:rD P t x=true):
  (∃q n,P.underlying t=some (.int q)∧x= .int q n∧dz q n=true)∨(∃b,P.underlying t=some .bool∧x= .bool b)∨(∃s,P.underlying t=some .string∧x= .str s∧s.length≤maxLen):=by
 unfold rD at h
 split at h
 ·rename_i q q' n hu
  simp only[bn,dW] at h
  obtain ⟨rfl,h⟩:=h
  exact .inl ⟨_,_,hu,rfl,h⟩
 ·rename_i b hu
  exact .inr (.inl ⟨_,hu,rfl⟩)
 ·rename_i s hu
  exact .inr (.inr ⟨_,hu,rfl,by simpa using h⟩)
 ·cases h
theorem size_data (s:ByteArray):s.data.toList.length=s.size:=by simp
theorem agM {q:IntKind} {n:Int} (h:dz q n=true):(Lit.int q n).wf=true:=h
theorem We {t:TypeId} {x:V} {v:Value} (h:rD P t x=true) (hv:kA v x): ∃l,mapKey P t v=some l∧∀d,P.keyLits (d+1) t [v]=some [l]:=by
 rcases tt h with ⟨q,n,hu,rfl,hn⟩|⟨b,hu,rfl⟩|⟨s,hu,rfl,hs⟩
 ·obtain rfl:v= .int q n:=hv
  have hw:=agM hn
  exact ⟨.int q n,by simp[mapKey,hu,hw],fun d=>by simp[Program.keyLits,hu,hw]⟩
 ·obtain rfl:v= .bool b:=hv
  exact ⟨.bool b,by simp[mapKey,hu],fun d=>by simp[Program.keyLits,hu]⟩
 ·obtain ⟨s',rfl,vg⟩:=hv
  have:s'.size≤maxLen:=by rw[←size_data,vg];exact hs
  exact ⟨.string s'.data.toList,by simp[mapKey,hu,this],fun d=>by simp[Program.keyLits,hu,this]⟩
theorem NL {t:TypeId}: ∀{xs:List V} {j:Nat} {x:V},sU P t xs=true→xs[j]? =some x→rD P t x=true
 | [],j,x,_,h=>by simp at h
 | y::ys,0,x,h,hx=>by
  simp only[sU,bn] at h
  simp at hx;subst hx;exact h.1
 | y::ys,j+1,x,h,hx=>by
  simp only[sU,bn] at h
  exact NL (j:=j) h.2 (by simpa using hx)
theorem mapM_some {α β:Type} {f:α→Option β}: ∀{l:List α},(∀a∈l,∃b,f a=some b)→∃bs,l.mapM f=some bs
 | [],_=>⟨[],rfl⟩
 | a::l,h=>by
  obtain ⟨b,hb⟩:=h a (uE ..)
  obtain ⟨bs,jb⟩:=mapM_some (l:=l) fun x hx=>h x (m7 _ hx)
  exact ⟨b::bs,by simp[List.mapM_cons,hb,jb]⟩
inductive NM (P:Program) (t:TypeId) (x:V):Prop
 | one:rD P t x=true→x.cells=[x]→NM P t x
 | arr {n:Nat} {e:TypeId} {xs:List V}:x= .agg xs→WideMaps.ArrKey P t e n→xs.length=n→0<P.types.size→sU P e xs=true→NM P t x
theorem zZ {t:TypeId} {x:V} (h:o7 P t x=true):NM P t x:=by
 unfold o7 at h
 split at h
 ·rename_i n e xs hu
  simp only[bn,bB] at h
  rw[ly] at h
  exact .arr rfl ⟨hu,h.2.2.2.1,h.2.1,h.2.2.1⟩ h.1 h.2.2.2.2.1 h.2.2.2.2.2
 ·refine .one h ?_
  rcases tt h with ⟨q,n,hu,rfl,hn⟩|⟨b,hu,rfl⟩|⟨s,hu,rfl,hs⟩<;>rfl
theorem s6.one {x:V} {v:Value} (h:s6 v x) (hx:x.cells=[x]):kA v x:=by
 cases x<;>first|exact h|skip
 simp only[V.cells] at hx
 rename_i cs
 have:=congrArg List.length hx
 cases cs with
 | nil=>simp at hx
 | cons c cs=>
  simp only[zf] at hx
  have:=congrArg SizeOf.sizeOf hx.1
  simp at this
  omega
theorem Iz {t:TypeId} {x:V} {v:Value} (h:o7 P t x=true) (hv:s6 v x): ∃l,Go.keyOf P t v=some l:=by
 cases zZ h with
 | one h1 hx=>
  obtain ⟨l,hl,_⟩:=We h1 (hv.one hx)
  refine ⟨l,?_⟩
  rcases tt h1 with ⟨q,n,hu,_⟩|⟨b,hu,_⟩|⟨s,hu,_⟩<;>simp only[Go.keyOf,hu,hl]
 | @arr n e xs hx A hl hp0 hf=>
  subst hx
  obtain ⟨cs,rfl,hs,hc⟩:=hv
  obtain ⟨m,hm⟩: ∃m,P.types.size=m+1:=⟨P.types.size-1,by omega⟩
  have hkt:=A.keyType ⟨m,hm⟩
  have hlen:cs.toList.length=P.cellsOf t:=by rw[A.size];simp[hs,hl]
  have hfm:(Value.agg cs).formed P t=true:=by simp[Value.formed,A.hu,A.size,hs,hl]
  have hex: ∀i∈List.range n,∃y,P.keyLits (m+1) e (((Value.agg cs).cells.toList.drop (i*P.cellsOf e)).take (P.cellsOf e))=some y:=by
   intro i hi
   have hi:=ia.1 hi
   rw[A.one]
   have il:i<cs.size:=by omega
   have C2:i<xs.length:=by omega
   obtain ⟨l,_,h2⟩:=We (NL hf (bU C2)) (hc i cs[i] xs[i] (mj il) (bU C2))
   have e1:((Value.agg cs).cells.toList.drop (i*1)).take 1=[cs[i]]:=by
    show (cs.toList.drop (i*1)).take 1=_
    rw[oc,List.drop_eq_getElem_cons (by simpa using il)]
    simp
   rw[e1]
   exact ⟨_,h2 m⟩
  obtain ⟨bs,jb⟩:=mapM_some hex
  refine ⟨.string (keyBytes bs.flatten),?_⟩
  have Wf:(Value.agg cs).cells.toList.length=P.cellsOf t:=hlen
  unfold Go.keyOf
  rw[A.hu]
  simp only[hkt,hfm,BR,jO]
  unfold Program.keyLits
  rw[A.hu,hm]
  simp only[Wf,jO,jb,Option.map_some]
theorem NN {t:TypeId} {x:V} (h:o7 P t x=true):Keyed P t:=by
 cases zZ h with
 | one h1 hx=>
  rcases tt h1 with ⟨q,n,hu,_⟩|⟨b,hu,_⟩|⟨s,hu,_⟩
  ·exact int_keyed hu
  ·exact bool_keyed hu
  ·exact string_keyed hu
 | arr hx A hl _ hf=>exact Keyed.of_law A.law
theorem Wg {t:TypeId} {x y:V} {v u:Value} (h1:rD P t x=true) (h2:rD P t y=true) (hv:kA v x) (hu:kA u y):uR x y=true↔v=u:=by
 rcases tt h1 with ⟨q,n,ox,rfl,_⟩|⟨b,ox,rfl⟩|⟨s,ox,rfl,_⟩<;>
 rcases tt h2 with ⟨q',n',rT,rfl,_⟩|⟨b',rT,rfl⟩|⟨s',rT,rfl,_⟩<;>
  (rw[ox] at rT;cases rT)
 ·obtain rfl:v= .int q n:=hv
  obtain rfl:u= .int q n':=hu
  simp[uR]
 ·obtain rfl:v= .bool b:=hv
  obtain rfl:u= .bool b':=hu
  simp[uR]
 ·obtain ⟨s1,rfl,e1⟩:=hv
  obtain ⟨s2,rfl,e2⟩:=hu
  simp only[uR,nc,Value.string.injEq,←e1,←e2]
  constructor
  ·intro h
   have:=Array.toList_inj.1 h
   cases s1;cases s2;simp_all
  ·rintro rfl;rfl
theorem Wh {t:TypeId}: ∀{xs ys:List V} {vs us:List Value},sU P t xs=true→sU P t ys=true→xs.length=ys.length→vs.length=xs.length→us.length=ys.length→
  (∀(j:Nat) v x,vs[j]? =some v→xs[j]? =some x→kA v x)→(∀(j:Nat) v x,us[j]? =some v→ys[j]? =some x→kA v x)→(rC xs ys=true↔vs=us)
 | [],[],vs,us,_,_,_,h1,h2,_,_=>by
  have e1:=oW (l:=vs) (by simpa using h1)
  have e2:=oW (l:=us) (by simpa using h2)
  simp[rC,e1,e2]
 | [],_::_,_,_,_,_,h,_,_,_,_=>by simp at h
 | _::_,[],_,_,_,_,h,_,_,_,_=>by simp at h
 | x::xs,y::ys,[],us,_,_,_,h,_,_,_=>by simp at h
 | x::xs,y::ys,v::vs,[],_,_,_,_,h,_,_=>by simp at h
 | x::xs,y::ys,v::vs,u::us,f1,f2,h,h1,h2,r1,r2=>by
  simp only[sU,bn] at f1 f2
  have a:=Wg f1.1 f2.1 (r1 0 v x rfl rfl) (r2 0 u y rfl rfl)
  have b:=Wh (vs:=vs) (us:=us) f1.2 f2.2 (by simpa using h) (by simpa using h1) (by simpa using h2) (fun j v x hj hx=>r1 (j+1) v x (by simpa using hj) (by simpa using hx)) (fun j v x hj hx=>r2 (j+1) v x (by simpa using hj) (by simpa using hx))
  simp only[rC,bn,a,b,zf]
theorem NO {t:TypeId} {x y:V} {v u:Value} (h1:o7 P t x=true) (h2:o7 P t y=true) (hv:s6 v x) (hu:s6 u y):kp x y=true↔v=u:=by
 unfold kp
 cases zZ h1 with
 | one f1 c1=>
  cases zZ h2 with
  | one f2 c2=>
   rw[c1,c2]
   simp only[rC,Bool.and_true]
   exact Wg f1 f2 (hv.one c1) (hu.one c2)
  | arr hy A hl _ hf=>
   rcases tt f1 with ⟨q,n,ox,_⟩|⟨b,ox,_⟩|⟨s,ox,_⟩<;>(rw[A.hu] at ox;cases ox)
 | arr hx A hl _ hf=>
  cases zZ h2 with
  | one f2 c2=>
   rcases tt f2 with ⟨q,n,ox,_⟩|⟨b,ox,_⟩|⟨s,ox,_⟩<;>(rw[A.hu] at ox;cases ox)
  | arr hy A2 qg _ hf2=>
   have iH:=A.hu.symm.trans A2.hu
   cases iH
   subst hx
   subst hy
   obtain ⟨cs,rfl,s1,r1⟩:=hv
   obtain ⟨ds,rfl,s2,r2⟩:=hu
   have:=Wh (vs:=cs.toList) (us:=ds.toList) hf hf2 (by omega) (by simpa using s1) (by simpa using s2) (fun j v x hj hx=>r1 j v x (by simpa using hj) hx) (fun j v x hj hx=>r2 j v x (by simpa using hj) hx)
   simp only[V.cells,this,Value.agg.injEq]
   exact Array.toList_inj
theorem Wi {k:V}: ∀{es:List V},(∀x∈es,kp k (x.comp 0)=false)→gy k es=false∧(∀z,jo k es z=z)∧∀v,fL k v es=es++[.bL [k,v]]
 | [],_=>⟨rfl,fun _=>rfl,fun _=>rfl⟩
 | e::es,h=>by
  have h0:=h e (uE ..)
  obtain ⟨a,b,c⟩:=Wi (k:=k) (es:=es) fun x hx=>h x (m7 _ hx)
  exact ⟨by simp[gy,h0,a],fun z=>by simp[jo,h0,b],fun v=>by simp[fL,h0,c]⟩
theorem Wj {k:V}: ∀{es:List V} {j:Nat} {k' y:V},es[j]? =some (.bL [k',y])→kp k k'=true→(∀i x,i<j→es[i]? =some x→kp k (x.comp 0)=false)→
  gy k es=true∧(∀z,jo k es z=y)∧∀v,fL k v es=es.set j (.bL [k',v])
 | [],j,k',y,h,_,_=>by simp at h
 | e::es,0,k',y,h,he,_=>by
  simp at h
  subst h
  exact ⟨by simp[gy,V.comp,V.nth,he],fun z=>by simp[jo,V.comp,V.nth,he],fun v=>by simp[fL,V.comp,V.nth,he]⟩
 | e::es,j+1,k',y,h,he,bx=>by
  have h0:=bx 0 e (by omega) rfl
  obtain ⟨a,b,c⟩:=Wj (k:=k) (es:=es) (j:=j) (by simpa using h) he fun i x hi hx=>bx (i+1) x (by omega) (by simpa using hx)
  exact ⟨by simp[gy,h0,a],fun z=>by simp[jo,h0,b],fun v=>by simp[fL,h0,c]⟩
theorem Wk {kt vt:TypeId} {E:Array MapEntry} {es:List V} {k:V} {kv:Value} (hs:E.size=es.length) (hx: ∀(j:Nat) (e:MapEntry) (x:V),E[j]? =some e→es[j]? =some x→HS P kt vt e x)
  (hn:E.toList.Pairwise (fun a b=>a.key≠b.key)) (hk:o7 P kt k=true) (IA:s6 kv k) (w:World):
  ((Instr.findKey kt kv E.toList).run P w= .ok none w∧(∀e∈E.toList,e.key≠kv)∧gy k es=false∧(∀z,jo k es z=z)∧∀v,fL k v es=es++[.bL [k,v]])∨
  ∃j e k' y,(Instr.findKey kt kv E.toList).run P w= .ok (some (j,e.val)) w∧E[j]? =some e∧e.key=kv∧es[j]? =some (.bL [k',y])∧o7 P kt k'=true∧s6 kv k'∧fo P vt y=true∧kA e.val y∧
   gy k es=true∧(∀z,jo k es z=y)∧∀v,fL k v es=es.set j (.bL [k',v]):=by
 have K:=NN hk
 obtain ⟨l,hl⟩:=Iz hk IA
 have Wl: ∀(j:Nat) x,es[j]? =some x→∃e,E[j]? =some e∧HS P kt vt e x:=by
  intro j x hj
  have bx:j<E.size:=by rw[hs];exact (bO.1 hj).1
  exact ⟨E[j],mj bx,hx j _ x (mj bx) hj⟩
 have keys: ∀e∈E.toList,∃l,Go.keyOf P kt e.key=some l:=by
  intro e he
  obtain ⟨j,hj⟩:=uD he
  have iF:E[j]? =some e:=by simpa using hj
  have bx:j<es.length:=by rw[←hs];exact (jl.1 iF).1
  obtain ⟨k',y,_,h1,h2,_⟩:=hx j e es[j] iF (bU bx)
  exact Iz h1 h2
 rcases K.find w hl E.toList keys with ⟨h1,h2⟩|⟨j,e,h1,h2,h3⟩
 ·left
  refine ⟨h1,h2,Wi fun x hxm=> ?_⟩
  obtain ⟨j,hj⟩:=uD hxm
  obtain ⟨e,he,k',y,rfl,f1,f2,_⟩:=Wl j x hj
  cases hq:kp k (V.comp (.bL [k',y]) 0) with
  | false=>rfl
  | true=>
   have:=(NO hk f1 IA f2).1 hq
   exact absurd this.symm (h2 e (jN (by simpa using he)))
 ·right
  have hE:E[j]? =some e:=by simpa using h2
  have bx:j<es.length:=by rw[←hs];exact (jl.1 hE).1
  obtain ⟨k',y,hy,f1,f2,f3,f4⟩:=hx j e es[j] hE (bU bx)
  have hj:=bU bx
  rw[hy] at hj
  rw[h3] at f2
  refine ⟨j,e,k',y,h1,hE,h3,hj,f1,f2,f3,f4,Wj hj ((NO hk f1 IA f2).2 rfl) fun i x hi iD=> ?_⟩
  obtain ⟨e',w8,k2,y2,rfl,g1,g2,_⟩:=Wl i x iD
  cases hq:kp k (V.comp (.bL [k2,y2]) 0) with
  | false=>rfl
  | true=>
   have:=(NO hk g1 IA g2).1 hq
   have i1:i<E.toList.length:=by have:=(bO.1 iD).1;simp;omega
   have i2:j<E.toList.length:=by simp;omega
   have:=zg.1 hn i j i1 i2 hi
   have a1:E.toList[i]=e':=by
    have:E.toList[i]? =some e':=by simpa using w8
    rw[bU i1] at this;exact dD this
   have a2:E.toList[j]=e:=by
    have:=h2
    rw[bU i2] at this;exact dD this
   rw[a1,a2,h3] at this
   exact absurd (by rw[← ‹kv=e'.key›]) this
theorem aj.Wm {v:Value} {x:V} (h:aj P w I β hp v x) {t:TypeId} (hx:rD P t x=true):kA v x:=by
 rcases tt hx with ⟨q,n,_,rfl,_⟩|⟨b,_,rfl⟩|⟨s,_,rfl,_⟩
 ·exact h.fa
 ·exact h.kW
 ·exact h.oo
theorem aj.Wn {v:Value} {x:V} (h:aj P w I β hp v x) {t:TypeId} (hx:o7 P t x=true):s6 v x:=by
 cases zZ hx with
 | one f c=>
  have:=h.Wm f
  cases x<;>first|exact this|cases this
 | arr hx A hl _ hf=>
  subst hx
  obtain ⟨cs,rfl,h1,h2⟩:=h.my
  exact ⟨cs,rfl,h1,fun j u y hu hy=>(h2 j u y hu hy).Wm (NL hf hy)⟩
theorem Wo {vt:TypeId} {y:V} (h:mapVal P vt=true) (ht:fo P vt y=true):(∃q n,P.underlying vt=some (.int q)∧y= .int q n)∨∃b,P.underlying vt=some .bool∧y= .bool b:=by
 unfold mapVal at h
 unfold fo at ht
 split at h
 ·rename_i q hu
  rw[hu] at ht
  cases y<;>first|(simp at ht;done)|skip
  simp only[dW] at ht
  subst ht
  exact .inl ⟨_,_,hu,rfl⟩
 ·rename_i hu
  rw[hu] at ht
  cases y<;>first|(simp at ht;done)|skip
  exact .inr ⟨_,hu,rfl⟩
 ·cases h
theorem kA.NP {vt:TypeId} {v:Value} {y:V} (h:mapVal P vt=true) (ht:fo P vt y=true) (hv:kA v y):aj P w I β hp v y:=by
 rcases Wo h ht with ⟨q,n,_,rfl⟩|⟨b,_,rfl⟩
 ·obtain rfl:v= .int q n:=hv;exact .int
 ·obtain rfl:v= .bool b:=hv;exact .bool
theorem aj.agN {vt:TypeId} {v:Value} {y:V} (h:mapVal P vt=true) (ht:fo P vt y=true) (hv:aj P w I β hp v y):kA v y:=by
 rcases Wo h ht with ⟨q,n,_,rfl⟩|⟨b,_,rfl⟩
 ·exact hv.fa
 ·exact hv.kW
theorem agO {vt:TypeId} {z:V} (h:HD P vt=some z) (w:World): ∃v,(zeroValue vt).run P w= .ok v w∧kA v z:=by
 unfold HD at h
 cases hi:P.info? vt with
 | none=>rw[hi] at h;cases h
 | some i=>
  rw[hi] at h
  simp only[Option.bind_some] at h
  cases hz:i.zero with
  | none=>rw[hz] at h;cases h
  | some v=>
   rw[hz] at h
   refine ⟨v,by simp[zeroValue,typeInfo,hi,hz],?_⟩
   cases v<;>simp only at h<;>first|(cases h;done)|skip
   ·cases h;rfl
   ·cases h;rfl
theorem NQ {t kt vt:TypeId} (h:ni P t=some (kt,vt)):P.underlying t=some (.map kt vt):=by
 unfold ni at h
 split at h
 ·rename_i k e hu;cases h;exact hu
 ·cases h
theorem NR (S:aW P w I β hp B M w0) {ok:Bool} {v:Value} {x:V} {b:Bool} {r:R} {rd:List Nat} {res:Result Value} (hv:aj P w I β hp v x)
  (hr:res= .ok (if ok then .tuple #[v,.bool b] else v) w) (h:(HE ok x b).run C hp=some (r,rd)):dJ P res w I β hp B M w0 r:=by
 unfold HE at h
 obtain rfl:=bp h
 cases ok with
 | false=>exact .same S hr hv
 | true=>
  refine .same S hr (.bL rfl fun j u y hu hy=> ?_)
  match j,hu,hy with
  | 0,hu,hy=>simp at hu hy;subst hu;subst hy;exact hv
  | 1,hu,hy=>simp at hu hy;subst hu;subst hy;exact .bool
  | j+2,hu,hy=>simp at hy
theorem agP (S:aW P w I β hp B M w0) {t kt vt:TypeId} (ht:ni P t=some (kt,vt)) {m k:Value} {mx kx:V} {ok:Bool} {r:R} {rd:List Nat} (hm:aj P w I β hp m mx) (hk:aj P w I β hp k kx)
  (h:(MH P t mx kx ok).run C hp=some (r,rd)):dJ P ((Instr.lookup t m k ok).run P w) w I β hp B M w0 r:=by
 unfold MH at h
 rw[ht] at h
 simp only at h
 cases hz:HD P vt with
 | none=>rw[hz] at h;cases h
 | some z=>
  rw[hz] at h
  obtain ⟨hc,h'⟩:=a8 h
  clear h
  have h:=h'
  clear h'
  simp only[bn] at hc
  obtain ⟨rU,C4,IB⟩:=hc
  have hu:=NQ ht
  have z0:=hk.Wn rU
  have K:=NN rU
  obtain ⟨l,hl⟩:=Iz rU z0
  obtain ⟨zv,Wp,Wq⟩:=agO hz w
  cases mx<;>simp only at h<;>first|(cases h;done)|skip
  ·rename_i t' id
   obtain ⟨lN,h'⟩:=a8 h
   clear h
   have h:=h'
   clear h'
   rw[bB] at lN
   subst lN
   obtain ⟨l2,h'⟩:=run_get h
   clear h
   have h:=h'
   clear h'
   cases ae:hp id with
   | none=>rw[ae] at h;cases h
   | some blk=>
    rw[ae] at h
    cases blk<;>simp only at h<;>first|(cases h;done)|skip
    rename_i t2 es
    obtain ⟨lN,h'⟩:=a8 h
    clear h
    have h:=h'
    clear h'
    rw[bB] at lN
    subst lN
    cases hm with
    | jw hd=>rw[ae] at hd;cases hd
    | @cC _ _ b bj hd hb=>
     rw[ae] at hd
     cases hd
     have hr:=S.h.rel id _ ae
     cases hr with
     | @map _ Wr Ws _ b' clock E gT aI hh hs hI hx hn=>
      rw[hb] at aI;cases aI
      rw[hu] at gT;cases gT
      rcases Wk hs hx hn rU z0 w with ⟨h1,_,h3,h4,_⟩|⟨j,e,k',y,h1,_,_,_,_,_,h6,h7,h3,h4,_⟩
      ·rw[h3,h4,CN IB] at h
       refine NR S (kA.NP C4 IB Wq) ?_ h
       unfold Instr.lookup
       simp only[Sem.run_bind,run_underlying hu,Result.andThen_ok,Go.MapKept.run_getObj_map hh,Sem.run_pure,K.check w E.isEmpty hl,h1,Wp]
      ·rw[h3,h4,CN h6] at h
       refine NR S (kA.NP C4 h6 h7) ?_ h
       unfold Instr.lookup
       simp only[Sem.run_bind,run_underlying hu,Result.andThen_ok,Go.MapKept.run_getObj_map hh,Sem.run_pure,K.check w E.isEmpty hl,h1]
  ·rename_i t'
   obtain ⟨lN,h⟩:=a8 h
   cases hm
   rw[CN IB] at h
   refine NR S (kA.NP C4 IB Wq) ?_ h
   have hf:(Instr.findKey kt k []).run P w= .ok none w:=by
    rcases K.find w hl [] (by simp) with ⟨h1,_⟩|⟨j,e,_,h2,_⟩
    ·exact h1
    ·simp at h2
   unfold Instr.lookup
   simp[run_underlying hu,K.check w true hl,hf,Wp]
theorem agQ (S:aW P w I β hp B M w0) {t:TypeId} {nb:Nat} {r:R} {rd:List Nat} (h:(Rd.aR (ni P t).isSome (kq nb (.map t []) (.cC t nb) [])).run C hp=some (r,rd)):
  dJ P ((Instr.makeMap t none).run P w) w I β hp B M w0 r:=by
 obtain ⟨ht,h⟩:=a8 h
 obtain ⟨hn,rfl⟩:=pk h
 obtain ⟨⟨kt,vt⟩,ht⟩:=Option.isSome_iff_exists.1 ht
 have hu:=NQ ht
 have dv: ∀j,¬I w.heap.size j:=fun j h=>Nat.lt_irrefl _ (S.h.kB _ j h)
 have fO:(w.alloc (.map #[] 0)).heap[w.heap.size]? =some (.map #[] 0):=heap_alloc_new w _
 obtain ⟨a1,a2⟩:=CJ S (w':=w.alloc (.map #[] 0)) (blk:= .map t []) (b:=w.heap.size) hn (fun aV blk' h ho=>Nat.lt_irrefl _ (S.h.lt h ho)) (fun j h=>absurd h (dv j))
  (fun b' _ bx=>heap_alloc_old w _ b' bx) (by simp) ⟨rfl,rfl⟩ (.inr S.size) (fun b' h=>(dD (h.flat (by simp))).symm)
  (fun _=> .map hu rfl fO rfl dv (fun j e x he _=>by simp at he) (by simp))
 exact ⟨_,_,_,_,Go.RowKit.run_makeMap t w,a1,a2,.cC (dF _ _ _) (dF _ _ _)⟩
theorem Wt (S:aW P w I β hp B M w0) {t kt vt:TypeId} (ht:ni P t=some (kt,vt)) {m k v:Value} {mx kx vx:V} {r:R} {rd:List Nat} (hm:aj P w I β hp m mx) (hk:aj P w I β hp k kx) (hv:aj P w I β hp v vx)
  (h:(HF P t mx kx vx).run C hp=some (r,rd)):rN P ((Instr.mapUpdate t m k v).run P w) w I β hp B M w0 r:=by
 unfold HF at h
 rw[ht] at h
 obtain ⟨hc,h'⟩:=a8 h
 clear h
 have h:=h'
 clear h'
 simp only[bn] at hc
 obtain ⟨rU,C4,xd⟩:=hc
 have hu:=NQ ht
 have z0:=hk.Wn rU
 have zN:=aj.agN C4 xd hv
 have K:=NN rU
 obtain ⟨l,hl⟩:=Iz rU z0
 cases mx<;>simp only at h<;>first|(cases h;done)|skip
 rename_i t' id
 obtain ⟨lN,h'⟩:=a8 h
 clear h
 have h:=h'
 clear h'
 rw[bB] at lN
 subst lN
 obtain ⟨l2,h'⟩:=run_get h
 clear h
 have h:=h'
 clear h'
 cases ae:hp id with
 | none=>rw[ae] at h;cases h
 | some blk=>
  rw[ae] at h
  cases blk<;>simp only at h<;>first|(cases h;done)|skip
  rename_i t2 es
  obtain ⟨lN,h'⟩:=a8 h
  clear h
  have h:=h'
  clear h'
  rw[bB] at lN
  subst lN
  obtain rfl:=bp h
  cases hm with
  | jw hd=>rw[ae] at hd;cases hd
  | @cC _ _ b bj hd hb=>
   rw[ae] at hd
   cases hd
   have hr:=S.h.rel id _ ae
   cases hr with
   | @map _ Wr Ws _ b' clock E gT aI hh hs hI hx hn=>
    rw[hb] at aI;cases aI
    rw[hu] at gT;cases gT
    have bx:b<w.heap.size:=(jl.1 hh).1
    have fin: ∀(E':Array MapEntry) (C6:Nat),(Instr.mapUpdate t (.map (some b)) k v).run P w= .ok () {w with heap:=w.heap.setIfInBounds b (.map E' C6)}→E'.size=(fL kx vx es).length→
      (∀(j:Nat) (e:MapEntry) (x:V),E'[j]? =some e→(fL kx vx es)[j]? =some x→HS P kt vt e x)→E'.toList.Pairwise (fun a b=>a.key≠b.key)→
      rN P ((Instr.mapUpdate t (.map (some b)) k v).run P w) w I β hp B M w0 ⟨.undef,[(id,.map t (fL kx vx es))]⟩:=by
     intro E' C6 dH vg dj C7
     have fO:({w with heap:=w.heap.setIfInBounds b (.map E' C6)}:World).heap[b]? =some (.map E' C6):=by simp[bx]
     obtain ⟨a1,a2⟩:=H2 S (w':={w with heap:=w.heap.setIfInBounds b (.map E' C6)}) (blk':= .map t (fL kx vx es)) ae (by simp) rfl hb hI (by simp)
      (fun b' aI=>by simp[Array.getElem?_setIfInBounds,Ne.symm aI]) (by simp only[bsize,fO,hh]) (by simp) ⟨rfl,rfl⟩ (fun _=> .map hu rfl fO vg hI dj C7)
     exact ⟨_,I,β,dH,a1,a2,rfl⟩
    rcases Wk hs hx hn rU z0 w with ⟨h1,h2,_,_,h5⟩|⟨j,e,k',y,h1,hE,Wu,hes,agR,agS,_,_,_,_,h5⟩
    ·have e5:=h5 vx
     refine fin (E.push {key:=k,val:=v,born:=clock}) (clock+1) ?_ (by rw[e5];simp[hs]) (fun j e x he td=> ?_) ?_
     ·unfold Instr.mapUpdate
      simp only[Sem.run_bind,run_underlying hu,Result.andThen_ok,Go.MapKept.run_getObj_map hh,K.check w false hl,h1,Go.MapKept.run_setObj_map _ hh]
     ·rw[e5] at td
      rw[Array.getElem?_push] at he
      split at he
      ·rename_i hj
       rw[kR (by omega),hj,hs,BT] at td
       simp at he td
       subst he;subst td
       exact ⟨kx,vx,rfl,rU,z0,xd,zN⟩
      ·have hj:j<E.size:=(jl.1 he).1
       rw[kj (by omega)] at td
       exact hx j e x he td
     ·rw[Array.toList_push,Hn]
      refine ⟨hn,by simp,fun a ha b' aI=> ?_⟩
      simp only[iA] at aI
      subst aI
      exact h2 a ha
    ·have e5:=h5 vx
     have hj:j<E.size:=(jl.1 hE).1
     refine fin (E.modify j fun e=>{e with key:=k,val:=v}) clock ?_ (by rw[e5];simp[hs]) (fun i e' x he iD=> ?_) ?_
     ·have bP:=K.stays w hl
      unfold Instr.mapUpdate
      simp only[Sem.run_bind,run_underlying hu,Result.andThen_ok,Go.MapKept.run_getObj_map hh,K.check w false hl,h1]
      simp only[hE,Option.map_some,Option.getD_some,Wu,bP,Result.andThen_ok,Go.MapKept.run_setObj_map _ hh]
     ·rw[e5] at iD
      rw[BU] at he
      rw[wi] at iD
      split at he
      ·rename_i xe
       subst xe
       rw[af rfl,aZ] at iD
       rw[hE] at he
       simp at he iD
       subst he;subst iD
       exact ⟨k',vx,rfl,agR,agS,xd,zN⟩
      ·rename_i xe
       rw[ag xe] at iD
       exact hx i e' x he iD
     ·have Wv: ∀i (h1:i<(E.modify j fun e=>{e with key:=k,val:=v}).toList.length) (h2:i<E.toList.length),((E.modify j fun e=>{e with key:=k,val:=v}).toList[i]).key=(E.toList[i]).key:=by
       intro i h1 h2
       simp only[Array.getElem_toList,Array.getElem_modify]
       split
       ·rename_i xe
        subst xe
        have:=(jl.1 hE).2
        rw[this,Wu]
       ·rfl
      rw[zg] at hn⊢
      intro i i' h1 h2 jX
      have g1:i<E.toList.length:=by simpa using h1
      have g2:i'<E.toList.length:=by simpa using h2
      rw[Wv i h1 g1,Wv i' h2 g2]
      exact hn i i' g1 g2 jX
theorem agT (S:aW P w I β hp B M w0) {t ty kt vt:TypeId} {v:Value} {x:V} {r:R} {rd:List Nat} (hu:P.underlying t=some (.map kt vt)) (hv:aj P w I β hp v x)
  (h:(HG x).run C hp=some (r,rd)):dJ P ((Builtin.len_ #[t] ty #[v]).run P w) w I β hp B M w0 r:=by
 unfold HG at h
 cases x<;>simp only at h<;>first|(cases h;done)|skip
 ·rename_i t' id
  obtain ⟨l2,h'⟩:=run_get h
  clear h
  have h:=h'
  clear h'
  cases ae:hp id with
  | none=>rw[ae] at h;cases h
  | some blk=>
   rw[ae] at h
   cases blk<;>simp only at h<;>first|(cases h;done)|skip
   rename_i t2 es
   obtain rfl:=bp h
   cases hv with
   | jw hd=>rw[ae] at hd;cases hd
   | @cC _ _ b bj hd hb=>
    rw[ae] at hd
    cases hd
    have hr:=S.h.rel id _ ae
    cases hr with
    | @map _ Wr Ws _ b' clock E gT aI hh hs hI hx hn=>
     rw[hb] at aI;cases aI
     refine .same S (v:= .int .i64 E.size) (by simp[Builtin.len_,run_underlying hu,Go.MapKept.run_getObj_map hh,goInt]) ?_
     rw[hs]
     exact .int
 ·obtain rfl:=bp h
  cases hv
  exact .same S (v:= .int .i64 0) (by simp[Builtin.len_,run_underlying hu,goInt]) .int
theorem aj.NS {v:Value} {t:TypeId} (h:aj P w I β hp v (.eg t)):v= .map none:=by cases h;rfl
theorem aj.agU {v:Value} {t t':TypeId} {id:Nat} {es:List V} (h:aj P w I β hp v (.cC t id)) (ae:hp id=some (.map t' es)): ∃b,v= .map (some b):=by
 cases h with
 | jw h=>rw[ae] at h;cases h
 | cC h hb=>exact ⟨_,rfl⟩
theorem Ww (S:aW P w I β hp B M w0) {op:BinOp} {t:TypeId} {a:Option Nat} {r:R} {rd:List Nat} (x y:Operand)
  (h:(HA P op t a.isNone).run C hp=some (r,rd)):dJ P ((do eqGuard op t x y (.map a) (.map none);binOp op t (.map a) (.map none)).run P w) w I β hp B M w0 r:=by
 unfold HA at h
 split at h
 case h_2=>cases h
 rename_i kt vt hu
 have he:(Op.equal t (.map a) (.map none)).run P w= .ok a.isNone w:=by
  show (Op.equalIn (9999+1) t (.map a) (.map none)).run P w=_
  rw[Op.equalIn]
  cases a<;>simp[Sem.run_bind,run_underlying hu,Result.andThen_ok,Sem.run_pure]
 cases op<;>simp only at h<;>first|(cases h;done)|skip
 ·obtain rfl:=bp h
  exact .same S (by simp[eqGuard,binOp,he]) .bool
 ·obtain rfl:=bp h
  exact .same S (by simp[eqGuard,binOp,he]) .bool
end
end Go.AM
namespace Go.AM
section
variable {P:Program} {w w':World} {I I':Nat→Nat→Prop} {β β':Nat→Option Nat} {hp hp':Nat→Option ah} {C:ab} {B:Nat} {M:Nat→Prop} {w0:Start}
theorem agV {e:TypeId} (he:P.underlying e=some (.int .u8)) (hc:P.cellsOf e=1) (s:ByteArray): ∀(i j:Nat) (x:V) (t':TypeId),(s.data.toList.map Cn)[i]? =some x→(bC P e)[j]? =some t'→j<P.cellsOf e→
  ∃u,(Lib.strCells s)[i*P.cellsOf e+j]? =some u∧Pure P w I t' u (cl P e x j):=by
 intro i j x t' hx ht hj
 have po:cb P e=false:=by simp[cb,he]
 obtain rfl:j=0:=by omega
 simp only[bC,po,cond_false,List.getElem?_cons_zero,eE] at ht
 subst ht
 rw[eZ] at hx
 cases hb:s.data.toList[i]? with
 | none=>rw[hb] at hx;cases hx
 | some b=>
  rw[hb] at hx
  cases hx
  refine ⟨.int .u8 b.toNat,?_,?_⟩
  ·rw[hc,oc,Nat.add_zero]
   simp only[Lib.strCells,eZ,hb,Option.map_some]
  ·simp only[cl,po,cond_false]
   exact .int he
theorem agW (w:World) (t u ty e:TypeId) (i:TypeInfo) (z:Value) (ht:P.underlying t=some (.slice e)) (hu:P.underlying u=some .string) (hi:P.info? e=some i) (hz:i.zero=some z)
  (s:ByteArray) (h0:0<s.size) (Ir:(s.size:Int)≤9223372036854775807) (Is:s.size*i.bytes≤281474976710656) (a0:Option Addr):
  (Builtin.append_ #[t,u] ty #[.slice a0 0 0,.string s]).run P w=
   .ok (.slice (some ⟨w.heap.size,0,none⟩) s.size (grownCap w s.size 0 e))
    (w.drew.alloc (.cells (s.data.map (fun b=>Value.int .u8 b.toNat)++Builtin.zeroCells z.cells (grownCap w s.size 0 e-s.size)) e)):=by
 cases a0 with
 | none=>exact run_append_nil_string w t u ty e i z ht hu hi hz s h0 Ir Is
 | some b=>
  rw[←run_append_nil_string w t u ty e i z ht hu hi hz s h0 Ir Is]
  have hn:s.size≠0:=by omega
  have agX: ¬(9223372036854775807<(s.size:Int)):=by omega
  have agY: ¬(281474976710656<Builtin.nextslicecap s.size 0*i.bytes):=by rw[nextslicecap_zero h0];omega
  simp[Builtin.append_,run_underlying ht,run_underlying hu,sizeOf,typeInfo,zeroValue,hi,hz,Builtin.lenOf,Builtin.firstCells,hn,agX,agY,Question.forced,newRow,grownCap,loadCells,loadCellsFrom]
theorem Wx (S:aW P w I β hp B M w0) {t u ty e:TypeId} {nb:Nat} {fz:Bool} {x:ByteArray} {xs:List V} {i:TypeInfo} {z:Value} (hu:P.underlying t=some (.slice e)) (qA:P.underlying u=some .string) (az:dy P e=true) (hn:hp nb=none)
 (hi:P.info? e=some i) (hz:i.zero=some z) (h3:i.size=P.cellsOf e) (h4:z.cells.size=P.cellsOf e) (z5:i.size=1) (ov:P.bytesOf e=i.bytes) (fq:xs.length*P.bytesOf e≤bM) (lR:xs.length=x.size) (ot:(Lib.strCells x).length=x.size)
 (dA: ∀(i j:Nat) (y:V) (t':TypeId),xs[i]? =some y→(bC P e)[j]? =some t'→j<P.cellsOf e→∃u,(Lib.strCells x)[i*P.cellsOf e+j]? =some u∧Pure P w I t' u (cl P e y j)):
 ∀a0,∃v w' β',(Builtin.append_ #[t,u] ty #[.slice a0 0 0,.string x]).run P w= .ok v w'∧Le P w I β hp w' I β' (a9 hp nb (some (.arr e xs fz)))∧aW P w' I β' (a9 hp nb (some (.arr e xs fz))) B M w0∧
  aj P w' I β' (a9 hp nb (some (.arr e xs fz))) v (.whole e nb):=by
 intro a0
 have w9:=zF az
 have hlen:xs.length≤2^45:=by
  have:xs.length*1≤xs.length*P.bytesOf e:=wj _ w9
  simp only[bM] at fq
  omega
 by_cases h0:x.size=0
 ·have iG:xs=[]:=oW (by omega)
  subst iG
  obtain ⟨a1,a2⟩:=HZ S e hn
  have hf:=Lib.run_firstCells_string (P:=P) w 1 x
  rw[h0] at hf
  have ti:Lib.strCells x=[]:=oW (by omega)
  exact ⟨.slice a0 0 0,_,_,by cases a0<;>simp[storeCells,ti,Builtin.append_,run_underlying hu,run_underlying qA,sizeOf,typeInfo,hi,z5,Builtin.lenOf,h0,hf],a1,a2,.eF (dF _ _ _) (dF _ _ _)⟩
 ·have dH:=agW (P:=P) w t u ty e i z hu qA hi hz x (by omega) (by omega) (by rw[←ov,←lR];simp only[bM] at fq;omega) a0
  have e1:(x.data.map fun b=>Value.int .u8 b.toNat)=(Lib.strCells x).toArray:=by
   apply Array.ext'
   simp[Lib.strCells]
  rw[e1,←lR] at dH
  have rQ:=grownCap_ge w xs.length 0 e
  have xb:grownCap w xs.length 0 e≤maxLen:=grownCap_le_maxLen w xs.length 0 e (by simp only[maxLen];omega)
  obtain ⟨n1,n2,n3⟩:=zX S.drew (nb:=nb) (cap:=grownCap w xs.length 0 e) (es:=xs) (C0:=(Lib.strCells x).toArray++Builtin.zeroCells z.cells (grownCap w xs.length 0 e-xs.length)) az hn
   (by
    have:(Lib.strCells x).length=xs.length*P.cellsOf e:=by rw[ot,lR,←h3,z5,oc]
    simp only[Hl,sM,size_zeroCells,h4,this,←eC];congr 1;omega) rQ xb
   (fun i' j y t' hy ht hj=>by
    obtain ⟨u,gT,hp⟩:=dA i' j y t' hy ht hj
    have bx:=(bO.1 gT).1
    refine ⟨u,?_,Pure.drew hp⟩
    rw[Array.getElem?_append_left (by simpa using bx)]
    simpa using gT)
  exact ⟨_,_,_,dH,(Le.drew w I β hp).trans n1,n2,n3⟩
theorem agZ (S:aW P w I β hp B M w0) {t u ty e:TypeId} {nb:Nat} {s:Value} {sv:V} {x:ByteArray} {r:R} {rd:List Nat} (hu:P.underlying t=some (.slice e)) (qA:P.underlying u=some .string) (he:P.underlying e=some (.int .u8)) (hs:aj P w I β hp s sv)
  (h:(zt P nb e sv (.list e (x.data.toList.map Cn))).run C hp=some (r,rd)):dJ P ((Builtin.append_ #[t,u] ty #[s,.string x]).run P w) w I β hp B M w0 r:=by
 unfold zt at h
 obtain ⟨az,h⟩:=a8 h
 simp only[uS] at h
 obtain ⟨_,h⟩:=a8 h
 have po:cb P e=false:=by simp[cb,he]
 have eG:P.cellsOf e=1:=by rw[←(mw az).1,CF po];rfl
 obtain ⟨i,z,hi,hz,h3,h4,_⟩:=lO az
 have z5:i.size=1:=by rw[h3,eG]
 have w9:=zF az
 have ov:P.bytesOf e=i.bytes:=by simp[Program.bytesOf,hi]
 have IC:=agV (P:=P) (w:=w) (I:=I) he eG x
 have lR:(x.data.toList.map Cn).length=x.size:=by simp
 have ot:(Lib.strCells x).length=x.size:=Lib.strCells_length x
 have h1:=Lib.strCells_oneCell x
 generalize iG:x.data.toList.map Cn=xs at*
 cases sv with
 | nilS e'=>
  obtain ⟨hc,h⟩:=a8 h
  simp only[bn,bB,fC] at hc
  obtain ⟨hn,rfl⟩:=pk h
  obtain ⟨a0,rfl⟩: ∃a0,s= .slice a0 0 0:=by cases hs;exact ⟨_,rfl⟩
  obtain ⟨v,w',β',a1,a2,a3,a4⟩:=Wx S hu qA az hn hi hz h3 h4 z5 ov hc.2 lR ot IC _
  exact ⟨v,w',I,β',a1,a2,a3,a4⟩
 | whole e' id=>
  obtain ⟨l,h⟩:=run_get h
  cases ae:hp id with
  | none=>rw[ae] at h;cases h
  | some blk=>
   rw[ae] at h
   cases blk with
   | dead=>cases h
   | var _=>cases h
   | nest _ _ _=>cases h
   | map _ _=>cases h
   | arr eI es fz=>
    obtain ⟨hc,h⟩:=a8 h
    obtain ⟨hn,rfl⟩:=pk h
    simp only[bn,bB,fC] at hc
    obtain ⟨ND,NF,fq⟩:=hc
    subst ND
    subst NF
    have ct:nb≠id:=fun e=>by rw[e,ae] at hn;cases hn
    obtain ⟨k1,k2⟩:=H0 S ae
    have lQ:a9 hp id (some ah.dead) nb=none:=by rw[e9 _ _ ct];exact hn
    cases hs with
    | eS hd=>rw[ae] at hd;cases hd
    | e8 hd=>rw[ae] at hd;cases hd
    | eF hd hb=>
     rw[ae] at hd
     cases hd
     simp only[List.length_nil,dE] at fq
     obtain ⟨v,w',β',a1,a2,a3,a4⟩:=Wx k2 hu qA az lQ hi hz h3 h4 z5 ov fq lR ot IC _
     exact ⟨v,w',I,β',a1,k1.trans a2,a3,a4⟩
    | @whole _ _ bj o8 b cap hd hb bG cJ hm=>
     rw[ae] at hd
     cases hd
     have hr:=S.h.rel id _ ae
     cases hr with
     | eh aI=>rw[aI] at hb;cases hb
     | @arr _ _ _ b' Ca _ aI hh qx hf dX ow=>
      rw[hb] at aI
      cases aI
      have hlen:es.length+xs.length≤2^45:=by
       have:(es.length+xs.length)*1≤(es.length+xs.length)*P.bytesOf e:=wj _ w9
       simp only[bM] at fq
       omega
      rw[pc hh] at bG
      have tc: ∀aV blk',a9 hp id (some ah.dead) aV=some blk'→¬bW P w (β aV) blk' b:=by
       intro aV blk' h1 h2
       by_cases jX:aV=id
       ·subst jX;rw[dF] at h1;cases h1;exact h2.alive rfl
       ·rw[e9 _ _ jX] at h1
        exact jX (S.h.inj aV id blk' _ b h1 ae h2 (.root (by simp) hb))
      have NG:=S.h.u4 id _ b ae (by simp) hb
      have kY:es.length*P.cellsOf e≤Ca.toList.length:=by simpa using qx
      have Wy:(Lib.strCells x).length=xs.length*P.cellsOf e:=by rw[ot,lR,eG,oc]
      by_cases vf:es.length+xs.length≤cap
      ·have CY:es.length*P.cellsOf e+(Lib.strCells x).length≤Ca.size:=by rw[Wy,←eC,←bG];exact dM _ vf
       have dH:=Lib.run_append_room_string (P:=P) w t u ty e i hu qA hi z5 b es.length cap Ca hh x (by rw[←lR];exact vf) (by rw[←ot];rw[eG,oc] at CY;exact CY)
       have dA:=Ip (P:=P) (w:=w) (I:=I) (n:=es.length) (c:=Ca.toList) rfl (fun i j y t' a b c=>by
        obtain ⟨v,hv,hp⟩:=ow i j y t' a b c
        exact ⟨v,by simpa using hv,hp⟩) IC kY (Ca.toList.drop (es.length*P.cellsOf e+(Lib.strCells x).length))
       generalize wZ:(Ca.toList.take es.length++Lib.strCells x++Ca.toList.drop (es.length+x.size)).toArray=C' at dH
       have qy:C'.size=Ca.size:=by
        rw[eG,oc] at CY
        rw[←wZ];simp;omega
       have NT:(w.setRow b C').heap[b]? =some (.cells C' e (0,0)):=setRow_heap w b Ca C' e _ hh
       have mC: ∀j,j<es.length*P.cellsOf e→C'[j]? =Ca[j]? :=fun j hj=>by
        have ag0:=qx
        rw[eG,oc] at hj ag0
        rw[←wZ,m9,db,kj (by simp;omega),fB hj,ry]
       obtain ⟨a1,a2⟩:=CJ k2 (blk:= .arr e (es++xs) fz) (w':=w.setRow b C') lQ tc (V1 hh NT (Nx hf dX) mC) (fun b' h _=>setRow_other w b b' _ h) (by simp) ⟨rfl,rfl⟩ NG
        (fun b' h=>(dD (h.flat (by simp))).symm) (fun hle=> .arr az rfl NT (by rw[qy,←bG];exact dM _ (by simpa using vf)) (fun _ j h=>gd (Nx hf dX j h) (dM _ (by simp))) dX fun i j y t' a b c=>by
         obtain ⟨v,hv,hp⟩:=dA i j y t' a b c
         refine ⟨v,?_,hp.mono hle.dR hle.cO⟩
         rw[←wZ,m9]
         rw[eG] at hv⊢
         simpa[ot] using hv)
       refine ⟨_,_,_,_,dH,k1.trans a1,a2,?_⟩
       have a3:=aj.whole (P:=P) (w:=w.setRow b C') (I:=I) (β:=a9 β nb (some b)) (hp:=a9 (a9 hp id (some .dead)) nb (some (.arr e (es++xs) fz))) (cap:=cap) (b:=b) (es:=es++xs) (fz:=fz) (id:=nb) (e:=e) (dF _ _ _) (dF _ _ _) (by rw[pc NT,qy,bG]) (by simpa using vf) hm
       rw[cX,lR] at a3
       exact a3
      ·have hold: ∀(j:Nat) v,(Ca.toList.take (es.length*P.cellsOf e))[j]? =some v→w.cell? ((⟨b,0,none⟩:Addr).add j)=some v:=by
        intro j v hj
        have dG:=(bO.1 hj).1
        have cK:j<es.length*P.cellsOf e:=by rw[iU] at dG;omega
        rw[fB cK] at hj
        rw[pg,cell?_cells hh,dE]
        simpa using hj
       have dH:=Lib.run_append_grow_string (P:=P) w t u ty e i z hu qA hi hz ⟨b,0,none⟩ es.length cap (Ca.toList.take (es.length*P.cellsOf e)) (by rw[h3];simp;omega) hold x (by omega) (by omega)
        (growslice_fits (by omega) (by rw[←ov,←lR];simp only[bM] at fq;omega))
       rw[←lR] at dH
       have rQ:=grownCap_ge w (es.length+xs.length) cap e
       have xb:grownCap w (es.length+xs.length) cap e≤maxLen:=grownCap_le_maxLen w _ cap e (by simp only[maxLen];omega)
       have dA:=Ip (P:=P) (w:=w) (I:=I) (n:=es.length) (c:=Ca.toList) rfl (fun i j y t' a b c=>by
        obtain ⟨v,hv,hp⟩:=ow i j y t' a b c
        exact ⟨v,by simpa using hv,hp⟩) IC kY (Builtin.zeroCells z.cells (grownCap w (es.length+xs.length) cap e-(es.length+xs.length))).toList
       obtain ⟨n1,n2,n3⟩:=zX k2.drew (nb:=nb) (cap:=grownCap w (es.length+xs.length) cap e) (es:=es++xs)
        (C0:=(Ca.toList.take (es.length*P.cellsOf e)).toArray++(Lib.strCells x).toArray++Builtin.zeroCells z.cells (grownCap w (es.length+xs.length) cap e-(es.length+xs.length))) az lQ
        (by
         have e1:(Ca.toList.take (es.length*P.cellsOf e)).length=es.length*P.cellsOf e:=by simp;omega
         simp only[Hl,sM,size_zeroCells,h4,Wy,e1,←eC];congr 1;omega) (by simpa using rQ) xb
        (fun i j y t' a b c=>by
         obtain ⟨v,hv,hp⟩:=dA i j y t' a b c
         refine ⟨v,?_,Pure.drew hp⟩
         rw[←ry]
         simpa using hv)
       rw[cX] at n3
       exact ⟨_,_,_,_,dH,(k1.trans (Le.drew w I β _)).trans n1,n2,n3⟩
 | _=>cases h
end
section
variable {P:Program} {w w':World} {I I':Nat→Nat→Prop} {β β':Nat→Option Nat} {hp hp':Nat→Option ah} {C:ab} {B:Nat} {M:Nat→Prop} {w0:Start}
theorem Wz: ∀(ns:List Int) (s:ByteArray),(ns.foldl (fun r n=>r.push (UInt8.ofNat n.toNat)) s).data.toList=s.data.toList++ns.map fun n=>UInt8.ofNat n.toNat
 | [],s=>by simp
 | n::ns,s=>by
  simp only[List.foldl_cons,Wz ns,ki]
  simp[ByteArray.push]
theorem NU {e:TypeId} {u:Value} {x:V} (he:P.underlying e=some (.int .u8)) (hp:Pure P w I e u x):u= .int .u8 x.toInt:=by
 cases hp with
 | int hp'=>rw[he] at hp';cases hp';rfl
 | bool hp'=>rw[he] at hp';cases hp'
 | str hp'=>rw[he] at hp';cases hp'
 | nil hp'=>rw[he] at hp';cases hp'
 | emp hp'=>rw[he] at hp';cases hp'
 | list _ hp'=>rw[he] at hp';cases hp'
theorem ag1 (S:aW P w I β hp B M w0) {src dst e:TypeId} {v:Value} {x:V} {r:R} {rd:List Nat} (hs:P.underlying src=some (.slice e)) (he:P.underlying e=some (.int .u8)) (hd:P.underlying dst=some .string)
  (hv:aj P w I β hp v x) (h:(Rd.aR (dy P e) (uS e x fun es=> .ret ⟨.str (ku es),[]⟩)).run C hp=some (r,rd)):dJ P ((convert src dst v).run P w) w I β hp B M w0 r:=by
 obtain ⟨az,h⟩:=a8 h
 obtain ⟨xs,hx,l,h⟩:=Io S.h.rel az hv h
 obtain rfl:=bp h
 have po:cb P e=false:=by simp[cb,he]
 have h1:P.cellsOf e=1:=by rw[←(mw az).1,CF po];rfl
 rcases hx with ⟨⟨a,rfl⟩,rfl⟩|⟨a,c,news,hr⟩
 ·refine .same S (v:= .string .empty) ?_ (.str (by simp[ku]))
  rw[run_convert_bytes_string w src dst e a 0 0 hs he hd]
  cases a<;>simp[Conv.bytesToString,loadCells,loadCellsFrom]
 ·have Iq:news=(xs.map V.toInt).map (Value.int .u8):=by
   apply BV
   intro j
   by_cases hj:j<xs.length
   ·obtain ⟨u,hu,hp⟩:=hr.el j 0 xs[j] e (bU hj) (by simp[bC,po]) (by omega)
    rw[h1] at hu
    simp only[cl,po,cond_false] at hp
    have gT:news[j]? =some u:=by simpa using hu
    rw[gT]
    have:=NU he hp
    simp[hj,←this]
   ·have hl:news.length=xs.length:=by rw[hr.len,h1];simp
    rw[sL (by omega),sL (by simp;omega)]
  have NV:=run_loadCells_list (P:=P) w a news hr.cell
  have hl:news.length=xs.length:=by rw[hr.len,h1];simp
  rw[hl] at NV
  rw[Iq] at NV
  refine .same S (v:= .string ((xs.map V.toInt).foldl (fun r n=>r.push (UInt8.ofNat n.toNat)) ByteArray.empty)) ?_ (.str ?_)
  ·rw[hr.val,run_convert_bytes_string w src dst e _ _ _ hs he hd]
   exact run_bytesToString w a xs.length c (xs.map V.toInt) NV
  ·rw[Wz]
   simp[ku]
theorem aj.ID {v:Value} (h:aj P w I β hp v .ee):v= .pointer none:=by cases h;rfl
section
variable (w:World)
theorem ag2 (t e:TypeId) (a:Addr) (h:P.underlying t=some (.pointer e)):(binOp .eql t (.pointer (some a)) (.pointer none)).run P w= .ok (.bool false) w:=by
 have h0: ∀d:Nat,(Op.equalIn (d+1) t (.pointer (some a)) (.pointer none)).run P w= .ok false w:=fun d=>by simp[Op.equalIn,run_underlying h]
 simp only[binOp]
 simp[Op.equal,Op.maxDepth,h0 9999]
theorem ag3 (t e:TypeId) (a:Addr) (h:P.underlying t=some (.pointer e)):(binOp .neq t (.pointer (some a)) (.pointer none)).run P w= .ok (.bool (!false)) w:=by
 have h0: ∀d:Nat,(Op.equalIn (d+1) t (.pointer (some a)) (.pointer none)).run P w= .ok false w:=fun d=>by simp[Op.equalIn,run_underlying h]
 simp only[binOp]
 simp[Op.equal,Op.maxDepth,h0 9999]
theorem ag4 (t e:TypeId) (a:Addr) (h:P.underlying t=some (.pointer e)):(binOp .eql t (.pointer none) (.pointer (some a))).run P w= .ok (.bool false) w:=by
 have h0: ∀d:Nat,(Op.equalIn (d+1) t (.pointer none) (.pointer (some a))).run P w= .ok false w:=fun d=>by simp[Op.equalIn,run_underlying h]
 simp only[binOp]
 simp[Op.equal,Op.maxDepth,h0 9999]
theorem ag5 (t e:TypeId) (a:Addr) (h:P.underlying t=some (.pointer e)):(binOp .neq t (.pointer none) (.pointer (some a))).run P w= .ok (.bool (!false)) w:=by
 have h0: ∀d:Nat,(Op.equalIn (d+1) t (.pointer none) (.pointer (some a))).run P w= .ok false w:=fun d=>by simp[Op.equalIn,run_underlying h]
 simp only[binOp]
 simp[Op.equal,Op.maxDepth,h0 9999]
theorem ag6 (t e:TypeId) (h:P.underlying t=some (.pointer e)):(binOp .eql t (.pointer none) (.pointer none)).run P w= .ok (.bool true) w:=by
 have h0: ∀d:Nat,(Op.equalIn (d+1) t (.pointer none) (.pointer none)).run P w= .ok true w:=fun d=>by simp[Op.equalIn,run_underlying h]
 simp only[binOp]
 simp[Op.equal,Op.maxDepth,h0 9999]
theorem ag7 (t e:TypeId) (h:P.underlying t=some (.pointer e)):(binOp .neq t (.pointer none) (.pointer none)).run P w= .ok (.bool (!true)) w:=by
 have h0: ∀d:Nat,(Op.equalIn (d+1) t (.pointer none) (.pointer none)).run P w= .ok true w:=fun d=>by simp[Op.equalIn,run_underlying h]
 simp only[binOp]
 simp[Op.equal,Op.maxDepth,h0 9999]
end
theorem IE (S:aW P w I β hp B M w0) {op:BinOp} {t:TypeId} {b:Bool} {x y:Operand} {v1 v2:Value} {r:R} {rd:List Nat} (h:(ptrEq P op t b).run C hp=some (r,rd)) (hg:(eqGuard op t x y v1 v2).run P w= .ok () w)
  (he: ∀e j,P.underlying t=some (.pointer e)→P.info? e=some j→(binOp .eql t v1 v2).run P w= .ok (.bool b) w∧(binOp .neq t v1 v2).run P w= .ok (.bool (!b)) w):
  dJ P ((do eqGuard op t x y v1 v2;binOp op t v1 v2:Sem Value).run P w) w I β hp B M w0 r:=by
 unfold ptrEq at h
 cases hu:P.underlying t with
 | none=>rw[hu] at h;cases h
 | some d=>
  rw[hu] at h
  cases d<;>simp only at h<;>first|(cases h;done)|skip
  rename_i e
  obtain ⟨h1,h2⟩:=a8 h
  obtain ⟨j,hj⟩:=Option.isSome_iff_exists.1 h1
  obtain ⟨k1,k2⟩:=he e j hu hj
  cases op<;>simp only at h2<;>first|(cases h2;done)|skip
  ·obtain rfl:=bp h2
   exact .same S (by simp only[Sem.run_bind,hg,Result.andThen_ok,k1]) .bool
  ·obtain rfl:=bp h2
   exact .same S (by simp only[Sem.run_bind,hg,Result.andThen_ok,k2]) .bool
theorem ag8 {b n:Nat}:(∀b',b'≠b→(w.freeze ⟨b,0,none⟩ n).heap[b']? =w.heap[b']?)∧bsize (w.freeze ⟨b,0,none⟩ n) b=bsize w b∧w.heap.size≤(w.freeze ⟨b,0,none⟩ n).heap.size∧(w.freeze ⟨b,0,none⟩ n).os=w.os∧(w.freeze ⟨b,0,none⟩ n).output=w.output:=by
 unfold World.freeze
 split
 ·exact ⟨fun _ _=>rfl,rfl,aw _,rfl,rfl⟩
 ·refine ⟨fun b' hb=> ?_,?_,by simp,rfl,rfl⟩
  ·simp only[BU]
   rw[ag (fun e=>hb e.symm)]
  ·simp only[bsize,BU,jO]
   cases w.heap[b]? with
   | none=>rfl
   | some o=>cases o<;>rfl
theorem ag9 {e:TypeId} (hb:isByte P e=true):P.underlying e=some (.int .u8):=by
 unfold isByte at hb
 split at hb
 ·assumption
 ·cases hb
theorem aha (S:aW P w I β hp B M w0) {ts:Array TypeId} {ty e:TypeId} {v:Value} {id:Nat} {es:List V} {fz:Bool} (hv:aj P w I β hp v (.whole e id)) (ae:hp id=some (.arr e es fz)) (h0:0<es.length):
  dJ P ((Builtin.unsafeSliceData_ ts ty #[v]).run P w) w I β hp B M w0 ⟨.ptr id 0 0,[]⟩:=by
 cases hv with
 | eS h=>rw[ae] at h;cases h
 | eF h _=>rw[ae] at h;cases h;simp at h0
 | e8 h _ _ _ _=>rw[ae] at h;cases h
 | @whole _ _ bj o8 b cap h hb cJ hle hm=>
  rw[ae] at h;cases h
  refine .same S (Lib.run_unsafeSliceData_row w ts ty ⟨b,0,none⟩ es.length cap (by omega)) ?_
  have:=aj.ptr (P:=P) (w:=w) (I:=I) (β:=β) (i:=0) (c:=0) ae (by simp) hb
  simpa using this
theorem ahb (S:aW P w I β hp B M w0) {t u ty e:TypeId} {vx:Value} {id:Nat} {n:Int} {es:List V} (hu:P.underlying t=some (.pointer e)) (hb:isByte P e=true) (hv:aj P w I β hp vx (.ptr id 0 0))
  (ae:hp id=some (.arr e es false)) (h0:0<n) (hn:n≤es.length) (hm:n.toNat≤wA) (eu:(es.take n.toNat).all MQ=true):dJ P ((Builtin.unsafeString_ #[t,u] ty #[vx,.int .i64 n]).run P w) w I β hp B M w0 ⟨.str (ku (es.take n.toNat)),[(id,.dead)]⟩:=by
 obtain ⟨b,NW,rfl⟩:=hv.jc ae (by simp)
 have he:P.underlying e=some (.int .u8):=by
  unfold isByte at hb
  split at hb
  ·assumption
  ·cases hb
 have po:cb P e=false:=by simp[cb,he]
 have hr:=S.h.rel id _ ae
 rw[NW] at hr
 cases hr with
 | eh aI=>cases aI
 | @arr _ _ _ b1 Ca az kY hh hs hI dv dA=>
  cases kY
  have h1:P.cellsOf e=1:=by rw[←(mw az).1,CF po];rfl
  have bx:=S.afL ae (by simp) NW
  have hl:(ku (es.take n.toNat)).length=n.toNat:=by simp[ku];omega
  have C7:n=((ku (es.take n.toNat)).length:Nat):=by rw[hl];omega
  have dH:=Lib.run_unsafeString_row (P:=P) w t u ty e hu h1 b Ca.size (by simp[World.shape?,hh]) (ku (es.take n.toNat)) (fun h=>by rw[h] at hl;simp at hl;omega) (by rw[hl];rw[h1] at hs;omega) (by rw[hl];unfold wA at hm;omega) (fun j x hx=>by
   have hj:j<n.toNat:=by
    have:=(bO.1 hx).1
    rw[hl] at this;exact this
   have jy:j<es.length:=by omega
   simp only[ku,eZ,fB hj,bU jy,Option.map_some,eE] at hx
   obtain ⟨v,zY,bQ⟩:=dA j 0 es[j] e (bU jy) (by simp[bC,po]) (by omega)
   rw[h1] at zY
   simp only[cl,po,cond_false] at bQ
   have:=NU he bQ
   have hr:=gv.1 eu es[j] (jN (by rw[fB hj];exact bU jy))
   simp only[MQ,bn,dW] at hr
   have pj:(x.toNat:Int)=es[j].toInt:=by
    rw[←hx]
    have:es[j].toInt.toNat<256:=by omega
    simp only[UInt8.toNat_ofNat']
    omega
   rw[pg,cell?_cells hh,pj]
   rw[show 0+j=j*1+0 by omega,zY,this])
  obtain ⟨f1,f2,f3,f4,f5⟩:=ag8 (w:=w) (b:=b) (n:=n.toNat)
  obtain ⟨k1,k2⟩:=H2 (w':=w.freeze ⟨b,0,none⟩ n.toNat) S ae (by simp) (blk':= .dead) (by trivial) NW (dv rfl) (by simp) f1 f2 f3 ⟨f4,f5⟩ (fun _=> .dead)
  rw[←C7,hl] at dH
  refine ⟨.string ⟨(ku (es.take n.toNat)).toArray⟩,_,I,β,?_,k1,k2,.str ?_⟩
  ·simpa using dH
  ·rfl
def NX:Op→Bool
 | .call {callee:= .value (.func _),..}=>true
 | .call {callee:= .value (.tmp _),..}=>true
 | .defer _=>true
 | _=>false
theorem rL.val {o:Oper} {a:Act} {s:Sem Value} {r:R} (he:execOp a.eval o=(do Pure.pure (Next.value (←s)))) (h:dJ P (s.run P w) w I β hp B M w0 r):rL P ((execOp a.eval o).run P w) w I β hp B M w0 r:=by
 rw[he];exact h.op
theorem ahc {A:dg} (S:aW P w I β hp B M w0) (hg:iC P A.aU w I) {a:Act} {sl:Nat→V} (hs:mr P w I β hp a sl) {ix nb:Nat} {o:Oper} (NY:NX o.op=false) {r:R} {rd:List Nat}
  (h:(gA P A sl ix nb o).run C hp=some (r,rd)):rL P ((execOp a.eval o).run P w) w I β hp B M w0 r:=by
 obtain ⟨dst,op,ty,pos,after,guard⟩:=o
 cases op<;>simp only[gA] at h<;>first|(cases h;done)|skip
 case move x=>
  obtain rfl:=bp h
  exact ⟨_,w,I,β,.inl (by simp[execOp]),Le.refl w I β hp,S,hs.ev hg ty x⟩
 case assign x=>
  obtain rfl:=bp h
  exact ⟨_,w,I,β,.inl (by simp[execOp]),Le.refl w I β hp,S,hs.ev hg ty x⟩
 case pick c x y=>
  have hc:=hs.ev hg ty c
  cases w6:bq P A.aU ty sl c<;>rw[w6] at h hc<;>simp only at h<;>first|(cases h;done)|skip
  rename_i t
  have ahd:=hc.kW
  have hx:=hs.ev hg ty x
  have hy:=hs.ev hg ty y
  have fin: ∀z:V,aj P w I β hp (if t then a.eval x else a.eval y) z→rL P ((execOp a.eval ⟨dst,.pick c x y,ty,pos,after,guard⟩).run P w) w I β hp B M w0 ⟨z,[]⟩:=by
   intro z hz
   exact ⟨_,w,I,β,.inl (by simp[execOp,ahd,asBool]),Le.refl w I β hp,S,hz⟩
  cases IF:gone (bq P A.aU ty sl x) with
  | true=>
   rw[IF] at h
   obtain ⟨h1,h⟩:=a8 h
   obtain rfl:=bp h
   have:t=false:=by simpa using h1
   subst this
   refine fin _ ?_
   simpa using hy
  | false=>
   rw[IF] at h
   simp only[cond_false] at h
   cases WA:gone (bq P A.aU ty sl y) with
   | true=>
    rw[WA] at h
    obtain ⟨h1,h⟩:=a8 h
    obtain rfl:=bp h
    subst h1
    refine fin _ ?_
    simpa using hx
   | false=>
    rw[WA] at h
    obtain rfl:=bp h
    exact fin _ (Vs hx hy)
 case makeFunc fn x y=>
  cases fn<;>simp only[gA] at h<;>first|(cases h;done)|skip
  rename_i f
  obtain rfl:=bp h
  refine ⟨.func (.func f) (x.map a.eval) (y.map a.eval),w,I,β,.inl (by simp[execOp,Instr.makeFunc]),Le.refl w I β hp,S,.fn (by simp) (fun j v z hj hz=> ?_) (by simp) (fun j v z hj hz=> ?_)⟩
  ·rw[Array.getElem?_map] at hj
   rw[eZ,ry] at hz
   cases hx:x[j]? with
   | none=>rw[hx] at hj;cases hj
   | some o1=>
    rw[hx] at hj hz
    cases hj
    cases hz
    exact hs.ev hg ty o1
  ·rw[Array.getElem?_map] at hj
   rw[eZ,ry] at hz
   cases hx:y[j]? with
   | none=>rw[hx] at hj;cases hj
   | some o1=>
    rw[hx] at hj hz
    cases hj
    cases hz
    exact hs.ev hg ty o1
 case defer c=>cases NY
 case makeMap t res=>
  cases res with
  | some x=>cases h
  | none=>exact .val rfl (agQ S h)
 case lookup t m k ok=>
  cases ht:ni P t with
  | none=>rw[ht] at h;cases h
  | some q=>
   obtain ⟨kt,vt⟩:=q
   rw[ht] at h
   exact .val (s:=Instr.lookup t (a.eval m) (a.eval k) ok) rfl (agP S ht (hs.ev hg t m) (hs.ev hg kt k) h)
 case mapUpdate t m k x=>
  cases ht:ni P t with
  | none=>rw[ht] at h;cases h
  | some q=>
   obtain ⟨kt,vt⟩:=q
   rw[ht] at h
   have:=Wt S ht (hs.ev hg t m) (hs.ev hg kt k) (hs.ev hg vt x) h
   exact this.op
 case insert t m k x=>
  cases ht:ni P t with
  | none=>rw[ht] at h;cases h
  | some q=>
   obtain ⟨kt,vt⟩:=q
   rw[ht] at h
   have:=Wt S ht (hs.ev hg t m) (hs.ev hg kt k) (hs.ev hg vt x) h
   exact this.op
 case alloc e=>
  exact .val rfl (agh S h)
 case box e x=>
  exact .val rfl (agi S (hs.ev hg e x) h)
 case build t ps=>exact .val rfl (agk S hs hg h)
 case buildSlice t len ps=>
  cases hu:P.underlying t with
  | none=>rw[hu] at h;cases h
  | some d=>
   rw[hu] at h
   cases d<;>simp only at h<;>first|(cases h;done)|skip
   exact .val rfl (agq S hs hg hu h)
 case load t x=>exact .val rfl (afZ S (hs.ev hg ty x) h)
 case store t x y=>
  have:=agf S (hs.ev hg ty x) (hs.ev hg t y) h
  exact this.op
 case nilCheck x=>
  have hx:=hs.ev hg ty x
  cases gm:bq P A.aU ty sl x<;>rw[gm] at h hx<;>simp only at h<;>first|(cases h;done)|skip
  ·obtain ⟨⟨blk,ae,hd⟩,l,h⟩:=zJ h
   obtain rfl:=bp h
   have dj:=hx
   obtain ⟨b,hb,he⟩:=hx.jc ae hd
   rw[he] at dj
   exact ⟨_,w,I,β,.inl (by simp only[execOp,he];rfl),Le.refl w I β hp,S,dj⟩
  ·obtain rfl:=bp h
   have dj:=hx
   obtain ⟨b,o,he,_⟩:=hx.H5
   rw[he] at dj
   exact ⟨_,w,I,β,.inl (by simp only[execOp,he];rfl),Le.refl w I β hp,S,dj⟩
  ·obtain ⟨e0,es,an,l,ae,h1,h2,h3,h⟩:=qp h
   obtain rfl:=bp h
   have dj:=hx
   obtain ⟨b,o,he,_⟩:=hx.Vp ae h1 h2 h3
   rw[he] at dj
   exact ⟨_,w,I,β,.inl (by simp only[execOp,he];rfl),Le.refl w I β hp,S,dj⟩
 case binOp op t x y yt=>
  have hx:=hs.ev hg t x
  have hy:=hs.ev hg t y
  refine .val (s:=do eqGuard op t x y (a.eval x) (a.eval y);binOp op t (a.eval x) (a.eval y)) rfl ?_
  cases gm:bq P A.aU t sl x<;>cases vh:bq P A.aU t sl y<;>rw[gm,vh] at h<;>rw[gm] at hx<;>rw[vh] at hy<;>first|(simp only[lC] at h;cases h;done)|skip
  ·rw[hx.fa,hy.fa]
   have:=afQ S h
   simpa[afN] using this
  ·rw[hx.kW,hy.kW]
   have:=afS S h
   simpa[afO] using this
  ·obtain ⟨s1,e1,l1⟩:=hx.oo
   obtain ⟨s2,e2,l2⟩:=hy.oo
   rw[e1,e2]
   rw[←l1,←l2] at h
   have:=afT (t:=t) S h
   simpa[afP] using this
  ·obtain ⟨cs,e1,h1,h2⟩:=hx.my
   obtain ⟨ds,e2,h3,h4⟩:=hy.my
   rw[e1,e2]
   exact afU S h1 h3 h2 h4 h
  ·
   simp only[lC] at h
   obtain ⟨h1,h2⟩:=a8 h
   clear h
   simp only[bn,bB] at h1
   obtain ⟨rfl,rfl,rfl⟩:=h1
   obtain ⟨⟨blk,ae,hd⟩,l,h⟩:=zJ h2
   obtain ⟨b,hb,e1⟩:=hx.jc ae hd
   obtain ⟨b',aI,e2⟩:=hy.jc ae hd
   rw[hb] at aI;cases aI
   rw[e1,e2]
   exact IE S h (by cases op<;>simp[eqGuard]) fun e j he hj=>⟨run_eql_ptr_same w _ he hj,Lib.run_neq_ptr_same w _ he hj⟩
  ·simp only[lC] at h
   obtain ⟨⟨blk,ae,hd⟩,l,h⟩:=zJ h
   obtain ⟨b,_,e1⟩:=hx.jc ae hd
   rw[e1,hy.ID]
   exact IE S h (by cases op<;>simp[eqGuard]) fun e j he hj=>⟨ag2 w t e _ he,ag3 w t e _ he⟩
  ·simp only[lC] at h
   obtain ⟨⟨blk,ae,hd⟩,l,h⟩:=zJ h
   obtain ⟨b,_,e1⟩:=hy.jc ae hd
   rw[e1,hx.ID]
   exact IE S h (by cases op<;>simp[eqGuard]) fun e j he hj=>⟨ag4 w t e _ he,ag5 w t e _ he⟩
  ·simp only[lC] at h
   rw[hx.ID,hy.ID]
   exact IE S h (by cases op<;>simp[eqGuard]) fun e j he hj=>⟨ag6 w t e he,ag7 w t e he⟩
  ·
   simp only[lC] at h
   obtain ⟨l,h⟩:=run_get h
   split at h
   ·rename_i t2 es ae
    obtain ⟨b,hb⟩:=hx.agU ae
    rw[hy.NS,hb]
    exact Ww (a:=some b) S x y h
   ·cases h
  ·simp only[lC] at h
   rw[hx.NS,hy.NS]
   exact Ww (a:=none) S x y h
 case unOp op t x=>exact .val rfl (afV S (hs.ev hg ty x) h)
 case convert src dst x=>
  have hx:=hs.ev hg ty x
  refine .val (s:=convert src dst (a.eval x)) rfl ?_
  cases kV:P.underlying src with
  | none=>rw[kV] at h;cases h
  | some d1=>
   cases lb:P.underlying dst with
   | none=>rw[kV,lb] at h;cases d1<;>cases h
   | some d2=>
    rw[kV,lb] at h
    have iB: ∀{b:Nat} {T:TypeId} {cs:List V} {id:Nat},hp id=some (.var T cs)→β id=some b→w.shape? b=some (T,cs.length):=by
     intro b T cs id ae hb
     have hr:=S.h.rel id _ ae
     rw[hb] at hr
     cases hr with
     | var aI hh bG _ _ _=>cases aI;simp[World.shape?,hh,bG]
    cases d1<;>(try (cases d2<;>cases h;done))
    ·cases d2<;>(try (cases h;done))
     rename_i k1 k2
     cases gm:bq P A.aU ty sl x<;>rw[gm] at h hx<;>simp only at h<;>first|(cases h;done)|skip
     obtain rfl:=bp h
     rw[hx.fa]
     exact .same S (by simp[convert,run_underlying kV,run_underlying lb,Conv.intToInt]) .int
    ·cases d2<;>(try (cases h;done))
     rename_i u
     cases gm:bq P A.aU ty sl x<;>rw[gm] at h hx<;>simp only at h<;>first|(cases h;done)|skip
     rename_i id i c
     obtain ⟨l,h1⟩:=run_get h
     cases ae:hp id with
     | none=>rw[ae] at h1;cases h1
     | some blk=>
      rw[ae] at h1
      cases blk<;>simp only at h1<;>first|(cases h1;done)|skip
      rename_i T cs
      obtain ⟨h2,h3⟩:=a8 h1
      simp only[bn,bB] at h2
      obtain ⟨rfl,h4,h5⟩:=h2
      obtain ⟨b,hb,e1⟩:=hx.jc ae (by simp)
      obtain rfl:=bp h3
      obtain ⟨j,hj⟩:=Option.isSome_iff_exists.1 h4
      have dj:=hx
      rw[e1] at dj⊢
      exact .same S (Lib.run_from_unsafe w _ kV lb hj (iB ae hb) (by simpa using h5)) dj
    ·cases d2<;>(try (cases h;done))
     rename_i t
     cases gm:bq P A.aU ty sl x<;>rw[gm] at h hx<;>simp only at h<;>first|(cases h;done)|skip
     rename_i id i c
     obtain ⟨l,h1⟩:=run_get h
     cases ae:hp id with
     | none=>rw[ae] at h1;cases h1
     | some blk=>
      rw[ae] at h1
      cases blk<;>simp only at h1<;>first|(cases h1;done)|skip
      rename_i T cs
      obtain ⟨h2,h3⟩:=a8 h1
      simp only[bn,bB,ly] at h2
      obtain ⟨rfl,h4,h5⟩:=h2
      obtain ⟨b,hb,e1⟩:=hx.jc ae (by simp)
      obtain rfl:=bp h3
      cases hj:P.info? t with
      | none=>rw[hj] at h5;cases h5
      | some j=>
       rw[hj] at h5
       simp only[oY] at h5
       have h6:j.size≠0:=fun e=>by rw[e] at h5;cases h5
       have dj:=hx
       rw[e1] at dj⊢
       exact .same S (Lib.run_to_unsafe w _ kV lb hj h6 (iB ae hb) (by simpa using h4)) dj
    ·rename_i e
     cases d2<;>(try (cases h;done))
     simp only at h
     cases he:P.underlying e with
     | none=>rw[he] at h;cases h
     | some d3=>
      rw[he] at h
      cases d3<;>(try (cases h;done))
      rename_i k
      cases k<;>(try (cases h;done))
      exact ag1 S kV he lb hx h
 case fieldAddr s x f=>exact .val rfl (afW S (hs.ev hg ty x) h)
 case field s x f=>exact .val rfl (agC S (hs.ev hg ty x) h)
 case indexAddr t x y=>exact .val rfl (agI S (hs.ev hg ty x) (hs.ev hg 0 y) h)
 case index t x y=>
  have hx:=hs.ev hg ty x
  have hy:=hs.ev hg 0 y
  refine .val (s:=Instr.index t (a.eval x) (a.eval y)) rfl ?_
  cases hu:P.underlying t with
  | none=>rw[hu] at h;cases h
  | some d=>
   rw[hu] at h
   cases d<;>(try (cases h;done))
   cases gm:bq P A.aU ty sl x<;>rw[gm] at h hx<;>(try (cases h;done))
   cases vh:bq P A.aU 0 sl y<;>rw[vh] at h hy<;>(try (cases h;done))
   obtain ⟨s,e1,l1⟩:=hx.oo
   rw[e1,hy.fa]
   exact agE S hu l1 h
 case slice t x lo hi mx=>
  cases mx with
  | some m=>
   simp only at h
   refine .val (s:=Instr.sliceAt t (a.eval x) (lo.map a.eval) (hi.map a.eval) (some (a.eval m))) (by simp[execOp]) (agH S (hs.ev hg ty x) (fun hy=> ?_) (fun y hy=> ?_) (fun y hy=> ?_) h)
   ·cases lo with
    | none=>rfl
    | some l=>cases hy
   ·cases hi with
    | none=>cases hy
    | some l=>cases hy;exact ⟨_,rfl,hs.ev hg 0 l⟩
   ·cases hy;exact ⟨_,rfl,hs.ev hg 0 m⟩
  | none=>
   simp only at h
   have plain:(HH P t (bq P A.aU ty sl x) (lo.map (bq P A.aU 0 sl)) (hi.map (bq P A.aU 0 sl))).run C hp=some (r,rd)→rL P ((execOp a.eval ⟨dst,.slice t x lo hi none,ty,pos,after,guard⟩).run P w) w I β hp B M w0 r:=by
    intro h
    refine .val (s:=Instr.sliceAt t (a.eval x) (lo.map a.eval) (hi.map a.eval) none) (by simp[execOp]) (agG S (hs.ev hg ty x) (fun y hy=> ?_) (fun y hy=> ?_) (fun hy=> ?_) (fun hy=> ?_) h)
    ·cases lo with
     | none=>cases hy
     | some l=>cases hy;exact ⟨_,rfl,hs.ev hg 0 l⟩
    ·cases hi with
     | none=>cases hy
     | some l=>cases hy;exact ⟨_,rfl,hs.ev hg 0 l⟩
    ·cases lo with
     | none=>rfl
     | some l=>cases hy
    ·cases hi with
     | none=>rfl
     | some l=>cases hy
   have tr:(HI P nb t (bq P A.aU ty sl x) (lo.map (bq P A.aU 0 sl)) (hi.map (bq P A.aU 0 sl))).run C hp=some (r,rd)→rL P ((execOp a.eval ⟨dst,.slice t x lo hi none,ty,pos,after,guard⟩).run P w) w I β hp B M w0 r:=by
    intro h
    refine .val (s:=Instr.sliceAt t (a.eval x) (lo.map a.eval) (hi.map a.eval) none) (by simp[execOp]) (agL S (hs.ev hg ty x) (fun y hy=> ?_) (fun hy=> ?_) h)
    ·cases hi with
     | none=>cases hy
     | some l=>cases hy;exact ⟨_,rfl,hs.ev hg 0 l⟩
    ·cases lo with
     | none=>rfl
     | some l=>cases hy
   cases dst with
   | none=>exact plain h
   | some d=>
    simp only at h
    cases z6:ko A.zp d with
    | true=>rw[z6] at h;exact tr h
    | false=>rw[z6] at h;exact plain h
 case extract x i=>
  have hx:=hs.ev hg ty x
  cases gm:bq P A.aU ty sl x<;>rw[gm] at h hx<;>simp only at h<;>first|(cases h;done)|skip
  exact .val (s:=Instr.extract (a.eval x) i) rfl (agD S hx h)
 case makeSlice t l c=>
  have hl:=hs.ev hg 0 l
  have hc:=hs.ev hg 0 c
  refine .val (s:=Instr.makeSlice t (a.eval l) (a.eval c)) rfl ?_
  cases hu:P.underlying t with
  | none=>rw[hu] at h;cases h
  | some d=>
   rw[hu] at h
   cases d<;>(try (cases h;done))
   cases NZ:bq P A.aU 0 sl l<;>rw[NZ] at h hl<;>(try (cases h;done))
   cases w6:bq P A.aU 0 sl c<;>rw[w6] at h hc<;>(try (cases h;done))
   rw[hl.fa,hc.fa]
   cases dst with
   | none=>exact V4 S hu h
   | some d=>
    simp only at h
    cases hg:ko A.zp d with
    | true=>rw[hg] at h;exact ags S hu h
    | false=>rw[hg] at h;exact V4 S hu h
 case call c=>
  obtain ⟨callee,args,argTypes⟩:=c
  cases callee with
  | invoke r m=>cases h
  | value f=>
   cases f with
   | func f=>cases NY
   | tmp f=>cases NY
   | _=>cases h
  | builtin b=>
   have one: ∀{x:Operand},args.toList=[x]→args= #[x]:=fun h=>by rw[←Array.toArray_toList (xs:=args),h]
   have tu: ∀(s:Array TypeId→TypeId→Array Value→Sem Value),builtin b argTypes ty (args.map fun| .const _=>true|_=>false) (args.map a.eval)=(do Pure.pure (Next.value (←s argTypes ty (args.map a.eval))))→
     execOp a.eval ⟨dst,.call ⟨.builtin b,args,argTypes⟩,ty,pos,after,guard⟩=(do Pure.pure (Next.value (←s argTypes ty (args.map a.eval)))):=by
    intro s hb
    simp only[execOp,resolve,pure_bind,invoke]
    exact hb
   cases b<;>(try (cases h;done))
   case append=>
    simp only at h
    cases ha:args.toList with
    | nil=>rw[ha] at h;cases h
    | cons x l=>
     cases l with
     | nil=>rw[ha] at h;cases h
     | cons y l2=>
      cases l2 with
      | cons _ _=>rw[ha] at h;cases h
      | nil=>
       cases dY:argTypes.toList with
       | nil=>rw[ha,dY] at h;cases h
       | cons t l3=>
        cases l3 with
        | nil=>rw[ha,dY] at h;cases h
        | cons u l4=>
         cases l4 with
         | cons _ _=>rw[ha,dY] at h;cases h
         | nil=>
          rw[ha,dY] at h
          simp only at h
          have e1:args= #[x,y]:=by rw[←Array.toArray_toList (xs:=args),ha]
          have e2:argTypes= #[t,u]:=by rw[←Array.toArray_toList (xs:=argTypes),dY]
          cases hu:P.underlying t with
          | none=>rw[hu] at h;cases h
          | some d=>
           rw[hu] at h
           cases d<;>(try (cases h;done))
           cases hc:Nat.beq t u with
           | true=>
            rw[hc] at h
            rw[bB] at hc
            subst hc
            have:=agu (ty:=ty) S hu (hs.ev hg t x) (hs.ev hg t y) h
            refine .val (tu Builtin.append_ rfl) ?_
            rw[e1,e2]
            simpa using this
           | false=>
            rw[hc] at h
            simp only[cond_false] at h
            have hy:=hs.ev hg u y
            cases qA:P.underlying u with
            | none=>rw[qA] at h;cases h
            | some du=>
             rw[qA] at h
             cases du<;>(try (cases h;done))
             cases vh:bq P A.aU u sl y<;>rw[vh] at h hy<;>(try (cases h;done))
             simp only at h
             obtain ⟨hb,h⟩:=a8 h
             obtain ⟨s1,q1,q2⟩:=hy.oo
             subst q2
             have:=agZ (ty:=ty) S hu qA (ag9 hb) (hs.ev hg t x) h
             refine .val (tu Builtin.append_ rfl) ?_
             rw[e1,e2]
             simpa[q1] using this
   case len=>
    simp only at h
    cases ha:args.toList with
    | nil=>rw[ha] at h;cases h
    | cons x l=>
     cases l with
     | cons _ _=>rw[ha] at h;cases h
     | nil=>
      cases dY:argTypes.toList with
      | nil=>rw[ha,dY] at h;cases h
      | cons t l3=>
       cases l3 with
       | cons _ _=>rw[ha,dY] at h;cases h
       | nil=>
        rw[ha,dY] at h
        simp only at h
        have e1:args= #[x]:=by rw[←Array.toArray_toList (xs:=args),ha]
        have e2:argTypes= #[t]:=by rw[←Array.toArray_toList (xs:=argTypes),dY]
        have hx:=hs.ev hg ty x
        refine .val (tu Builtin.len_ rfl) ?_
        rw[e1,e2]
        cases hu:P.underlying t with
        | none=>rw[hu] at h;cases h
        | some d=>
         rw[hu] at h
         cases d<;>(try (cases h;done))
         ·cases gm:bq P A.aU ty sl x<;>rw[gm] at h hx<;>(try (cases h;done))
          have:=Vt (t:=t) (ty:=ty) S hx (fun l hl=>hu) (fun hn=>absurd rfl (hn _)) h
          simpa using this
         ·have h2:(∀l,bq P A.aU ty sl x≠ .str l)∧(HC P (bq P A.aU ty sl x)).run C hp=some (r,rd):=by
           cases gm:bq P A.aU ty sl x<;>rw[gm] at h<;>first|(cases h;done)|exact ⟨fun l=>by simp,h⟩
          have:=Vt (t:=t) (ty:=ty) S hx (fun l hl=>absurd hl (h2.1 l)) (fun _=>⟨_,hu⟩) h2.2
          simpa using this
         ·have h2:(HG (bq P A.aU ty sl x)).run C hp=some (r,rd):=by
           cases gm:bq P A.aU ty sl x<;>rw[gm] at h<;>exact h
          have:=agT (t:=t) (ty:=ty) S hu hx h2
          simpa using this
   case unsafeSliceData=>
    simp only at h
    cases ha:args.toList with
    | nil=>rw[ha] at h;cases h
    | cons x l=>
     cases l with
     | cons _ _=>rw[ha] at h;cases h
     | nil=>
      rw[ha] at h
      simp only at h
      have e1:args= #[x]:=by rw[←Array.toArray_toList (xs:=args),ha]
      have hx:=hs.ev hg ty x
      refine .val (tu Builtin.unsafeSliceData_ rfl) ?_
      rw[e1]
      cases gm:bq P A.aU ty sl x<;>rw[gm] at h hx<;>simp only at h<;>first|(cases h;done)|skip
      rename_i e id
      obtain ⟨l2,h1⟩:=run_get h
      cases ae:hp id with
      | none=>rw[ae] at h1;cases h1
      | some blk=>
       rw[ae] at h1
       cases blk<;>simp only at h1<;>first|(cases h1;done)|skip
       rename_i e' es fz
       obtain ⟨h2,h3⟩:=a8 h1
       simp only[bn,bB,ly] at h2
       obtain ⟨rfl,h4⟩:=h2
       obtain rfl:=bp h3
       have:=aha (ts:=argTypes) (ty:=ty) S hx ae h4
       simpa using this
   case unsafeString=>
    simp only at h
    cases ha:args.toList with
    | nil=>rw[ha] at h;cases h
    | cons x l=>
     cases l with
     | nil=>rw[ha] at h;cases h
     | cons y l2=>
      cases l2 with
      | cons _ _=>rw[ha] at h;cases h
      | nil=>
       cases dY:argTypes.toList with
       | nil=>rw[ha,dY] at h;cases h
       | cons t l3=>
        cases l3 with
        | nil=>rw[ha,dY] at h;cases h
        | cons u l4=>
         cases l4 with
         | cons _ _=>rw[ha,dY] at h;cases h
         | nil=>
          rw[ha,dY] at h
          simp only at h
          have e1:args= #[x,y]:=by rw[←Array.toArray_toList (xs:=args),ha]
          have e2:argTypes= #[t,u]:=by rw[←Array.toArray_toList (xs:=argTypes),dY]
          have hx:=hs.ev hg ty x
          have hy:=hs.ev hg ty y
          cases hu:P.underlying t with
          | none=>rw[hu] at h;cases h
          | some d=>
           rw[hu] at h
           cases d<;>(try (cases h;done))
           rename_i e
           cases gm:bq P A.aU ty sl x<;>rw[gm] at h hx<;>(try (cases h;done))
           cases vh:bq P A.aU ty sl y<;>rw[vh] at h hy<;>(try (cases h;done))
           rename_i id i c k n
           cases k<;>(try (cases h;done))
           simp only at h
           obtain ⟨l2,h1⟩:=run_get h
           cases ae:hp id with
           | none=>rw[ae] at h1;cases h1
           | some blk=>
            rw[ae] at h1
            cases blk<;>simp only at h1<;>first|(cases h1;done)|skip
            rename_i e' es fz
            cases fz<;>simp only at h1<;>first|(cases h1;done)|skip
            obtain ⟨h2,h3⟩:=a8 h1
            simp only[bn,bB,fC,dW] at h2
            obtain ⟨rfl,h4,rfl,rfl,h5,h6,h7,h8⟩:=h2
            obtain rfl:=bp h3
            have:=ahb (u:=u) (ty:=ty) S hu h4 hx ae h5 h6 h7 h8
            refine .val (tu Builtin.unsafeString_ rfl) ?_
            rw[e1,e2]
            simpa[hy.fa] using this
   case copy=>
    simp only at h
    cases ha:args.toList with
    | nil=>rw[ha] at h;cases h
    | cons x l=>
     cases l with
     | nil=>rw[ha] at h;cases h
     | cons y l2=>
      cases l2 with
      | cons _ _=>rw[ha] at h;cases h
      | nil=>
       cases dY:argTypes.toList with
       | nil=>rw[ha,dY] at h;cases h
       | cons t l3=>
        cases l3 with
        | nil=>rw[ha,dY] at h;cases h
        | cons u l4=>
         cases l4 with
         | cons _ _=>rw[ha,dY] at h;cases h
         | nil=>
          rw[ha,dY] at h
          simp only at h
          have e1:args= #[x,y]:=by rw[←Array.toArray_toList (xs:=args),ha]
          have e2:argTypes= #[t,u]:=by rw[←Array.toArray_toList (xs:=argTypes),dY]
          cases hu:P.underlying t with
          | none=>rw[hu] at h;cases h
          | some d=>
           rw[hu] at h
           cases d<;>(try (cases h;done))
           have:=agz (u:=u) (ty:=ty) S hu (hs.ev hg t x) (hs.ev hg u y) h
           refine .val (tu Builtin.copy_ rfl) ?_
           rw[e1,e2]
           simpa using this
   case clear=>
    simp only at h
    cases ha:args.toList with
    | nil=>rw[ha] at h;cases h
    | cons x l=>
     cases l with
     | cons _ _=>rw[ha] at h;cases h
     | nil=>
      cases dY:argTypes.toList with
      | nil=>rw[ha,dY] at h;cases h
      | cons t l3=>
       cases l3 with
       | cons _ _=>rw[ha,dY] at h;cases h
       | nil=>
        rw[ha,dY] at h
        simp only at h
        have e1:args= #[x]:=by rw[←Array.toArray_toList (xs:=args),ha]
        have e2:argTypes= #[t]:=by rw[←Array.toArray_toList (xs:=argTypes),dY]
        cases hu:P.underlying t with
        | none=>rw[hu] at h;cases h
        | some d=>
         rw[hu] at h
         cases d<;>(try (cases h;done))
         have:=agA (ty:=ty) S hu (hs.ev hg t x) h
         refine .val (tu Builtin.clear_ rfl) ?_
         rw[e1,e2]
         simpa using this
   case max=>
    simp only at h
    cases ha:args.toList with
    | nil=>rw[ha] at h;cases h
    | cons x l=>
     rw[ha] at h
     simp only at h
     have:=NI S true (vs:=l.map a.eval) (xs:=l.map (bq P A.aU ty sl)) (hs.ev hg ty x) (by simp) (fun j u y hu hy=>by
      simp only[eZ] at hu hy
      cases hl:l[j]? with
      | none=>rw[hl] at hu;cases hu
      | some z=>rw[hl] at hu hy;cases hu;cases hy;exact hs.ev hg ty z) h
     refine .val (tu Builtin.max_ rfl) ?_
     simpa[Builtin.max_,ha] using this
   case min=>
    simp only at h
    cases ha:args.toList with
    | nil=>rw[ha] at h;cases h
    | cons x l=>
     rw[ha] at h
     simp only at h
     have:=NI S false (vs:=l.map a.eval) (xs:=l.map (bq P A.aU ty sl)) (hs.ev hg ty x) (by simp) (fun j u y hu hy=>by
      simp only[eZ] at hu hy
      cases hl:l[j]? with
      | none=>rw[hl] at hu;cases hu
      | some z=>rw[hl] at hu hy;cases hu;cases hy;exact hs.ev hg ty z) h
     refine .val (tu Builtin.min_ rfl) ?_
     simpa[Builtin.min_,ha] using this
end
section
variable {P:Program} {A:dg} {w w':World} {I I' I2:Nat→Nat→Prop} {μ β β':Nat→Option Nat} {hp hp':Nat→Option ah} {C:ab} {B:Nat} {M:Nat→Prop} {w0:Start}
theorem z7: ∀{l m:List Nat},fh.qi l m=true→l=m
 | [],[],_=>rfl
 | [],_::_,h=>by cases h
 | _::_,[],h=>by cases h
 | a::l,b::m,h=>by
  simp only[fh.qi,bn,bB] at h
  rw[h.1,z7 h.2]
@[simp] theorem WB (n:Nat):ml (e6 n)=n:=by simp[ml,e6,V.toInt]
theorem IG: ∀(path:List (Nat × Nat)) (rest:List V),Ch (path.map (·.2)) ((path.map fun p=>e6 p.1)++rest)=path
 | [],_=>rfl
 | p::l,rest=>by
  simp only[ki,List.cons_append,Ch,V.nth,WB,jn,hZ,IG l rest]
theorem IH {l:LS} {x:V} {ds:List V} (h:fh l x=some ds):ds.length=l.size∧(l= .uK∨∀rest,jR l (ds++rest)=x):=by
 cases l with
 | uK=>simp only[fh,eE] at h;subst h;exact ⟨rfl,.inl rfl⟩
 | int k=>
  cases x<;>simp only[fh] at h<;>first|(cases h;done)|skip
  rename_i k' n
  by_cases hk:k=k'
  ·subst hk
   simp only[wg,cond_true,eE] at h
   subst h
   exact ⟨rfl,.inr fun _=>rfl⟩
  ·simp[hk] at h
 | bool=>
  cases x<;>simp only[fh] at h<;>first|(cases h;done)|skip
  cases h
  exact ⟨rfl,.inr fun _=>rfl⟩
 | str=>
  cases x<;>simp only[fh] at h<;>first|(cases h;done)|skip
  cases h
  exact ⟨rfl,.inr fun _=>rfl⟩
 | list e=>
  cases x<;>simp only[fh] at h<;>first|(cases h;done)|skip
  rename_i e' es
  cases hb:Nat.beq e e' with
  | false=>rw[hb] at h;cases h
  | true=>
   rw[hb] at h
   rw[bB] at hb
   subst hb
   cases h
   exact ⟨rfl,.inr fun _=>rfl⟩
 | whole e j=>
  cases x<;>simp only[fh] at h<;>first|(cases h;done)|skip
  rename_i e' id
  cases hb:(Nat.beq e e'&&Nat.beq j id) with
  | false=>rw[hb] at h;cases h
  | true=>
   rw[hb] at h
   simp only[bn,bB] at hb
   obtain ⟨rfl,rfl⟩:=hb
   cases h
   exact ⟨rfl,.inr fun _=>rfl⟩
 | sub e j=>
  cases x<;>simp only[fh] at h<;>first|(cases h;done)|skip
  rename_i e' id o n
  cases hb:(Nat.beq e e'&&Nat.beq j id) with
  | false=>rw[hb] at h;cases h
  | true=>
   rw[hb] at h
   simp only[bn,bB] at hb
   obtain ⟨rfl,rfl⟩:=hb
   cases h
   exact ⟨rfl,.inr fun _=>by simp[jR,V.nth]⟩
 | ptr j=>
  cases x<;>simp only[fh] at h<;>first|(cases h;done)|skip
  rename_i id i c
  cases hb:(Nat.beq j id) with
  | false=>rw[hb] at h;cases h
  | true=>
   rw[hb] at h
   rw[bB] at hb
   subst hb
   cases h
   exact ⟨rfl,.inr fun _=>by simp[jR,V.nth]⟩
 | eR j i c=>
  cases x<;>simp only[fh] at h<;>first|(cases h;done)|skip
  rename_i id i' c'
  cases hb:(Nat.beq j id&&(Nat.beq i i'&&Nat.beq c c')) with
  | false=>rw[hb] at h;cases h
  | true=>
   rw[hb] at h
   simp only[bn,bB] at hb
   obtain ⟨rfl,rfl,rfl⟩:=hb
   cases h
   exact ⟨rfl,.inr fun _=>rfl⟩
 | nilS e=>
  cases x<;>simp only[fh] at h<;>first|(cases h;done)|skip
  rename_i e'
  cases hb:Nat.beq e e' with
  | false=>rw[hb] at h;cases h
  | true=>
   rw[hb] at h
   rw[bB] at hb
   subst hb
   cases h
   exact ⟨rfl,.inr fun _=>rfl⟩
 | ee=>
  cases x<;>simp only[fh] at h<;>first|(cases h;done)|skip
  cases h
  exact ⟨rfl,.inr fun _=>rfl⟩
 | cC e j=>
  cases x<;>simp only[fh] at h<;>first|(cases h;done)|skip
  rename_i e' id
  cases hb:(Nat.beq e e'&&Nat.beq j id) with
  | false=>rw[hb] at h;cases h
  | true=>
   rw[hb] at h
   simp only[bn,bB] at hb
   obtain ⟨rfl,rfl⟩:=hb
   cases h
   exact ⟨rfl,.inr fun _=>rfl⟩
 | eg e=>
  cases x<;>simp only[fh] at h<;>first|(cases h;done)|skip
  rename_i e'
  cases hb:Nat.beq e e' with
  | false=>rw[hb] at h;cases h
  | true=>
   rw[hb] at h
   rw[bB] at hb
   subst hb
   cases h
   exact ⟨rfl,.inr fun _=>rfl⟩
 | zo k n=>
  cases x<;>simp only[fh] at h<;>first|(cases h;done)|skip
  rename_i k' m
  cases hb:(decide (k=k')&&decide (m=n)) with
  | false=>rw[hb] at h;cases h
  | true=>
   rw[hb] at h
   simp only[bn,dW] at hb
   obtain ⟨rfl,rfl⟩:=hb
   cases h
   exact ⟨rfl,.inr fun _=>rfl⟩
 | Hv b=>
  cases x<;>simp only[fh] at h<;>first|(cases h;done)|skip
  rename_i c
  cases hb:decide (b=c) with
  | false=>rw[hb] at h;cases h
  | true=>
   rw[hb] at h
   obtain rfl:=BH hb
   cases h
   exact ⟨rfl,.inr fun _=>rfl⟩
 | row e j cs=>
  cases x<;>simp only[fh] at h<;>first|(cases h;done)|skip
  rename_i e' id ver path
  cases hb:(Nat.beq e e'&&(Nat.beq j id&&(Nat.beq ver 0&&fh.qi cs (path.map (·.2))))) with
  | false=>rw[hb] at h;cases h
  | true=>
   rw[hb] at h
   simp only[bn,bB] at hb
   obtain ⟨rfl,rfl,rfl,qu⟩:=hb
   have:=z7 qu
   subst this
   cases h
   exact ⟨by simp[LS.size],.inr fun rest=>by simp only[jR,IG]⟩
 | dk j cs c=>
  cases x<;>simp only[fh] at h<;>first|(cases h;done)|skip
  rename_i id ver path i c'
  cases hb:(Nat.beq j id&&(Nat.beq ver 0&&(Nat.beq c c'&&fh.qi cs (path.map (·.2))))) with
  | false=>rw[hb] at h;cases h
  | true=>
   rw[hb] at h
   simp only[bn,bB] at hb
   obtain ⟨rfl,rfl,rfl,qu⟩:=hb
   have:=z7 qu
   subst this
   cases h
   exact ⟨by simp[LS.size],.inr fun rest=>by simp only[jR,List.cons_append,V.nth,WB,jn,hZ,IG]⟩
def LS.below (n:Nat) (x:V):Prop:= ∀id∈fi x,id<n
def WC:V→Prop
 | .agg _=>False
 | .bL _=>False
 | .fn .. =>False
 | .pref .. =>False
 | _=>True
theorem xf {c:Bool} {a d:List V} (h:(bif c then some a else none)=some d):c=true:=by
 cases c with
 | true=>rfl
 | false=>cases h
theorem ahe {l:LS} {x:V} {ds:List V} {n:Nat} (h:fh l x=some ds) (hl:l≠ .uK) (az:l.ok n=true):WC x∧LS.below n x:=by
 cases l<;>cases x<;>simp only[fh] at h<;>first|(cases h;done)|(exact absurd rfl hl)|skip
 all_goals refine ⟨trivial,fun id ae=> ?_⟩
 all_goals simp only[fi,iA,List.not_mem_nil] at ae
 all_goals subst ae
 all_goals simp only[LS.ok,ly] at az
 all_goals
  have hb:=xf h
  simp only[bn,bB] at hb
  omega
theorem aj.ahf {v:Value} {x:V} (h:aj P w I β hp v x) (hx:WC x) (hs: ∀id∈fi x,hp' id=hp id∧β' id=β id):aj P w I β' hp' v x:=by
 have one: ∀{id},id∈fi x→hp' id=hp id∧β' id=β id:=fun h=>hs _ h
 cases h with
 | undef=>exact .undef
 | int=>exact .int
 | bool=>exact .bool
 | str h=>exact .str h
 | list h=>exact .list h
 | nilS=>exact .nilS
 | agg=>exact hx.elim
 | bL=>exact hx.elim
 | ee=>exact .ee
 | fn=>exact hx.elim
 | pref=>exact hx.elim
 | eS h=>exact .eS ((one (by simp[fi])).1.trans h)
 | ig h=>exact .ig ((one (by simp[fi])).1.trans h)
 | lH h=>exact .lH ((one (by simp[fi])).1.trans h)
 | eF h hb=>exact .eF ((one (by simp[fi])).1.trans h) ((one (by simp[fi])).2.trans hb)
 | whole h hb a b c=>exact .whole ((one (by simp[fi])).1.trans h) ((one (by simp[fi])).2.trans hb) a b c
 | e8 h hb a b c=>exact .e8 ((one (by simp[fi])).1.trans h) ((one (by simp[fi])).2.trans hb) a b c
 | gS h hb=>exact .gS ((one (by simp[fi])).1.trans h) ((one (by simp[fi])).2.trans hb)
 | sub h hb a b c=>exact .sub ((one (by simp[fi])).1.trans h) ((one (by simp[fi])).2.trans hb) a b c
 | ptr h hd hb=>exact .ptr ((one (by simp[fi])).1.trans h) hd ((one (by simp[fi])).2.trans hb)
 | kT h tn=>exact .kT ((one (by simp[fi])).1.trans h) tn
 | kU h tn=>exact .kU ((one (by simp[fi])).1.trans h) tn
 | row h hb a b c d=>exact .row ((one (by simp[fi])).1.trans h) ((one (by simp[fi])).2.trans hb) a b c d
 | dk h hb a b c d e=>exact .dk ((one (by simp[fi])).1.trans h) ((one (by simp[fi])).2.trans hb) a b c d e
 | eg=>exact .eg
 | jw h=>exact .jw ((one (by simp[fi])).1.trans h)
 | cC h hb=>exact .cC ((one (by simp[fi])).1.trans h) ((one (by simp[fi])).2.trans hb)
theorem pq {a b:List V} {n:Nat} (h:a.length=n):(a++b).drop n=b:=by subst h;simp
def C8 (n:Nat) (β:Nat→Option Nat) (hp:Nat→Option ah) (β':Nat→Option Nat) (hp':Nat→Option ah):Prop:= ∀id,id<n→hp' id=hp id∧β' id=β id
theorem WD {l:LS} {x:V} {ds:List V} {n:Nat} {v:Value} (h:fh l x=some ds) (az:l.ok n=true) (jZ:C8 n β hp β' hp') (hv:aj P w I β hp v x) (rest:List V):
  aj P w I β' hp' v (jR l (ds++rest)):=by
 rcases (IH h).2 with e|e
 ·subst e;exact .undef
 ·rw[e rest]
  by_cases hu:l= .uK
  ·subst hu
   have:x= .undef:=(e rest).symm
   subst this
   exact .undef
  ·obtain ⟨h1,h2⟩:=ahe h hu az
   exact hv.ahf h1 fun id ae=>jZ id (h2 id ae)
theorem C9 {n:Nat} (jZ:C8 n β hp β' hp'): ∀{ls:List LS} {xs:List V} {ds:List V},rE ls xs=some ds→ls.all (LS.ok n)=true→
  ds.length=lD ls∧(∀rest,(jq ls (ds++rest)).length=xs.length)∧
  ∀(rest:List V) (j:Nat) (v:Value) (y:V),(∀x,xs[j]? =some x→aj P w I β hp v x)→(jq ls (ds++rest))[j]? =some y→aj P w I β' hp' v y
 | [],[],ds,h,_=>by cases h;exact ⟨rfl,fun _=>rfl,fun rest j v y _ hy=>by simp[jq] at hy⟩
 | [],_::_,ds,h,_=>by cases h
 | _::_,[],ds,h,_=>by cases h
 | l::ls,x::xs,ds,h,az=>by
  simp only[rE] at h
  obtain ⟨a,h1,h⟩:=bind_some h
  obtain ⟨b,h2,h⟩:=bind_some h
  cases h
  simp only[List.all_cons,bn] at az
  obtain ⟨i1,i2,i3⟩:=C9 jZ h2 az.2
  have cU:=(IH h1).1
  have hd: ∀rest,(a++b++rest).drop l.size=b++rest:=fun rest=>by rw[db];exact pq cU
  refine ⟨by simp only[cX,lD];omega,fun rest=>by simp only[jq,List.length_cons,hd,i2],fun rest j v y hv hy=> ?_⟩
  simp only[jq,hd] at hy
  cases j with
  | zero=>
   simp at hy
   subst hy
   exact WD h1 az.1 jZ (hv x rfl) _
  | succ j=>exact i3 rest j v y (fun x hx=>hv x (by simpa using hx)) (by simpa using hy)
theorem N0: ∀{ls:List LS} {xs:List V} {ds:List V},rE ls xs=some ds→ls.all LS.plain=true→ds.length=lD ls∧∀rest,jq ls (ds++rest)=xs
 | [],[],ds,h,_=>by cases h;exact ⟨rfl,fun _=>rfl⟩
 | [],_::_,ds,h,_=>by cases h
 | _::_,[],ds,h,_=>by cases h
 | l::ls,x::xs,ds,h,az=>by
  simp only[rE] at h
  obtain ⟨a,h1,h⟩:=bind_some h
  obtain ⟨b,h2,h⟩:=bind_some h
  cases h
  simp only[List.all_cons,bn] at az
  obtain ⟨i1,i2⟩:=N0 h2 az.2
  obtain ⟨cU,hm⟩:=IH h1
  refine ⟨by simp only[cX,lD];omega,fun rest=> ?_⟩
  simp only[jq]
  rw[show (a++b++rest).drop l.size=b++rest by rw[db];exact pq cU,i2,db]
  rcases hm with e|e
  ·subst e;cases az.1
  ·rw[e]
theorem N3 {n:Nat} (jZ:C8 n β hp β' hp') {s:VS} {x:V} {ds:List V} (h:rF s x=some ds) (az:s.ok n=true):
  ds.length=s.size∧∀(rest:List V) (v:Value),aj P w I β hp v x→aj P w I β' hp' v (mo s (ds++rest)):=by
 cases s with
 | one l=>exact ⟨(IH h).1,fun rest v hv=>WD h az jZ hv rest⟩
 | agg ls=>
  cases x<;>simp only[rF] at h<;>first|(cases h;done)|skip
  rename_i xs
  obtain ⟨i1,i2,i3⟩:=C9 (P:=P) (w:=w) (I:=I) jZ h az
  refine ⟨i1,fun rest v hv=> ?_⟩
  obtain ⟨cs,rfl,e1,e2⟩:=hv.my
  exact .agg (by rw[i2];exact e1) fun j v y hj hy=>i3 rest j v y (fun x hx=>e2 j v x hj hx) hy
 | bL ls=>
  cases x<;>simp only[rF] at h<;>first|(cases h;done)|skip
  rename_i xs
  obtain ⟨i1,i2,i3⟩:=C9 (P:=P) (w:=w) (I:=I) jZ h az
  refine ⟨i1,fun rest v hv=> ?_⟩
  obtain ⟨cs,rfl,e1,e2⟩:=hv.wS
  exact .bL (by rw[i2];exact e1) fun j v y hj hy=>i3 rest j v y (fun x hx=>e2 j v x hj hx) hy
 | fn f a b=>
  cases x<;>simp only[rF] at h<;>first|(cases h;done)|skip
  rename_i f' xs ys
  cases hb:Nat.beq f f' with
  | false=>rw[hb] at h;cases h
  | true=>
   rw[hb] at h
   rw[bB] at hb
   subst hb
   simp only[cond_true] at h
   obtain ⟨p,h1,h⟩:=bind_some h
   obtain ⟨q,h2,h⟩:=bind_some h
   cases h
   simp only[VS.ok,bn] at az
   obtain ⟨i1,i2,i3⟩:=C9 (P:=P) (w:=w) (I:=I) jZ h1 az.1
   obtain ⟨j1,j2,j3⟩:=C9 (P:=P) (w:=w) (I:=I) jZ h2 az.2
   refine ⟨by simp only[cX,VS.size];omega,fun rest v hv=> ?_⟩
   cases hv with
   | fn a1 a2 b1 b2=>
    simp only[mo]
    rw[show (p++q++rest).drop (lD a)=q++rest by rw[db];exact pq i1,db]
    exact .fn (by rw[i2];exact a1) (fun j v y hj hy=>i3 _ j v y (fun x hx=>a2 j v x hj hx) hy) (by rw[j2];exact b1) (fun j v y hj hy=>j3 _ j v y (fun x hx=>b2 j v x hj hx) hy)
 | pref ts ls=>
  cases x<;>simp only[rF] at h<;>first|(cases h;done)|skip
  rename_i zx xs
  cases hb:fh.qi ts zx with
  | false=>rw[hb] at h;cases h
  | true=>
   rw[hb] at h
   have:=z7 hb
   subst this
   simp only[cond_true] at h
   refine ⟨?_,fun rest v hv=> ?_⟩
   ·exact (N0 h az).1
   ·simp only[mo]
    rw[(N0 h az).2]
    cases hv with
    | pref hl hI hc=>exact .pref hl hI hc
theorem Db {n:Nat} (jZ:C8 n β hp β' hp'): ∀{ls:List VS} {xs:List V} {ds:List V},sK ls xs=some ds→ls.all (VS.ok n)=true→
  ds.length=uU ls∧(∀rest,(gz ls (ds++rest)).length=xs.length)∧
  ∀(rest:List V) (j:Nat) (v:Value) (y:V),(∀x,xs[j]? =some x→aj P w I β hp v x)→(gz ls (ds++rest))[j]? =some y→aj P w I β' hp' v y
 | [],[],ds,h,_=>by cases h;exact ⟨rfl,fun _=>rfl,fun rest j v y _ hy=>by simp[gz] at hy⟩
 | [],_::_,ds,h,_=>by cases h
 | _::_,[],ds,h,_=>by cases h
 | l::ls,x::xs,ds,h,az=>by
  simp only[sK] at h
  obtain ⟨a,h1,h⟩:=bind_some h
  obtain ⟨b,h2,h⟩:=bind_some h
  cases h
  simp only[List.all_cons,bn] at az
  obtain ⟨i1,i2,i3⟩:=Db jZ h2 az.2
  obtain ⟨cU,zY⟩:=N3 (P:=P) (w:=w) (I:=I) jZ h1 az.1
  have hd: ∀rest,(a++b++rest).drop l.size=b++rest:=fun rest=>by rw[db];exact pq cU
  refine ⟨by simp only[cX,uU];omega,fun rest=>by simp only[gz,List.length_cons,hd,i2],fun rest j v y hv hy=> ?_⟩
  simp only[gz,hd] at hy
  cases j with
  | zero=>
   simp at hy
   subst hy
   exact zY _ v (hv x rfl)
  | succ j=>exact i3 rest j v y (fun x hx=>hv x (by simpa using hx)) (by simpa using hy)
end
section
variable {P:Program} {A:dg} {w w':World} {I I' I2:Nat→Nat→Prop} {μ β β':Nat→Option Nat} {hp hp' hp0:Nat→Option ah} {C:ab} {B:Nat} {M:Nat→Prop} {w0:Start}
theorem je: ∀{l:List ah} {j:Nat},kS l j=l[j]?
 | [],j=>by simp[kS]
 | b::l,0=>rfl
 | b::l,j+1=>by simp only[kS,je,List.getElem?_cons_succ]
theorem N4 {sl:Nat→V} {k:Nat} {y:V}: ∀{l:List (Nat × VS)} {ds:List V},Cf sl l=some ds→(∀p∈l,∀d,rF p.2 (sl p.1)=some d→d.length=p.2.size)→
  ds.length=qj l∧∀rest,eJ (gh l (ds++rest)) k=some y→∃s d im,(k,s)∈l∧rF s (sl k)=some d∧y=mo s (d++im)
 | [],ds,h,_=>by cases h;exact ⟨rfl,fun rest h=>by cases h⟩
 | (q,s)::l,ds,h,hz=>by
  simp only[Cf] at h
  obtain ⟨a,h1,h⟩:=bind_some h
  obtain ⟨b,h2,h⟩:=bind_some h
  cases h
  obtain ⟨i1,i2⟩:=N4 (k:=k) (y:=y) h2 fun p hp=>hz p (m7 _ hp)
  have cU:=hz (q,s) (uE ..) a h1
  refine ⟨by simp only[cX,qj];simp only at cU;omega,fun rest hl=> ?_⟩
  simp only[gh,eJ] at hl
  rw[show (a++b++rest).drop s.size=b++rest by rw[db];exact pq cU] at hl
  cases hb:Nat.beq k q with
  | true=>
   rw[hb] at hl
   rw[bB] at hb
   subst hb
   cases hl
   exact ⟨s,a,b++rest,uE ..,h1,by rw[db]⟩
  | false=>
   rw[hb] at hl
   obtain ⟨s',d,im,m1,m2,m3⟩:=i2 rest hl
   exact ⟨s',d,im,m7 _ m1,m2,m3⟩
theorem N5 {α:Type} {c:Bool} {x:Option α} {a:α} (h:(bif c then x else none)=some a):c=true∧x=some a:=by
 cases c with
 | true=>exact ⟨rfl,h⟩
 | false=>cases h
theorem ahg {n:Nat} {b:BS} {o:Option ah} {ds:List V} (h:mn b o=some ds) (az:b.ok n=true):ds.length=b.size:=by
 cases b with
 | dead=>cases o<;>(cases h;rfl)
 | var T0 ls=>
  cases o with
  | none=>cases h
  | some blk=>
   cases blk<;>simp only[mn] at h<;>first|(cases h;done)|skip
   exact (Db (P:=default) (w:=default) (I:=fun _ _=>False) (β:=fun _=>none) (hp:=fun _=>none) (fun _ _=>⟨rfl,rfl⟩) (N5 h).2 az).1
 | arr e fz=>
  cases o with
  | none=>cases h
  | some blk=>
   cases blk<;>simp only[mn] at h<;>first|(cases h;done)|skip
   rw[xf h] at h
   cases h
   rfl
 | nest e=>
  cases o with
  | none=>cases h
  | some blk=>
   cases blk<;>simp only[mn] at h<;>first|(cases h;done)|skip
   rw[xf h] at h
   cases h
   rfl
 | map t=>
  cases o with
  | none=>cases h
  | some blk=>
   cases blk<;>simp only[mn] at h<;>first|(cases h;done)|skip
   rw[xf h] at h
   cases h
   rfl
theorem WE {n:Nat}: ∀{l:List BS} {j:Nat} {ds:List V},Cg hp j l=some ds→l.all (BS.ok n)=true→
  (∀rest,(fF l (ds++rest)).length=l.length)∧∀(rest:List V) (i:Nat) (blk:ah),(fF l (ds++rest))[i]? =some blk→∃b d im,l[i]? =some b∧b.ok n=true∧mn b (hp (j+i))=some d∧blk=gN b (d++im)
 | [],j,ds,h,_=>by cases h;exact ⟨fun _=>rfl,fun rest i blk hb=>by simp[fF] at hb⟩
 | b::l,j,ds,h,az=>by
  simp only[Cg] at h
  obtain ⟨a,h1,h⟩:=bind_some h
  obtain ⟨c,h2,h⟩:=bind_some h
  cases h
  simp only[List.all_cons,bn] at az
  obtain ⟨i1,i2⟩:=WE h2 az.2
  have cU:=ahg h1 az.1
  have hd: ∀rest,(a++c++rest).drop b.size=c++rest:=fun rest=>by rw[db];exact pq cU
  refine ⟨fun rest=>by simp only[fF,List.length_cons,hd,i1],fun rest i blk hb=> ?_⟩
  simp only[fF,hd] at hb
  cases i with
  | zero=>
   simp at hb
   exact ⟨b,a,c++rest,rfl,az.1,h1,by rw[←hb]⟩
  | succ i=>
   obtain ⟨b',d,im,m1,m2,m3,m4⟩:=i2 rest i blk (by simpa using hb)
   exact ⟨b',d,im,by simpa using m1,m2,by rw[show j+(i+1)=j+1+i by omega];exact m3,m4⟩
theorem ahh {n:Nat} {b:BS} {blk:ah} {ds rest:List V} (h:mn b (some blk)=some ds) (az:b.ok n=true):
  blk.le (gN b (ds++rest))∧(gN b (ds++rest)= .dead∨gN b (ds++rest)=blk∨∃T ls cs,b= .var T ls∧blk= .var T cs∧sK ls cs=some ds∧gN b (ds++rest)= .var T (gz ls (ds++rest))):=by
 cases b with
 | dead=>exact ⟨by cases blk<;>trivial,.inl rfl⟩
 | var T0 ls=>
  cases blk<;>simp only[mn] at h<;>first|(cases h;done)|skip
  obtain ⟨hT,h0⟩:=N5 h
  clear h
  rw[bB] at hT
  subst hT
  exact ⟨rfl,.inr (.inr ⟨_,_,_,rfl,rfl,h0,rfl⟩)⟩
 | arr e fz=>
  cases blk<;>simp only[mn] at h<;>first|(cases h;done)|skip
  rename_i e' es o8
  have hb:=xf h
  simp only[bn,bB,nc] at hb
  obtain ⟨rfl,rfl⟩:=hb
  simp only[kQ,beq_self_eq_true,BR,cond_true,eE] at h
  subst h
  exact ⟨⟨rfl,rfl⟩,.inr (.inl rfl)⟩
 | nest e=>
  cases blk<;>simp only[mn] at h<;>first|(cases h;done)|skip
  rename_i e' es an
  have hb:=xf h
  simp only[bn,bB] at hb
  obtain ⟨rfl,hv⟩:=hb
  have:=z7 hv
  subst this
  simp only[kQ,zh] at h
  cases h
  exact ⟨⟨rfl,rfl,rfl,fun _=>aw _⟩,.inr (.inl rfl)⟩
 | map t=>
  cases blk<;>simp only[mn] at h<;>first|(cases h;done)|skip
  rename_i t' es
  have hb:=xf h
  rw[bB] at hb
  subst hb
  simp only[kQ,cond_true,eE] at h
  subst h
  exact ⟨rfl,.inr (.inl rfl)⟩
theorem WG {m:Nat} {S:Shape} {st:St} {ds:List V} (h:jS m S st=some ds):
  S.ok=true∧m≤S.cM.length∧∃a b,Cf st.sl S.b6=some a∧Cg st.hp 0 S.cM=some b∧ds=a++b:=by
 unfold jS at h
 cases hc:(S.ok&&Nat.ble m S.cM.length) with
 | false=>rw[hc] at h;cases h
 | true=>
  rw[hc] at h
  simp only[cond_true] at h
  simp only[bn,fC] at hc
  obtain ⟨a,h1,h⟩:=bind_some h
  obtain ⟨b,h2,h⟩:=bind_some h
  cases h
  exact ⟨hc.1,hc.2,a,b,h1,h2,rfl⟩
theorem reshape {m:Nat} {S:Shape} {st:St} {ds:List V} (h:jS m S st=some ds) (hS:aW P w I β st.hp B M w0):
  aW P w I β (bN S ds).hp B M w0∧(∀(k:Nat) (v:Value),aj P w I β st.hp v (st.sl k)→aj P w I β (bN S ds).hp v ((bN S ds).sl k))∧
  (∀(μ:Nat→Option Nat) (hp0:Nat→Option ah),(∀id blk,hp0 id=some blk→id<m)→Le P w0.w w0.I μ hp0 w I β st.hp→Le P w0.w w0.I μ hp0 w I β (bN S ds).hp)∧
  ∀j blk',(bN S ds).hp j=some blk'→blk'≠ .dead→∃blk,st.hp j=some blk∧blk.le blk'∧∀o b,bW P w o blk' b→bW P w o blk b:=by
 obtain ⟨az,hm,a,b,h1,h2,rfl⟩:=WG h
 unfold Shape.ok at az
 rw[bn] at az
 obtain ⟨WH,Iw⟩:=az
 have bG: ∀p∈S.b6,∀d,rF p.2 (st.sl p.1)=some d→d.length=p.2.size:=fun p hp d hd=>
  (N3 (P:=P) (w:=w) (I:=I) (β:=β) (hp:=st.hp) (fun _ _=>⟨rfl,rfl⟩) hd (gv.1 WH p hp)).1
 have cU:a.length=qj S.b6:=(N4 (k:=0) (y:= .undef) h1 bG).1
 have Ix:(bN S (a++b)).hp=kS (fF S.cM (b++[])):=by
  simp only[bN,mk,eY]
  rw[pq cU]
 obtain ⟨bl,bg⟩:=WE h2 Iw
 have get: ∀j blk',(bN S (a++b)).hp j=some blk'→j<S.cM.length∧∃bs d im,bs.ok S.cM.length=true∧mn bs (st.hp j)=some d∧blk'=gN bs (d++im):=by
  intro j blk' hj
  rw[Ix,je] at hj
  obtain ⟨bs,d,im,m1,m2,m3,m4⟩:=bg [] j blk' hj
  rw[dE] at m3
  exact ⟨(bO.1 m1).1,bs,d,im,m2,m3,m4⟩
 have have': ∀j,j<S.cM.length→∃blk',(bN S (a++b)).hp j=some blk':=by
  intro j hj
  rw[Ix,je]
  exact ⟨_,bU (by rw[bl];exact hj)⟩
 generalize fj:(bN S (a++b)).hp=xg at*
 let bQ:Nat→Option ah:=fun id=>if id<S.cM.length then xg id else st.hp id
 have back: ∀j blk',xg j=some blk'→blk'≠ .dead→∃blk,st.hp j=some blk∧blk.le blk'∧(blk'=blk∨∃T ls cs d im,ls.all (VS.ok S.cM.length)=true∧blk= .var T cs∧sK ls cs=some d∧blk'= .var T (gz ls (d++im))):=by
  intro j blk' hj hd
  obtain ⟨dG,bs,d,im,m1,m2,m3⟩:=get j blk' hj
  cases bP:st.hp j with
  | none=>
   rw[bP] at m2
   cases bs<;>simp only[mn] at m2<;>first|(cases m2;done)|skip
   exact absurd m3 hd
  | some blk=>
   rw[bP] at m2
   obtain ⟨n1,n2⟩:=ahh (rest:=im) m2 m1
   rw[←m3] at n1 n2
   refine ⟨blk,rfl,n1,?_⟩
   rcases n2 with e|e|⟨T,ls,cs,e1,e2,e3,e4⟩
   ·exact absurd e hd
   ·exact .inl e
   ·subst e1
    exact .inr ⟨T,ls,cs,d,im,m1,e2,e3,e4⟩
 have le1: ∀j blk,st.hp j=some blk→j<S.cM.length→∃blk',xg j=some blk'∧blk.le blk':=by
  intro j blk hj dG
  obtain ⟨blk',aI⟩:=have' j dG
  refine ⟨blk',aI,?_⟩
  by_cases hd:blk'= .dead
  ·subst hd;cases blk<;>trivial
  ·obtain ⟨cD,e1,e2,_⟩:=back j blk' aI hd
   rw[hj] at e1;cases e1
   exact e2
 have ahi: ∀j e es an e' bj vers',st.hp j=some (.nest e es an)→xg j=some (.nest e' bj vers')→e'=e∧bj=es∧vers'=an:=by
  intro j e es an e' bj vers' hj iF
  obtain ⟨blk,e1,_,e3⟩:=back j _ iF (by simp)
  rw[hj] at e1;cases e1
  rcases e3 with e3|⟨_,_,_,_,_,_,e3,_⟩
  ·cases e3;exact ⟨rfl,rfl,rfl⟩
  ·cases e3
 have hle:Le P w I β st.hp w I β bQ:=by
  refine ⟨fun _ _ h=>h,fun _ _ _=>rfl,fun id blk ae=> ?_,fun _ _ _ _ _ _ _ _=>rfl,Le.u5 (fun _ _ _ _ _ _=>rfl) fun id e es an e' bj vers' ae b9=> ?_⟩
  ·by_cases hl:id<S.cM.length
   ·obtain ⟨blk',e1,e2⟩:=le1 id blk ae hl
    exact ⟨blk',by simp only[bQ,af hl];exact e1,e2,fun _=>rfl⟩
   ·exact ⟨blk,by simp only[bQ,ag hl];exact ae,ah.le_refl _,fun _=>rfl⟩
  ·by_cases hl:id<S.cM.length
   ·simp only[bQ,af hl] at b9
    exact ahi _ _ _ _ _ _ _ ae b9
   ·simp only[bQ,ag hl] at b9
    rw[ae] at b9;cases b9
    exact ⟨rfl,rfl,rfl⟩
 have jZ:C8 S.cM.length β bQ β xg:=fun id ae=>⟨by simp only[bQ,af ae],rfl⟩
 have zS: ∀j blk' blk o b,xg j=some blk'→st.hp j=some blk→bW P w o blk' b→bW P w o blk b:=by
  intro j blk' blk o b iF hj ho
  obtain ⟨cD,e1,_,e3⟩:=back j blk' iF ho.alive
  rw[hj] at e1;cases e1
  rcases e3 with e3|⟨T,ls,cs,d,im,_,e3,_,e5⟩
  ·subst e3;exact ho
  ·subst e3;subst e5
   exact .root (by simp) (ho.flat (by simp))
 refine ⟨⟨⟨fun j blk' hj=> ?_,fun j1 j2 b1 b2 b' e1 e2 o1 o2=> ?_,fun j blk b' hj ho=> ?_,hS.h.kB⟩,hS.cO,hS.size,hS.new,hS.io⟩,fun k v hv=> ?_,fun μ hp0 bx hE=> ?_,fun j blk' hj hd=> ?_⟩
 ·by_cases hd:blk'= .dead
  ·subst hd;exact .dead
  ·obtain ⟨blk,e1,_,e3⟩:=back j blk' hj hd
   have hr:=hS.h.rel j blk e1
   generalize β j=o at hr
   rcases e3 with e3|⟨T0,ls,cs,d,im,q1,e3,e4,e5⟩
   ·subst e3
    cases hr with
    | @var xs b' Ca T hb hh hs dv hx ik=>
     obtain ⟨dG,bs,d,im,m1,m2,m3⟩:=get j _ hj
     rw[e1] at m2
     cases bs<;>simp only[mn] at m2<;>first|(cases m2;done)|skip
     ·rename_i T0 ls
      simp only[gN] at m3
      obtain ⟨hT,m2⟩:=N5 m2
      obtain ⟨i1,i2,i3⟩:=Db (P:=P) (w:=w) (I:=I) jZ m2 m1
      injection m3 with m4 m3
      rw[m3]
      exact .var hb hh (by rw[i2];exact hs) dv (fun i v y hi hy=>i3 im i v y (fun x dj=>(hx i v x hi dj).mono hle) hy) ik
     ·simp only[gN] at m3
      cases m3
    | eh hb=>exact .eh hb
    | arr a1 a2 a3 a4 a5 a6 a7=>exact .arr a1 a2 a3 a4 a5 a6 a7
    | dead=>exact absurd rfl hd
    | nest a1 a2 a3=>exact .nest a1 a2 a3
    | map a1 a2 a3 a4 a5 a6 a7=>exact .map a1 a2 a3 a4 a5 a6 a7
   ·subst e3
    subst e5
    cases hr with
    | @var xs b' Ca T hb hh hs dv hx ik=>
     obtain ⟨i1,i2,i3⟩:=Db (P:=P) (w:=w) (I:=I) jZ e4 q1
     exact .var hb hh (by rw[i2];exact hs) dv (fun i v y hi hy=>i3 im i v y (fun x dj=>(hx i v x hi dj).mono hle) hy) ik
 ·obtain ⟨c1,x1,_,_⟩:=back j1 b1 e1 o1.alive
  obtain ⟨c2,x2,_,_⟩:=back j2 b2 e2 o2.alive
  exact hS.h.inj j1 j2 c1 c2 b' x1 x2 (zS _ _ _ _ _ e1 x1 o1) (zS _ _ _ _ _ e2 x2 o2)
 ·obtain ⟨c1,x1,_,_⟩:=back j blk hj ho.alive
  exact hS.h.own j c1 b' x1 (zS _ _ _ _ _ hj x1 ho)
 ·change aj P w I β xg v (ky (gh S.b6 (a++b)) k)
  unfold ky
  cases N6:eJ (gh S.b6 (a++b)) k with
  | none=>exact .undef
  | some y=>
   obtain ⟨s,d,im,n1,n2,n3⟩:=(N4 h1 bG).2 b N6
   simp only[Option.getD_some,n3]
   exact (N3 (P:=P) (w:=w) (I:=I) jZ n2 (gv.1 WH _ n1)).2 im v (hv.mono hle)
 ·have h3:=hE.trans hle
  refine ⟨h3.dR,h3.cO,fun id blk ae=> ?_,fun id blk blk' b' ae b9 hd hb=> ?_,fun id e es an e' bj vers' b2 q i c t v e1 l ae b9=> ?_⟩
  ·have hl:=bx id blk ae
   obtain ⟨blk',k1,k2,k3⟩:=h3.blk id blk ae
   simp only[bQ,af (show id<S.cM.length by omega)] at k1
   exact ⟨blk',k1,k2,k3⟩
  ·have hl:=bx id blk ae
   exact h3.size id blk blk' b' ae (by simp only[bQ,af (show id<S.cM.length by omega)];exact b9) hd hb
  ·have hl:=bx id _ ae
   exact h3.row id e es an e' bj vers' b2 q i c t v e1 l ae (by simp only[bQ,af (show id<S.cM.length by omega)];exact b9)
 ·obtain ⟨blk,e1,e2,_⟩:=back j blk' hj hd
  exact ⟨blk,e1,e2,fun o b' ho=>zS _ _ _ _ _ hj e1 ho⟩
end
section
variable {P:Program} {A:dg} {w w':World} {I I' I2:Nat→Nat→Prop} {μ β β':Nat→Option Nat} {hp hp' hp0:Nat→Option ah} {C:ab} {B:Nat} {M:Nat→Prop} {w0:Start}
inductive eU (P:Program) (w:World) (β:Nat→Option Nat) (hp:Nat→Option ah):Place→Option Nat→ah→Prop
 | var {id:Nat} {T:TypeId} {cs N7:List V}:hp id=some (.var T cs)→eU P w β hp (.blk id) (β id) (.var T N7)
 | arr {id:Nat} {e:TypeId} {es:List V}:hp id=some (.arr e es false)→eU P w β hp (.blk id) (β id) (.arr e es false)
 | nest {id:Nat} {e:TypeId} {es:List V} {an:List Nat}:hp id=some (.nest e es an)→eU P w β hp (.blk id) (β id) (.nest e es [0,0,0])
 | row {id ver b b':Nat} {path:Path} {e0 e':TypeId} {es l:List V} {an:List Nat}:hp id=some (.nest e0 es an)→β id=some b→At P w b e0 es path b' e' l→Ce P e'=true→
   0<path.length→path.length≤an.length→b8 an (path.length-1)=ver→0<l.length→eU P w β hp (.row id ver path) (some b') (.arr e' l false)
 | map {id:Nat} {t:TypeId} {es:List V}:hp id=some (.map t es)→eU P w β hp (.blk id) (β id) (.map t es)
def Dc (P:Program) (w:World) (β:Nat→Option Nat) (hp:Nat→Option ah) (ρ:List Place) (μ:Nat→Option Nat) (hp0:Nat→Option ah):Prop:=
 ∀j p,e7 ρ j=some p→∃blk,hp0 j=some blk∧eU P w β hp p (μ j) blk
theorem qB: ∀{l m:List Place} {j:Nat} {p:Place},e7 l j=some p→e7 (l++m) j=some p
 | [],m,j,p,h=>by cases h
 | a::l,m,0,p,h=>h
 | a::l,m,j+1,p,h=>qB (l:=l) h
theorem nw: ∀{l:List Place} {j:Nat},e7 l j=l[j]?
 | [],j=>by simp[e7]
 | a::l,0=>rfl
 | a::l,j+1=>by simp only[e7,nw,List.getElem?_cons_succ]
structure Ext (P:Program) (w:World) (I:Nat→Nat→Prop) (β:Nat→Option Nat) (hp:Nat→Option ah) (h h':Hand) (d:List V) (u:List (Nat × ah)):Prop where
 ds:h'.ds=h.ds++d
 upd:h'.upd=h.upd++u
 II: ∀q∈u,CB hp q
 pl: ∃m,h'.pl=h.pl++m
 nodup:(h.pl.map Place.id).Nodup→(h'.pl.map Place.id).Nodup
theorem Ext.refl (h:Hand):Ext P w I β hp h h [] []:=⟨by simp,by simp,by simp,⟨[],by simp⟩,id⟩
theorem Ext.trans {h1 h2 h3:Hand} {d1 d2:List V} {u1 u2:List (Nat × ah)} (a:Ext P w I β hp h1 h2 d1 u1) (b:Ext P w I β hp h2 h3 d2 u2):Ext P w I β hp h1 h3 (d1++d2) (u1++u2):=by
 obtain ⟨m1,e1⟩:=a.pl
 obtain ⟨m2,e2⟩:=b.pl
 exact ⟨by rw[b.ds,a.ds,db],by rw[b.upd,a.upd,db],fun q hq=>(eP.1 hq).elim (a.II q) (b.II q),⟨m1++m2,by rw[e2,e1,db]⟩,fun h=>b.nodup (a.nodup h)⟩
theorem Ext.look {h h':Hand} {d:List V} {u:List (Nat × ah)} (a:Ext P w I β hp h h' d u) {j:Nat} {p:Place} (hj:e7 h.pl j=some p):e7 h'.pl j=some p:=by
 obtain ⟨m,e⟩:=a.pl
 rw[e]
 exact qB hj
theorem Ext.leaf (h:Hand) (x:V):Ext P w I β hp h {h with ds:=h.ds++[x]} [x] []:=⟨rfl,by simp,by simp,⟨[],by simp⟩,id⟩
theorem ahj {α:Type} {ρ:List Place} {j:Nat} {p:Place} {k:List Place→Rd α} {r:α} {rd:List Nat} (h:(unify ρ j p k).run C hp=some (r,rd)) (hb: ∃id,p= .blk id∨∃ver path,p= .row id ver path):
  ∃ld,(k ld).run C hp=some (r,rd)∧(∃m,ld=ρ++m)∧e7 ld j=some p∧((ρ.map Place.id).Nodup→(ld.map Place.id).Nodup):=by
 unfold unify at h
 cases hc:Nat.blt j ρ.length with
 | true=>
  rw[hc] at h
  obtain ⟨h1,h2⟩:=a8 h
  refine ⟨ρ,h2,⟨[],by simp⟩,?_,id⟩
  unfold Vf at h1
  split at h1
  ·rename_i a b he
   rw[bB] at h1
   subst h1
   exact he
  ·cases h1
 | false=>
  rw[hc] at h
  obtain ⟨h1,h2⟩:=a8 h
  simp only[bn,bB,oY] at h1
  obtain ⟨rfl,h3⟩:=h1
  refine ⟨ρ++[p],h2,⟨[p],rfl⟩,?_,fun hn=> ?_⟩
  ·rw[nw];simp
  ·rw[nd,Ho]
   refine ⟨hn,by simp,fun a ha b hb=> ?_⟩
   simp only[ki,List.map_nil,iA] at hb
   subst hb
   intro e
   subst e
   rw[zO ha] at h3
   cases h3
theorem xh {α:Type} {h:Hand} {j:Nat} {p:Place} {k:List Place→Rd α} {r:α} {rd:List Nat} (hr:(unify h.pl j p k).run C hp=some (r,rd)) (ds:List V):
  ∃ld,(k ld).run C hp=some (r,rd)∧e7 ld j=some p∧Ext P w I β hp h {h with pl:=ld,ds:=h.ds++ds} ds []:=by
 obtain ⟨ld,a,b,c,d⟩:=ahj hr (by cases p with|blk id=>exact ⟨id,.inl rfl⟩|row id ver path=>exact ⟨id,.inr ⟨ver,path,rfl⟩⟩)
 exact ⟨ld,a,c,⟨rfl,by simp,by simp,b,d⟩⟩
theorem ahk {o:Option Nat} {blk:ah} {e:TypeId} {id j:Nat} {v:Value} (hv:aj P w I β hp v (.whole e id)) (hl:eU P w β hp (.blk id) o blk) (hj:hp0 j=some blk) (lf:μ j=o):aj P w I' μ hp0 v (.whole e j):=by
 cases hl with
 | var h=>
  cases hv with
  | eS h2=>rw[h] at h2;cases h2
  | eF h2=>rw[h] at h2;cases h2
  | whole h2=>rw[h] at h2;cases h2
  | e8 h2=>rw[h] at h2;cases h2
 | arr h=>
  cases hv with
  | eS h2=>rw[h] at h2;cases h2
  | eF h2 hb=>rw[h] at h2;cases h2;exact .eF hj (lf.trans hb)
  | whole h2 hb a b c=>rw[h] at h2;cases h2;exact .whole hj (lf.trans hb) a b c
  | e8 h2=>rw[h] at h2;cases h2
 | nest h=>
  cases hv with
  | eS h2=>rw[h] at h2;cases h2
  | eF h2=>rw[h] at h2;cases h2
  | whole h2=>rw[h] at h2;cases h2
  | e8 h2 hb a b c=>rw[h] at h2;cases h2;exact .e8 hj (lf.trans hb) a b c
 | map h=>
  cases hv with
  | eS h2=>rw[h] at h2;cases h2
  | eF h2=>rw[h] at h2;cases h2
  | whole h2=>rw[h] at h2;cases h2
  | e8 h2=>rw[h] at h2;cases h2
theorem ahl {o:Option Nat} {blk:ah} {t:TypeId} {id j:Nat} {v:Value} (hv:aj P w I β hp v (.cC t id)) (hl:eU P w β hp (.blk id) o blk) (hj:hp0 j=some blk) (lf:μ j=o):aj P w I' μ hp0 v (.cC t j):=by
 cases hv with
 | jw h2=>cases hl<;>(rename_i h;rw[h] at h2;cases h2)
 | cC h2 hb=>
  cases hl<;>(rename_i h;rw[h] at h2;cases h2)
  exact .cC hj (lf.trans hb)
theorem ahm {o:Option Nat} {blk:ah} {e:TypeId} {id off n j:Nat} {v:Value} (hv:aj P w I β hp v (.sub e id off n)) (hl:eU P w β hp (.blk id) o blk) (hj:hp0 j=some blk) (lf:μ j=o):aj P w I' μ hp0 v (.sub e j off n):=by
 cases hl with
 | var h=>
  cases hv with
  | ig h2=>rw[h] at h2;cases h2
  | gS h2=>rw[h] at h2;cases h2
  | sub h2=>rw[h] at h2;cases h2
 | arr h=>
  cases hv with
  | ig h2=>rw[h] at h2;cases h2
  | gS h2 hb=>rw[h] at h2;cases h2;exact .gS hj (lf.trans hb)
  | sub h2 hb a b c=>rw[h] at h2;cases h2;exact .sub hj (lf.trans hb) a b c
 | nest h=>
  cases hv with
  | ig h2=>rw[h] at h2;cases h2
  | gS h2=>rw[h] at h2;cases h2
  | sub h2=>rw[h] at h2;cases h2
 | map h=>
  cases hv with
  | ig h2=>rw[h] at h2;cases h2
  | gS h2=>rw[h] at h2;cases h2
  | sub h2=>rw[h] at h2;cases h2
theorem WI {o:Option Nat} {blk:ah} {id i c j:Nat} {v:Value} (hv:aj P w I β hp v (.ptr id i c)) (hl:eU P w β hp (.blk id) o blk) (hj:hp0 j=some blk) (lf:μ j=o):aj P w I' μ hp0 v (.ptr j i c):=by
 cases hl with
 | @var _ T0 cs N7 h=>
  obtain ⟨b,hb,rfl⟩:=hv.jc h (by simp)
  exact aj.ptr (blk:= .var T0 N7) hj (by simp) (lf.trans hb)
 | @arr _ e es h=>
  obtain ⟨b,hb,rfl⟩:=hv.jc h (by simp)
  exact aj.ptr (blk:= .arr e es false) hj (by simp) (lf.trans hb)
 | @nest _ e es an h=>
  obtain ⟨b,hb,rfl⟩:=hv.jc h (by simp)
  exact aj.ptr (blk:= .nest e es [0,0,0]) hj (by simp) (lf.trans hb)
 | @map _ t es h=>
  obtain ⟨b,hb,rfl⟩:=hv.jc h (by simp)
  exact aj.ptr (blk:= .map t es) hj (by simp) (lf.trans hb)
theorem ahn (dm: ∀id blk,hp id=some blk→eT P w I β hp (β id) blk) {id b i c:Nat} {e0 t:TypeId} {es l:List V} {an:List Nat} {q:Path} {e:TypeId} {v:Value} (ae:hp id=some (.nest e0 es an)) (hb:β id=some b)
  (ht:P.underlying t=some (.slice e)) (hc:oj P w b e0 es q i c t v (.list e l)) (hl:0<l.length): ∃b1 cap,v= .slice (some ⟨b1,0,none⟩) l.length cap∧cap*P.cellsOf e=bsize w b1∧l.length≤cap∧cap≤maxLen∧At P w b e0 es (q++[(i,c)]) b1 e l:=by
 obtain ⟨b2,e1,m,Ca,T,f,x,n1,n2,n3,n4,n5,n6⟩:=hc
 have hr:=dm _ _ ae
 cases hr with
 | nest aI hr hn=>
  rw[hb] at aI;cases aI
  have hR:=hr _ _ _ _ n1
  obtain ⟨CH,c1,c2,c3⟩:=hR.cells
  rw[n2] at c1
  cases c1
  have wQ:c<P.cellsOf e1:=by rw[←gi hR.ok];exact (bO.1 n4).1
  obtain ⟨v',d1,d2⟩:=c3 i c x t n3 n4 wQ
  rw[n6] at d1
  cases d1
  rw[n5] at d2
  generalize hy:V.list e l=y at d2
  cases d2 with
  | gR a p=>unfold gM at a;rw[ht] at a;cases a
  | emp hu ha=>cases hy;simp at hl
  | row hu lJ bG cJ qq=>
   cases hy
   exact ⟨_,_,rfl,bG,cJ,qq,n1.snoc n2 n3 n4 ht n5 lJ n6⟩
theorem aho (S:aW P w I β hp B M w0) {o:Option Nat} {blk:ah} {e:TypeId} {id ver j:Nat} {path:Path} {v:Value} (hv:aj P w I β hp v (.row e id ver path)) (hl:eU P w β hp (.row id ver path) o blk) (hj:hp0 j=some blk) (lf:μ j=o):aj P w I' μ hp0 v (.whole e j):=by
 cases hl with
 | row h hb ha hf h1 h2 h3 h4=>
  obtain ⟨b2,q,i,c,t,l2,rfl,gk,ht,hc⟩:=hv.Vn h h1 h2 h3
  rw[hb] at gk;cases gk
  obtain ⟨p1,p2⟩:=M5 ha
  have fX:=hc
  obtain ⟨b3,e3,m3,Ca,T,f,x,n1,n2,n3,n4,n5,n6⟩:=fX
  obtain ⟨q1,q2⟩:=HX n1 n3 n4 ht n5
  rw[p1] at q1
  rw[p2] at q2
  cases q1
  cases q2
  obtain ⟨b1,cap,rfl,m1,m2,m4,m5⟩:=ahn S.h.rel h hb ht hc h4
  have:=ahp ha m5
  subst this
  exact .whole hj lf m1 m2 m4
where
 ahp {b b1 b2:Nat} {e e1 e2:TypeId} {es l l2:List V} {q:Path} (h:At P w b e es q b1 e1 l) (h2:At P w b e es q b2 e2 l2):b2=b1:=(h.fun h2).1
theorem WJ (S:aW P w I β hp B M w0) {α:Type} {l:LS} {x:V} {h:Hand} {k:Hand→Rd α} {r:α} {rd:List Nat} {v:Value} (hr:(HK P l x h k).run C hp=some (r,rd)) (hv:aj P w I β hp v x):
  ∃h' fP d u,(k h').run C hp=some (r,fP)∧Ext P w I β hp h h' d u∧d.length=l.size∧
   ∀(I':Nat→Nat→Prop) (μ:Nat→Option Nat) (hp0:Nat→Option ah),(∀b j,I b j→I' b j)→(∀q∈u,∀b j,u6 P w β hp q.1 b j→I' b j)→∀ρ m,ρ=h'.pl++m→Dc P w β hp ρ μ hp0→∀rest,aj P w I' μ hp0 v (jR l (d++rest)):=by
 have plain: ∀{x':V} {kE:List Nat},(k {h with ds:=h.ds++[x']}).run C hp=some (r,kE)→l.size=1→(∀I' μ hp0 rest,aj P w I' μ hp0 v (jR l ([x']++rest)))→∃h' fP d u,(k h').run C hp=some (r,fP)∧Ext P w I β hp h h' d u∧d.length=l.size∧
   ∀(I':Nat→Nat→Prop) (μ:Nat→Option Nat) (hp0:Nat→Option ah),(∀b j,I b j→I' b j)→(∀q∈u,∀b j,u6 P w β hp q.1 b j→I' b j)→∀ρ m,ρ=h'.pl++m→Dc P w β hp ρ μ hp0→∀rest,aj P w I' μ hp0 v (jR l (d++rest)):=
  fun hk hs hx=>⟨_,_,_,_,hk,Ext.leaf h _,hs.symm,fun I' μ hp0 _ _ _ _ _ _ rest=>hx I' μ hp0 rest⟩
 have rS: ∀{kE:List Nat},(k h).run C hp=some (r,kE)→l.size=0→(∀I' μ hp0 rest,aj P w I' μ hp0 v (jR l rest))→∃h' fP d u,(k h').run C hp=some (r,fP)∧Ext P w I β hp h h' d u∧d.length=l.size∧
   ∀(I':Nat→Nat→Prop) (μ:Nat→Option Nat) (hp0:Nat→Option ah),(∀b j,I b j→I' b j)→(∀q∈u,∀b j,u6 P w β hp q.1 b j→I' b j)→∀ρ m,ρ=h'.pl++m→Dc P w β hp ρ μ hp0→∀rest,aj P w I' μ hp0 v (jR l (d++rest)):=
  fun hk hs hx=>⟨_,_,_,_,hk,Ext.refl h,by simp[hs],fun I' μ hp0 _ _ _ _ _ _ rest=>hx I' μ hp0 rest⟩
 unfold HK at hr
 cases l with
 | uK=>exact rS hr rfl fun _ _ _ _=> .undef
 | int kd=>
  cases x<;>simp only at hr<;>first|(cases hr;done)|skip
  obtain ⟨h1,h2⟩:=a8 hr
  simp only[dW] at h1
  subst h1
  obtain rfl:=hv.fa
  exact plain h2 rfl fun _ _ _ _=> .int
 | bool=>
  cases x<;>simp only at hr<;>first|(cases hr;done)|skip
  obtain rfl:=hv.kW
  exact plain hr rfl fun _ _ _ _=> .bool
 | str=>
  cases x<;>simp only at hr<;>first|(cases hr;done)|skip
  obtain ⟨s,rfl,hl⟩:=hv.oo
  exact plain hr rfl fun _ _ _ _=> .str hl
 | nilS e=>
  cases x<;>simp only at hr<;>first|(cases hr;done)|skip
  obtain ⟨h1,h2⟩:=a8 hr
  cases hv with
  | nilS=>exact rS h2 rfl fun _ _ _ _=> .nilS
 | ee=>
  cases x<;>simp only at hr<;>first|(cases hr;done)|skip
  cases hv with
  | ee=>exact rS hr rfl fun _ _ _ _=> .ee
 | row e j cs=>
  cases x<;>simp only at hr<;>first|(cases hr;done)|skip
  rename_i e' id ver path
  obtain ⟨e0,es,an,l0,ae,p1,p2,p3,hr⟩:=qp hr
  obtain ⟨h1,h2⟩:=a8 hr
  simp only[bn,bB,fC] at h1
  obtain ⟨rfl,qu,hp3⟩:=h1
  have:=z7 qu
  subst this
  obtain ⟨ld,a,b,c⟩:=xh (P:=P) (w:=w) (I:=I) (β:=β) h2 (path.map fun p=>e6 p.1)
  refine ⟨_,_,path.map fun p=>e6 p.1,[],a,c,by simp[LS.size],fun I' μ hp0 i1 i2 ρ m ey dK rest=> ?_⟩
  obtain ⟨blk,k1,k2⟩:=dK j _ (by rw[ey];exact qB b)
  obtain ⟨bb,q,i,cc,t,l,rfl,hb,ht,hc⟩:=hv.Vn ae p1 p2 p3
  have rK:blk= .nest e0 es [0,0,0]∧μ j=β id:=by
   generalize μ j=o at k2
   cases k2 with
   | var h=>rw[ae] at h;cases h
   | arr h=>rw[ae] at h;cases h
   | map h=>rw[ae] at h;cases h
   | nest h=>rw[ae] at h;cases h;exact ⟨rfl,rfl⟩
  obtain ⟨rfl,lf⟩:=rK
  simp only[jR,IG]
  have hq:q.length<3:=by rw[cX,List.length_singleton] at hp3;omega
  refine .row k1 (lf.trans hb) (by simpa using hq) ?_ ht hc
  match q.length,hq with
  | 0,_=>rfl
  | 1,_=>rfl
  | 2,_=>rfl
 | dk j cs c=>cases hr
 | zo k n=>cases hr
 | Hv b=>cases hr
 | eg t=>
  cases x<;>simp only at hr<;>first|(cases hr;done)|skip
  obtain ⟨h1,h2⟩:=a8 hr
  cases hv with
  | eg=>exact rS h2 rfl fun _ _ _ _=> .eg
 | cC t j=>
  cases x<;>simp only at hr<;>first|(cases hr;done)|skip
  rename_i t' id
  obtain ⟨h1,h2⟩:=a8 hr
  rw[bB] at h1
  subst h1
  obtain ⟨ld,a,b,c⟩:=xh (P:=P) (w:=w) (I:=I) (β:=β) h2 []
  refine ⟨_,_,[],[],a,by simpa using c,rfl,fun I' μ hp0 i1 i2 ρ m ey dK rest=> ?_⟩
  obtain ⟨blk,k1,k2⟩:=dK j _ (by rw[ey];exact qB b)
  exact ahl hv k2 k1 rfl
 | list e=>
  obtain ⟨⟨y,u⟩,l1,l2,h1,h2⟩:=mu hr
  cases y<;>simp only at h2<;>first|(cases h2;done)|skip
  rename_i e' es
  obtain ⟨h3,h4⟩:=a8 h2
  rw[bB] at h3
  subst h3
  obtain ⟨p1,p2⟩:=HY S.h.rel h1 hv
  exact ⟨_,_,[.list e es],u,h4,⟨rfl,rfl,p1,⟨[],by simp⟩,id⟩,rfl,fun I' μ hp0 i1 i2 _ _ _ _ rest=> .list (p2 I' i1 i2)⟩
 | whole e j=>
  cases x<;>simp only at hr<;>first|(cases hr;done)|skip
  ·rename_i e' id
   obtain ⟨h1,h2⟩:=a8 hr
   rw[bB] at h1
   subst h1
   obtain ⟨ld,a,b,c⟩:=xh (P:=P) (w:=w) (I:=I) (β:=β) h2 []
   refine ⟨_,_,[],[],a,by simpa using c,rfl,fun I' μ hp0 i1 i2 ρ m ey dK rest=> ?_⟩
   obtain ⟨blk,k1,k2⟩:=dK j _ (by rw[ey];exact qB b)
   exact ahk hv k2 k1 rfl
  ·rename_i e' id ver path
   obtain ⟨h1,h2⟩:=a8 hr
   rw[bB] at h1
   subst h1
   obtain ⟨ld,a,b,c⟩:=xh (P:=P) (w:=w) (I:=I) (β:=β) h2 []
   refine ⟨_,_,[],[],a,by simpa using c,rfl,fun I' μ hp0 i1 i2 ρ m ey dK rest=> ?_⟩
   obtain ⟨blk,k1,k2⟩:=dK j _ (by rw[ey];exact qB b)
   exact aho S hv k2 k1 rfl
 | sub e j=>
  cases x<;>simp only at hr<;>first|(cases hr;done)|skip
  rename_i e' id o n
  obtain ⟨h1,h2⟩:=a8 hr
  rw[bB] at h1
  subst h1
  obtain ⟨ld,a,b,c⟩:=xh (P:=P) (w:=w) (I:=I) (β:=β) h2 [e6 o,e6 n]
  refine ⟨_,_,[e6 o,e6 n],[],a,c,rfl,fun I' μ hp0 i1 i2 ρ m ey dK rest=> ?_⟩
  obtain ⟨blk,k1,k2⟩:=dK j _ (by rw[ey];exact qB b)
  simpa[jR,V.nth] using ahm (I':=I') hv k2 k1 rfl
 | ptr j=>
  cases x<;>simp only at hr<;>first|(cases hr;done)|skip
  rename_i id i c
  obtain ⟨ld,a,b,c'⟩:=xh (P:=P) (w:=w) (I:=I) (β:=β) hr [e6 i,e6 c]
  refine ⟨_,_,[e6 i,e6 c],[],a,c',rfl,fun I' μ hp0 i1 i2 ρ m ey dK rest=> ?_⟩
  obtain ⟨blk,k1,k2⟩:=dK j _ (by rw[ey];exact qB b)
  simpa[jR,V.nth] using WI (I':=I') hv k2 k1 rfl
 | eR j i c=>
  cases x<;>simp only at hr<;>first|(cases hr;done)|skip
  rename_i id i' c'
  obtain ⟨h1,h2⟩:=a8 hr
  simp only[bn,bB] at h1
  obtain ⟨rfl,rfl⟩:=h1
  obtain ⟨ld,a,b,c'⟩:=xh (P:=P) (w:=w) (I:=I) (β:=β) h2 []
  refine ⟨_,_,[],[],a,by simpa using c',rfl,fun I' μ hp0 i1 i2 ρ m ey dK rest=> ?_⟩
  obtain ⟨blk,k1,k2⟩:=dK j _ (by rw[ey];exact qB b)
  exact WI hv k2 k1 rfl
end
section
variable {P:Program} {A:dg} {w w':World} {I I' I2:Nat→Nat→Prop} {μ β β':Nat→Option Nat} {hp hp' hp0:Nat→Option ah} {C:ab} {B:Nat} {M:Nat→Prop} {w0:Start}
def oy (P:Program) (w:World) (I:Nat→Nat→Prop) (β:Nat→Option Nat) (hp:Nat→Option ah) (h':Hand) (u:List (Nat × ah)) (K:(Nat→Nat→Prop)→(Nat→Option Nat)→(Nat→Option ah)→Prop):Prop:=
 ∀(I':Nat→Nat→Prop) (μ:Nat→Option Nat) (hp0:Nat→Option ah),(∀b j,I b j→I' b j)→(∀q∈u,∀b j,u6 P w β hp q.1 b j→I' b j)→∀ρ m,ρ=h'.pl++m→Dc P w β hp ρ μ hp0→K I' μ hp0
theorem oy.later {h h':Hand} {d:List V} {u u':List (Nat × ah)} {K:(Nat→Nat→Prop)→(Nat→Option Nat)→(Nat→Option ah)→Prop} (t:oy P w I β hp h u K) (e:Ext P w I β hp h h' d u'):oy P w I β hp h' (u++u') K:=by
 obtain ⟨m1,e1⟩:=e.pl
 exact fun I' μ hp0 i1 i2 ρ m ey dK=>t I' μ hp0 i1 (fun q hq=>i2 q (eP.2 (.inl hq))) ρ (m1++m) (by rw[ey,e1,db]) dK
theorem oy.more {h:Hand} {u u':List (Nat × ah)} {K:(Nat→Nat→Prop)→(Nat→Option Nat)→(Nat→Option ah)→Prop} (t:oy P w I β hp h u K):oy P w I β hp h (u'++u) K:=
 fun I' μ hp0 i1 i2 ρ m ey dK=>t I' μ hp0 i1 (fun q hq=>i2 q (eP.2 (.inr hq))) ρ m ey dK
theorem IJ (S:aW P w I β hp B M w0) {α:Type}: ∀{ls:List LS} {xs:List V} {h:Hand} {k:Hand→Rd α} {r:α} {rd:List Nat} {vs:List Value},(zy P ls xs h k).run C hp=some (r,rd)→vs.length=xs.length→
  (∀(j:Nat) v x,vs[j]? =some v→xs[j]? =some x→aj P w I β hp v x)→
  ∃h' fP d u,(k h').run C hp=some (r,fP)∧Ext P w I β hp h h' d u∧d.length=lD ls∧ls.length=xs.length∧
   oy P w I β hp h' u fun I' μ hp0=> ∀rest,(jq ls (d++rest)).length=xs.length∧∀(j:Nat) v y,vs[j]? =some v→(jq ls (d++rest))[j]? =some y→aj P w I' μ hp0 v y
 | [],[],h,k,r,rd,vs,hr,hl,hv=>⟨h,rd,[],[],hr,Ext.refl h,rfl,rfl,fun I' μ hp0 _ _ _ _ _ _ rest=>⟨rfl,fun j v y _ hy=>by simp[jq] at hy⟩⟩
 | [],_::_,h,k,r,rd,vs,hr,hl,hv=>by cases hr
 | _::_,[],h,k,r,rd,vs,hr,hl,hv=>by cases hr
 | l::ls,x::xs,h,k,r,rd,vs,hr,hl,hv=>by
  cases vs with
  | nil=>simp at hl
  | cons v vs=>
   simp only[zy] at hr
   obtain ⟨h1,kE,d1,u1,a1,a2,a3,a4⟩:=WJ S hr (hv 0 v x rfl rfl)
   obtain ⟨h2,vi,d2,u2,b1,b2,b3,b5,b4⟩:=IJ S a1 (by simpa using hl) (vs:=vs) (fun j v x hj hx=>hv (j+1) v x (by simpa using hj) (by simpa using hx))
   have a4':oy P w I β hp h1 u1 fun I' μ hp0=> ∀rest,aj P w I' μ hp0 v (jR l (d1++rest)):=a4
   refine ⟨h2,vi,d1++d2,u1++u2,b1,a2.trans b2,by simp only[cX,lD];omega,by simp[b5],fun I' μ hp0 i1 i2 ρ m ey dK rest=> ?_⟩
   have k1:=(a4'.later b2) I' μ hp0 i1 i2 ρ m ey dK (d2++rest)
   obtain ⟨k2,k3⟩:=b4.more I' μ hp0 i1 i2 ρ m ey dK rest
   simp only[jq]
   rw[show (d1++d2++rest).drop l.size=d2++rest by rw[db];exact pq a3,db]
   refine ⟨by simp[k2],fun j v' y hj hy=> ?_⟩
   cases j with
   | zero=>simp at hj hy;subst hj;subst hy;exact k1
   | succ j=>exact k3 j v' y (by simpa using hj) (by simpa using hy)
theorem ahq (S:aW P w I β hp B M w0) {α:Type} {s:VS} {x:V} {h:Hand} {k:Hand→Rd α} {r:α} {rd:List Nat} {v:Value} (hr:(Ci P s x h k).run C hp=some (r,rd)) (hv:aj P w I β hp v x):
  ∃h' fP d u,(k h').run C hp=some (r,fP)∧Ext P w I β hp h h' d u∧d.length=s.size∧
   oy P w I β hp h' u fun I' μ hp0=> ∀rest,aj P w I' μ hp0 v (mo s (d++rest)):=by
 cases s with
 | one l=>
  simp only[Ci] at hr
  obtain ⟨h1,kE,d1,u1,a1,a2,a3,a4⟩:=WJ S hr hv
  exact ⟨h1,kE,d1,u1,a1,a2,a3,a4⟩
 | agg ls=>
  cases x<;>simp only[Ci] at hr<;>first|(cases hr;done)|skip
  rename_i xs
  obtain ⟨cs,rfl,e1,e2⟩:=hv.my
  obtain ⟨h1,kE,d1,u1,a1,a2,a3,a5,a4⟩:=IJ S hr (vs:=cs.toList) (by simpa using e1) (fun j v x hj hx=>e2 j v x (by simpa using hj) hx)
  refine ⟨h1,kE,d1,u1,a1,a2,a3,fun I' μ hp0 i1 i2 ρ m ey dK rest=> ?_⟩
  obtain ⟨k1,k2⟩:=a4 I' μ hp0 i1 i2 ρ m ey dK rest
  exact .agg (by rw[k1];exact e1) fun j v y hj hy=>k2 j v y (by simpa using hj) hy
 | bL ls=>cases x<;>cases hr
 | pref ts ls=>cases x<;>cases hr
 | fn f a b=>
  cases x<;>simp only[Ci] at hr<;>first|(cases hr;done)|skip
  rename_i f' xs ys
  obtain ⟨hc,qC⟩:=a8 hr
  clear hr
  rw[bB] at hc
  subst hc
  cases hv with
  | @fn _ fs cs _ _ q1 q2 q3 q4=>
   obtain ⟨h1,kE,d1,u1,a1,a2,a3,a5,a4⟩:=IJ S qC (vs:=fs.toList) (by simpa using q1) (fun j v x hj hx=>q2 j v x (by simpa using hj) hx)
   obtain ⟨h2,vi,d2,u2,b1,b2,b3,b5,b4⟩:=IJ S a1 (vs:=cs.toList) (by simpa using q3) (fun j v x hj hx=>q4 j v x (by simpa using hj) hx)
   refine ⟨h2,vi,d1++d2,u1++u2,b1,a2.trans b2,by simp only[cX,VS.size];omega,fun I' μ hp0 i1 i2 ρ m ey dK rest=> ?_⟩
   obtain ⟨k1,k2⟩:=(a4.later b2) I' μ hp0 i1 i2 ρ m ey dK (d2++rest)
   obtain ⟨k3,k4⟩:=b4.more I' μ hp0 i1 i2 ρ m ey dK rest
   simp only[mo]
   rw[show (d1++d2++rest).drop (lD a)=d2++rest by rw[db];exact pq a3,db]
   exact .fn (by rw[k1];exact q1) (fun j v y hj hy=>k2 j v y (by simpa using hj) hy) (by rw[k3];exact q3) (fun j v y hj hy=>k4 j v y (by simpa using hj) hy)
theorem N8 (S:aW P w I β hp B M w0) {α:Type}: ∀{ls:List VS} {xs:List V} {h:Hand} {k:Hand→Rd α} {r:α} {rd:List Nat} {vs:List Value},(Cj P ls xs h k).run C hp=some (r,rd)→vs.length=xs.length→
  (∀(j:Nat) v x,vs[j]? =some v→xs[j]? =some x→aj P w I β hp v x)→
  ∃h' fP d u,(k h').run C hp=some (r,fP)∧Ext P w I β hp h h' d u∧d.length=uU ls∧ls.length=xs.length∧
   oy P w I β hp h' u fun I' μ hp0=> ∀rest,(gz ls (d++rest)).length=xs.length∧∀(j:Nat) v y,vs[j]? =some v→(gz ls (d++rest))[j]? =some y→aj P w I' μ hp0 v y
 | [],[],h,k,r,rd,vs,hr,hl,hv=>⟨h,rd,[],[],hr,Ext.refl h,rfl,rfl,fun I' μ hp0 _ _ _ _ _ _ rest=>⟨rfl,fun j v y _ hy=>by simp[gz] at hy⟩⟩
 | [],_::_,h,k,r,rd,vs,hr,hl,hv=>by cases hr
 | _::_,[],h,k,r,rd,vs,hr,hl,hv=>by cases hr
 | l::ls,x::xs,h,k,r,rd,vs,hr,hl,hv=>by
  cases vs with
  | nil=>simp at hl
  | cons v vs=>
   simp only[Cj] at hr
   obtain ⟨h1,kE,d1,u1,a1,a2,a3,a4⟩:=ahq S hr (hv 0 v x rfl rfl)
   obtain ⟨h2,vi,d2,u2,b1,b2,b3,b5,b4⟩:=N8 S a1 (by simpa using hl) (vs:=vs) (fun j v x hj hx=>hv (j+1) v x (by simpa using hj) (by simpa using hx))
   refine ⟨h2,vi,d1++d2,u1++u2,b1,a2.trans b2,by simp only[cX,uU];omega,by simp[b5],fun I' μ hp0 i1 i2 ρ m ey dK rest=> ?_⟩
   have k1:=(a4.later b2) I' μ hp0 i1 i2 ρ m ey dK (d2++rest)
   obtain ⟨k2,k3⟩:=b4.more I' μ hp0 i1 i2 ρ m ey dK rest
   simp only[gz]
   rw[show (d1++d2++rest).drop l.size=d2++rest by rw[db];exact pq a3,db]
   refine ⟨by simp[k2],fun j v' y hj hy=> ?_⟩
   cases j with
   | zero=>simp at hj hy;subst hj;subst hy;exact k1
   | succ j=>exact k3 j v' y (by simpa using hj) (by simpa using hy)
def IK:List BS→Nat
 | []=>0
 | b::l=>b.size+IK l
theorem WK: ∀{b:Nat} {e e':TypeId} {es:List V} {v:V},(∀q b' e' m,At P w b e es q b' e' m→kz P w I b' e' m)→∀(path:Path),lB P e path=some e'→jQ P e es path=some v→0<v.toList.length→
  ∃b1,At P w b e es path b1 e' v.toList
 | b,e,e',es,v,dc,[],ht,hv,hl=>by
  simp only[lB,eE] at ht
  simp only[jQ,eE] at hv
  subst ht;subst hv
  exact ⟨b,.here⟩
 | b,e,e',es,v,dc,(i,c)::q,ht,hv,hl=>by
  simp only[lB] at ht
  simp only[jQ] at hv
  obtain ⟨x,hx,hv⟩:=bind_some hv
  cases N9:(lB.B6 P e)[c]? with
  | none=>rw[N9] at ht;cases ht
  | some t=>
   rw[N9] at ht
   simp only at ht
   have IL:(bC P e)[c]? =some t:=N9
   cases hu:P.underlying t with
   | none=>rw[hu] at ht;cases ht
   | some d=>
    rw[hu] at ht
    cases d<;>simp only at ht<;>first|(cases ht;done)|skip
    rename_i e1
    rw[pd IL] at hv
    have hR:=dc _ _ _ _ .here
    obtain ⟨Ca,c1,c2,c3⟩:=hR.cells
    have wQ:c<P.cellsOf e:=by rw[←gi hR.ok];exact (bO.1 IL).1
    obtain ⟨u,d1,d2⟩:=c3 i c x t hx IL wQ
    rw[d2.va] at hv
    generalize hy:cl P e x c=y at d2 hv
    cases d2 with
    | gR a p=>unfold gM at a;rw[hu] at a;cases a
    | @emp e2 a cap rT ha=>
     rw[hu] at rT;cases rT
     simp only at hv
     cases q with
     | nil=>simp only[jQ,eE] at hv;subst hv;simp[V.toList] at hl
     | cons a q=>simp[jQ] at hv
    | @row e2 cN b2 cap rT lJ bG cJ qq=>
     rw[hu] at rT;cases rT
     simp only at hv
     have jx: ∀{q b' e' bj},At P w b2 e1 cN q b' e' bj→At P w b e es ((i,c)::q) b' e' bj:=fun h=> .step c1 hx IL hu hy lJ d1 h
     obtain ⟨b1,kY⟩:=WK (fun q b' e' m h=>dc _ _ _ _ (jx h)) q ht hv hl
     exact ⟨b1,jx kY⟩
theorem WM (S:aW P w I β hp B M w0) {α:Type}: ∀{bs:List BS} {j:Nat} {h:Hand} {k:Hand→Rd α} {r:α} {rd:List Nat},(sV P bs j h k).run C hp=some (r,rd)→
  ∃h' fP d u,(k h').run C hp=some (r,fP)∧Ext P w I β hp h h' d u∧d.length=IK bs∧
   ∀rest,(fF bs (d++rest)).length=bs.length∧∃o:Nat→Option Nat,
    (∀(i:Nat) blk,(fF bs (d++rest))[i]? =some blk→∃p,e7 h'.pl (j+i)=some p∧eU P w β hp p (o i) blk)∧
    oy P w I β hp h' u fun I' μ hp0=> ∀(i:Nat) blk,(fF bs (d++rest))[i]? =some blk→(∀b,bW P w (o i) blk b→∀j,¬I' b j)→eT P w I' μ hp0 (o i) blk
 | [],j,h,k,r,rd,hr=>⟨h,rd,[],[],hr,Ext.refl h,rfl,fun rest=>⟨rfl,fun _=>none,fun i blk hb=>by simp[fF] at hb,fun I' μ hp0 _ _ _ _ _ _ i blk hb=>by simp[fF] at hb⟩⟩
 | b::bs,j,h,k,r,rd,hr=>by
  simp only[sV] at hr
  have fin: ∀{h1:Hand} {kE:List Nat} {d1:List V} {u1:List (Nat × ah)} {o1:Option Nat} {p:Place},(sV P bs (j+1) h1 k).run C hp=some (r,kE)→Ext P w I β hp h h1 d1 u1→d1.length=b.size→e7 h.pl j=some p→
    (∀rest,eU P w β hp p o1 (gN b (d1++rest)))→(∀rest,oy P w I β hp h1 u1 fun I' μ hp0=>(∀bb,bW P w o1 (gN b (d1++rest)) bb→∀j,¬I' bb j)→eT P w I' μ hp0 o1 (gN b (d1++rest)))→
    ∃h' fP d u,(k h').run C hp=some (r,fP)∧Ext P w I β hp h h' d u∧d.length=IK (b::bs)∧
     ∀rest,(fF (b::bs) (d++rest)).length=(b::bs).length∧∃o:Nat→Option Nat,
      (∀(i:Nat) blk,(fF (b::bs) (d++rest))[i]? =some blk→∃p,e7 h'.pl (j+i)=some p∧eU P w β hp p (o i) blk)∧
      oy P w I β hp h' u fun I' μ hp0=> ∀(i:Nat) blk,(fF (b::bs) (d++rest))[i]? =some blk→(∀b,bW P w (o i) blk b→∀j,¬I' b j)→eT P w I' μ hp0 (o i) blk:=by
   intro h1 kE d1 u1 o1 p hk he hd bQ hl ht
   obtain ⟨h2,vi,d2,u2,b1,b2,b3,b4⟩:=WM S hk
   refine ⟨h2,vi,d1++d2,u1++u2,b1,he.trans b2,by simp only[cX,IK];omega,fun rest=> ?_⟩
   obtain ⟨c1,o,c2,c3⟩:=b4 rest
   simp only[fF]
   rw[show (d1++d2++rest).drop b.size=d2++rest by rw[db];exact pq hd,db]
   refine ⟨by simp[c1],fun i=>match i with|0=>o1|i+1=>o i,fun i blk hb=> ?_,fun I' μ hp0 i1 i2 ρ m ey dK i blk hb dv=> ?_⟩
   ·cases i with
    | zero=>
     simp at hb
     subst hb
     exact ⟨p,b2.look (he.look bQ),hl _⟩
    | succ i=>
     obtain ⟨q,e1,e2⟩:=c2 i blk (by simpa using hb)
     exact ⟨q,by rw[show j+(i+1)=j+1+i by omega];exact e1,e2⟩
   ·cases i with
    | zero=>
     simp at hb
     subst hb
     exact ((ht _).later b2) I' μ hp0 i1 i2 ρ m ey dK dv
    | succ i=>exact c3.more I' μ hp0 i1 i2 ρ m ey dK i blk (by simpa using hb) dv
  cases bQ:e7 h.pl j with
  | none=>rw[bQ] at hr;cases hr
  | some p=>
   rw[bQ] at hr
   cases p with
   | blk id=>
    obtain ⟨l1,hr⟩:=run_get hr
    cases ae:hp id with
    | none=>rw[ae] at hr;cases hr
    | some blk=>
     rw[ae] at hr
     cases blk with
     | dead=>cases hr
     | var T0 cs=>
      cases b<;>simp only at hr<;>first|(cases hr;done)|skip
      rename_i T1 ss
      obtain ⟨hT,hr1⟩:=a8 hr
      clear hr
      rw[bB] at hT
      subst hT
      have dm:=S.h.rel id _ ae
      generalize ho:β id=o at dm
      cases dm with
      | @var _ bb Ca T hb hh hs hI hx ik=>
       obtain ⟨h1,kE,d1,u1,a1,a2,a3,a5,a4⟩:=N8 S hr1 (vs:=Ca.toList) (by simpa using hs) (fun j v x hj dj=>hx j v x (by simpa using hj) dj)
       refine fin (o1:=β id) a1 a2 a3 bQ (fun rest=> .var ae) fun rest I' μ hp0 i1 i2 ρ m ey dK dv=> ?_
       obtain ⟨k1,k2⟩:=a4 I' μ hp0 i1 i2 ρ m ey dK rest
       exact .var (ho.trans hb) hh (by rw[k1];exact hs) (dv _ (.root (by simp[gN]) (ho.trans hb))) (fun i v y hi hy=>k2 i v y (by simpa using hi) hy) ik
     | arr e' es fz=>
      cases fz with
      | true=>cases hr
      | false=>
       cases b with
       | arr e fz=>
        cases fz with
        | true=>cases hr
        | false=>
         obtain ⟨hc,qC⟩:=a8 hr
         clear hr
         rw[bB] at hc
         subst hc
         refine fin (d1:=[.list e es]) (o1:=β id) qC (Ext.leaf h _) rfl bQ (fun rest=>eU.arr ae) fun rest I' μ hp0 i1 i2 ρ m ey dK dv=> ?_
         change eT P w I' μ hp0 (β id) (.arr e es false)
         have dm:=S.h.rel id _ ae
         generalize ho:β id=o at dm dv⊢
         cases dm with
         | eh hb=>exact .eh hb
         | arr a1 a2 a3 a4 a5 a6 a7=>
          refine .arr a1 a2 a3 a4 (fun h=>by cases h) (fun _=>dv _ (.root (by simp[gN]) a2)) fun i j x t' y1 y2 y3=> ?_
          obtain ⟨v,z1,z2⟩:=a7 i j x t' y1 y2 y3
          exact ⟨v,z1,z2.mono i1 fun _ _ _=>rfl⟩
       | _=>cases hr
     | nest e' es an=>
      cases b with
      | nest e=>
       obtain ⟨hc,qC⟩:=a8 hr
       clear hr
       rw[bB] at hc
       subst hc
       refine fin (d1:=[.list e es]) (o1:=β id) qC (Ext.leaf h _) rfl bQ (fun rest=>eU.nest ae) fun rest I' μ hp0 i1 i2 ρ m ey dK dv=> ?_
       have WN: ∀bb,bW P w (β id) (.nest e es [0,0,0]) bb→∀j,¬I' bb j:=dv
       change eT P w I' μ hp0 (β id) (.nest e es [0,0,0])
       have dm:=S.h.rel id _ ae
       generalize ho:β id=o at dm WN⊢
       cases dm with
       | nest hb dc qv=>
        refine .nest hb (fun q b' e1 m1 hq=> ?_) qv
        obtain ⟨ok,⟨Ca,c1,c2,c3⟩,nI⟩:=dc q b' e1 m1 hq
        refine ⟨ok,⟨Ca,c1,c2,fun i j x t' y1 y2 y3=> ?_⟩,WN _ (.row hb hq)⟩
        obtain ⟨v,z1,z2⟩:=c3 i j x t' y1 y2 y3
        exact ⟨v,z1,z2.mono i1 (fun _ _ _=>rfl) fun _ _ _ _ _=>rfl⟩
      | _=>cases hr
     | map t' es=>
      cases b with
      | map t=>
       obtain ⟨hc,qC⟩:=a8 hr
       clear hr
       rw[bB] at hc
       subst hc
       refine fin (d1:=[.list t es]) (o1:=β id) qC (Ext.leaf h _) rfl bQ (fun rest=>eU.map ae) fun rest I' μ hp0 i1 i2 ρ m ey dK dv=> ?_
       change eT P w I' μ hp0 (β id) (.map t es)
       have dm:=S.h.rel id _ ae
       generalize ho:β id=o at dm dv⊢
       cases dm with
       | map a1 a2 a3 a4 a5 a6 a7=>exact .map a1 a2 a3 a4 (dv _ (.root (by simp[gN]) a2)) a6 a7
      | _=>cases hr
   | row id ver path=>
    obtain ⟨e0,es,an,l1,k1,k2,k3,k4,k5⟩:=qp hr
    obtain ⟨e',vv,m1,m2,m3⟩:=zG k5
    cases b with
    | arr e fz=>
     cases fz with
     | true=>cases m3
     | false=>
      obtain ⟨hc,m4⟩:=a8 m3
      clear m3
      simp only[bn,bB,ly] at hc
      obtain ⟨rfl,Dd,lJ⟩:=hc
      have dm:=S.h.rel id _ k1
      cases hb:β id with
      | none=>
       rw[hb] at dm
       cases dm with
       | nest aI _ _=>cases aI
      | some b0=>
       rw[hb] at dm
       cases dm with
       | nest aI dc qv=>
        cases aI
        obtain ⟨b1,dY⟩:=WK dc path m1 m2 lJ
        refine fin (d1:=[.list e vv.toList]) (o1:=some b1) m4 (Ext.leaf h _) rfl bQ (fun rest=>eU.row k1 hb dY Dd k2 k3 k4 lJ) fun rest I' μ hp0 i1 i2 ρ m ey dK dv=> ?_
        change eT P w I' μ hp0 (some b1) (.arr e vv.toList false)
        obtain ⟨ok,⟨Ca,c1,c2,c3⟩,nI⟩:=dc _ _ _ _ dY
        refine .arr ok rfl c1 c2 (fun h=>by cases h) (fun _=>dv _ (.root (by simp[gN]) rfl)) fun i j x t' y1 y2 y3=> ?_
        obtain ⟨v,z1,z2⟩:=c3 i j x t' y1 y2 y3
        refine ⟨v,z1,?_⟩
        generalize cl P e x j=y at z2⊢
        cases z2 with
        | gR _ p=>exact p.mono i1 fun _ _ _=>rfl
        | emp hu _=>exact absurd hu (WO Dd y2 _)
        | row hu _ _ _ _=>exact absurd hu (WO Dd y2 _)
    | _=>cases m3
where
 WO {e t:TypeId} {j:Nat} (h:Ce P e=true) (ht:(bC P e)[j]? =some t) (e':TypeId):P.underlying t≠some (.slice e'):=by
  intro hu
  have h2:=gv.1 h t (jN ht)
  rw[hu] at h2
  cases h2
end
end Go.AM
