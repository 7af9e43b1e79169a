/-
  Functions of vr program, lifted to plain data.
-/
import Derived.Sort.AssemblyPlain
import Derived.Test.YtmcdbnalaobmpaaDoorP4
set_option linter.unusedVariables false
set_option linter.unusedSimpArgs false
set_option maxRecDepth 100000
namespace Go.AM
open Go.Proofs
def nV (q:Nat):V:= .int .i64 (q:Int)
def nS (S:List Nat):List V:=S.map nV
def mS (S:List Nat):List V:=fJ nV 0 S
theorem xd (a b:Nat):iW (nV a) (nV b)=decide (a=b):=aeH a b
theorem oP {S:List Nat}:(nS S).length=S.length:=by simp[nS]
theorem xe {S:List Nat} {i:Nat} (h:i<S.length):(nS S)[i]? =some (nV S[i]):=by simp[nS,h]
theorem ae4 {x:Nat} (hx:x≤1000000):CC zX [nV x,.list bf []]=some [nV 0,.list bf (nS [x]),.list fW (mS [x])]:=by
 refine aeL ?_
 unfold UM
 rw[F6 (by omega)]
 exact bT rfl (bT rfl (bT (cap (by simp) (by omega)) rfl))
theorem ae5 {S:List Nat} {x:Nat} (hx:x≤1000000) (hl:S.length≤1000000):CC JR [nV x,.list bf (nS S),.list fW (mS S)]=some [nV ((cT S x).idxOf x),.list fW (mS (cT S x)),.list bf (nS (cT S x))]:=by
 refine aeM ?_
 unfold UN
 have e1:=uR xd x S 0
 rw[F6 (by omega)]
 refine bT rfl ?_
 rw[Me]
 by_cases h:x∈S
 ·refine bF (by rw[show fC (.int .i64 (x:Int)) (mS S)=true from e1.trans (decide_eq_true h)];rfl) ?_
  have e2:=w9 xd x (.int .i64 0) S 0 h
  rw[show gY (.int .i64 (x:Int)) (mS S) (.int .i64 0)=_ from e2,if_pos h,Nat.zero_add,show cT S x=S by unfold cT;rw[if_pos h]]
  rfl
 ·refine bT (by rw[show fC (.int .i64 (x:Int)) (mS S)=false from e1.trans (decide_eq_false h)];rfl) ?_
  refine bT rfl ?_
  refine bT (cap (by rw[oP];simp;omega) (by omega)) ?_
  have e2:=xb xd x S 0 h
  rw[Nat.zero_add] at e2
  rw[oP,show e8 (.int .i64 (x:Int)) (.int .i64 (S.length:Int)) (mS S)=_ from e2,if_neg h,show cT S x=S++[x] by unfold cT;rw[if_neg h]]
  simp[nS,nV,mS]
theorem ae6 {a:Da} {q x:Nat} (hq:q<a.n) (hx:x<a.L):CC qQ (nV q::nV x::dc a)=some (nV (a.nx q x)::dc a):=by
 refine aeJ ?_
 unfold UK
 refine bs (Da.my hq) ?_
 rw[ny]
 exact bs (oN hx) rfl
theorem ae7 {a:Da} {q:Nat} (hq:q<a.n):CC qR (nV q::dc a)=some (.bool (a.fin q)::dc a):=by
 refine aeK ?_
 unfold UL
 exact bs (Da.sK hq) rfl
section
variable {a:Da} (h:a.Ok)
include h
theorem ae8 {S U:List Nat} {q:Nat} (hq:q<a.n) (hS: ∀s∈S,s<a.n) (hSn:S.length≤1000) (hp:aV a.nx S q a.L <+: U) {i c1 c2:Int} {l1 l2 l3 l4:List V}:
  Loop (F9 CC (a.L:Int) i (q:Int) ((List.replicate (((a.L:Nat):Int).toNat) (V.int .i64 0)).length:Int) c1 c2 (a.L:Int) 0 l1 l2 l3 l4) (0,(a.L:Int),(a.st:Int),a.cU,a.cB,List.replicate (((a.L:Nat):Int).toNat) (V.int .i64 0),nS S,mS S)=
   some ((a.L:Int),false,(a.L:Int),(a.st:Int),a.cU,a.cB,(tab a.L fun x=>nV (U.idxOf (a.nx q x))),nS (aV a.nx S q a.L),mS (aV a.nx S q a.L)):=by
 have h6:=h.l6
 rw[Int.toNat_natCast,nv,dY]
 refine (eK a.L (fun x=>((x:Int),(a.L:Int),(a.st:Int),a.cU,a.cB,(tab a.L fun j=>if j<x then nV (U.idxOf (a.nx q j)) else nV 0),nS (aV a.nx S q x),mS (aV a.nx S q x))) _ (fun x hx=> ?_) ?_)
 ·simp only[F9,AR,un]
  refine bT (dx hx) ?_
  refine bs (ae6 hq hx) ?_
  have hT:(aV a.nx S q x).length≤1000000:=by
   have: ∀x,(aV a.nx S q x).length≤S.length+x:=by
    intro x
    induction x with
    | zero=>exact Nat.le_refl _
    | succ x ih=>rw[aV,oI];split<;>omega
   have:=this x
   omega
  refine bs (ae5 (S:=aV a.nx S q x) (by have:=h.eE hq hx;have:=h.eD;omega) hT) ?_
  refine (dM hx).trans ?_
  rw[cA (by omega),Int.toNat_natCast,nu]
  have e:(cT (aV a.nx S q x) (a.nx q x)).idxOf (a.nx q x)=U.idxOf (a.nx q x):=(uO ((qZ S q (show x+1≤a.L by omega)).trans hp) uK).symm
  show some (Sum.inl _)=some (Sum.inl _)
  refine congrArg (fun x=>some (Sum.inl x)) ?_
  refine Prod.ext rfl (Prod.ext rfl (Prod.ext rfl (Prod.ext rfl (Prod.ext rfl (Prod.ext ?_ (Prod.ext rfl rfl))))))
  refine eF fun j _=> ?_
  by_cases hj:j=x
  ·rw[if_pos hj,if_pos (by omega),hj,←e];rfl
  ·rw[if_neg hj]
   by_cases b6:j<x
   ·rw[if_pos b6,if_pos (by omega)]
   ·rw[if_neg b6,if_neg (by omega)]
 ·simp only[F9,AR,un]
  refine bF (bt (Nat.le_refl _)) ?_
  rw[bt (Nat.le_refl _)]
  have:(tab a.L fun j=>if j<a.L then nV (U.idxOf (a.nx q j)) else nV 0)=tab a.L fun j=>nV (U.idxOf (a.nx q j)):=eF fun j hj=>if_pos hj
  rw[this]
theorem ae9:CC Fc ([nV a.L,nV a.st]++dc a)=some ([nV a.L,nV 0,.int .i64 0]++(dc a++[.list aw a.trim.cU,.list ay a.trim.cB,.list bf (nS (aj a.L a.nx a.st a.n))])):=by
 have h6:=h.l6
 have hm:=h.eD
 have hd:=h.mr a.n
 refine aeY ?_
 unfold UW
 refine bs (ae4 (by have:=h.s;omega)) ?_
 have key:Loop (Ga CC (a.L:Int) 0 0 (a.L:Int) 0 ([]:List V) ([]:List V)) (0,(a.L:Int),(a.st:Int),a.cU,a.cB,nS [a.st],mS [a.st],([]:List V),([]:List V))=
   some (.inr (((aj a.L a.nx a.st a.n).length:Int),false,(a.L:Int),(a.st:Int),a.cU,a.cB,nS (aj a.L a.nx a.st a.n),mS (aj a.L a.nx a.st a.n),a.trim.cU,a.trim.cB)):=by
  refine (eK (aj a.L a.nx a.st a.n).length (fun i=>((i:Int),(a.L:Int),(a.st:Int),a.cU,a.cB,nS (aj a.L a.nx a.st i),mS (aj a.L a.nx a.st i),(tab i fun j=>V.bool (a.trim.fin j)),(tab i fun j=>fx a.L (a.trim.nx j)))) _ (fun i hi=> ?_) ?_)
  ·have fu:=w4 hd hi
   have uU:(aj a.L a.nx a.st i)[i]=(aj a.L a.nx a.st a.n)[i]:=(kg (show i≤a.n by omega)).getElem fu
   have hq:(aj a.L a.nx a.st a.n)[i]<a.n:=h.uP _ _ (List.getElem_mem hi)
   have hlen:(aj a.L a.nx a.st i).length≤512:=Nat.le_trans (h.mr i) hm
   have ak0:(aj a.L a.nx a.st (i+1)).length≤512:=Nat.le_trans (h.mr (i+1)) hm
   have ig:=w5 hd hi
   simp only[Ga,AS,un]
   refine bT (decide_eq_true (by rw[oP];omega)) ?_
   refine (oL (xe fu)).trans ?_
   refine bT (mw (by omega) (by omega)) ?_
   rw[uU]
   refine bs (ae8 h hq (h.uP i) (by omega) (U:=aj a.L a.nx a.st a.n) (by rw[←ig];exact kg (by omega))) ?_
   rw[←ig]
   refine bF (decide_eq_false (by rw[oP];omega)) ?_
   refine bT (cap (by rw[dY];simp;omega) (by omega)) ?_
   refine bs (ae7 hq) ?_
   refine bT (cap (by rw[dY];simp;omega) (by omega)) ?_
   rw[cA (by omega),kN,kN]
   have e1:a.trim.fin i=a.fin (aj a.L a.nx a.st a.n)[i]:=AE hi
   have e2:fx a.L (a.trim.nx i)= .list bf (tab a.L fun x=>nV ((aj a.L a.nx a.st a.n).idxOf (a.nx (aj a.L a.nx a.st a.n)[i] x))):=by
    unfold fx
    refine congrArg _ (eF fun x hx=> ?_)
    rw[show a.trim.nx i x=_ from uN hi hx];rfl
   rw[e1,e2]
   rfl
  ·simp only[Ga,AS,un]
   rw[AF hd,oP]
   refine bF (bt (Nat.le_refl _)) ?_
   rw[bt (Nat.le_refl _)]
   have e3:a.trim.n=(aj a.L a.nx a.st a.n).length:=kK
   unfold Da.cU Da.cB
   rw[e3];rfl
 refine bs key ?_
 rfl
end
def iQ (U:List Nat) (n:Nat):List V:=tab n fun q=>if q∈U then nV (U.idxOf q) else .int .i64 (-1)
theorem U5 {U:List Nat} {n i:Nat} (hU:U.Nodup) (hi:i<U.length):(tab n fun q=>if q∈U.take i then nV (U.idxOf q) else V.int .i64 (-1)).set U[i] (.int .i64 (i:Int))=tab n fun q=>if q∈U.take (i+1) then nV (U.idxOf q) else V.int .i64 (-1):=by
 rw[nu]
 refine eF fun q _=> ?_
 have e:q∈U.take (i+1)↔q∈U.take i∨q=U[i]:=by rw[List.take_succ_eq_append_getElem hi,List.mem_append,List.mem_singleton]
 by_cases hq:q=U[i]
 ·rw[if_pos hq,if_pos (e.2 (.inr hq)),hq,hU.idxOf_getElem i hi];rfl
 ·rw[if_neg hq]
  by_cases h2:q∈U.take i
  ·rw[if_pos h2,if_pos (e.2 (.inl h2))]
  ·rw[if_neg h2,if_neg fun h3=>(e.1 h3).elim h2 hq]
theorem U6 {a:Da} (h:a.Ok):CC wP (dc a)=some (dc a.trim++[.list bf (iQ (aj a.L a.nx a.st a.n) a.n)]):=by
 have hm:=h.eD
 have hU:=h.uP a.n
 have hle:=h.mr a.n
 refine ae3 ?_
 unfold U3
 refine bs (uQ h) ?_
 refine bF rfl ?_
 refine bs (ae9 h) ?_
 have e0:((V.nth (((([nV a.L,nV 0,V.int .i64 0]++(dc a++[V.list aw a.trim.cU,V.list ay a.trim.cB,V.list bf (nS (aj a.L a.nx a.st a.n))])).drop 3).drop 1).drop 1) 0).toList)=a.cU:=rfl
 rw[e0,Da.nw]
 refine bT (mw (by omega) (by omega)) ?_
 rw[Int.toNat_natCast,nv,dY]
 generalize hUd:aj a.L a.nx a.st a.n=U at*
 have l1: ∀{c1 c2 c3 c4:Int} {s1 s2 s3 s4 s5:List V},Loop (Gd CC (a.n:Int) c1 c2 c3 c4 s1 s2 s3 s4 s5) (0,tab a.n fun _=>V.int .i64 0)=some ((a.n:Int),false,tab a.n fun q=>if q∈U.take 0 then nV (U.idxOf q) else V.int .i64 (-1)):=by
  intro c1 c2 c3 c4 s1 s2 s3 s4 s5
  refine (eK a.n (fun i=>((i:Int),(tab a.n fun j=>if j<i then V.int .i64 (-1) else V.int .i64 0))) _ (fun i hi=> ?_) ?_)
  ·simp only[Gd,AW,un]
   refine bT (dx hi) ?_
   refine (dM hi).trans ?_
   rw[cA (by omega),Int.toNat_natCast,nu]
   refine congrArg (fun x=>some (Sum.inl (((i+1:Nat):Int),x))) (eF fun j _=> ?_)
   by_cases hj:j=i
   ·rw[if_pos hj,if_pos (by omega)]
   ·rw[if_neg hj]
    by_cases b6:j<i
    ·rw[if_pos b6,if_pos (by omega)]
    ·rw[if_neg b6,if_neg (by omega)]
  ·simp only[Gd,AW,un]
   refine bF (bt (Nat.le_refl _)) ?_
   rw[bt (Nat.le_refl _)]
   refine congrArg (fun x=>some (Sum.inr ((a.n:Int),false,x))) (eF fun j hj=> ?_)
   rw[if_pos hj,List.take_zero,if_neg (by simp)]
 refine bs l1 ?_
 simp only[un]
 have Mi:U.Nodup:=by rw[←hUd];exact uL _
 have l2: ∀{c1 c2 c3 c4:Int} {s2 s3 s4 s5:List V},Loop (Gf CC ((nS U).length:Int) c1 c2 c3 c4 (nS U) s2 s3 s4 s5) (0,tab a.n fun q=>if q∈U.take 0 then nV (U.idxOf q) else V.int .i64 (-1))=some ((U.length:Int),false,iQ U a.n):=by
  intro c1 c2 c3 c4 s2 s3 s4 s5
  rw[oP]
  refine (eK U.length (fun i=>((i:Int),(tab a.n fun q=>if q∈U.take i then nV (U.idxOf q) else V.int .i64 (-1)))) _ (fun i hi=> ?_) ?_)
  ·have hq:=hU U[i] (List.getElem_mem hi)
   simp only[Gf,AZ,un]
   refine bT (dx hi) ?_
   refine (oL (xe hi)).trans ?_
   refine (dM (i:=U[i]) hq).trans ?_
   rw[cA (by omega)]
   refine congrArg (fun x=>some (Sum.inl (((i+1:Nat):Int),x))) ?_
   exact U5 Mi hi
  ·simp only[Gf,AZ,un]
   refine bF (bt (Nat.le_refl _)) ?_
   rw[bt (Nat.le_refl _),List.take_length]
   rfl
 refine bs l2 ?_
 rfl
end Go.AM
set_option maxRecDepth 100000
namespace Go.AM
section
variable {β:Type} [DecidableEq β]
def aL (g:Nat→β):Nat→List β
 | 0=>[]
 | n+1=>cT (aL g n) (g n)
theorem Mj (g:Nat→β): ∀n,(aL g n).Nodup
 | 0=>List.nodup_nil
 | n+1=>Ua (Mj g n)
theorem iR {g:Nat→β} {v:β}: ∀{n},v∈aL g n↔∃q,q<n∧g q=v
 | 0=>⟨fun h=>(by cases h),fun ⟨q,h,_⟩=>(by omega)⟩
 | n+1=>by
  have ih:=iR (g:=g) (v:=v) (n:=n)
  rw[aL]
  unfold cT
  constructor
  ·intro h
   split at h
   ·obtain ⟨q,h1,h2⟩:=ih.1 h;exact ⟨q,by omega,h2⟩
   ·rcases List.mem_append.1 h with h|h
    ·obtain ⟨q,h1,h2⟩:=ih.1 h;exact ⟨q,by omega,h2⟩
    ·exact ⟨n,by omega,(List.mem_singleton.1 h).symm⟩
  ·rintro ⟨q,h1,h2⟩
   rcases Nat.lt_or_ge q n with c|c
   ·exact (FU (aL g n) (g n)).subset (ih.2 ⟨q,c,h2⟩)
   ·obtain rfl:q=n:=by omega
    rw[←h2];exact uK
theorem afa {g:Nat→β} {m n:Nat} (h:m≤n):aL g m <+: aL g n:=by
 induction n with
 | zero=>rw[Nat.le_zero.1 h];exact List.prefix_refl _
 | succ n ih=>
  rcases Nat.lt_or_ge m (n+1) with c|c
  ·exact (ih (by omega)).trans (FU _ _)
  ·rw[show m=n+1 by omega];exact List.prefix_refl _
theorem rh (g:Nat→β): ∀n,(aL g n).length≤n
 | 0=>Nat.le_refl _
 | n+1=>by
  have:=rh g n
  rw[aL,oI]
  split<;>omega
def cp (g:Nat→β) (n q:Nat):Nat:=(aL g n).idxOf (g q)
theorem A0 {g:Nat→β} {n q:Nat} (h:q<n):cp g n q<(aL g n).length:=List.idxOf_lt_length_of_mem (iR.2 ⟨q,h,rfl⟩)
theorem A1 {g:Nat→β} {n p q:Nat} (hp:p<n) (hq:q<n):cp g n p=cp g n q↔g p=g q:=by
 constructor
 ·intro h
  have h1:=List.getElem_idxOf (A0 (g:=g) hp)
  have h2:=List.getElem_idxOf (A0 (g:=g) hq)
  rw[←h1,←h2]
  exact getElem_congr_idx h
 ·intro h;unfold cp;rw[h]
theorem A3 {g:Nat→β} {m n q:Nat} (h:q<m) (hm:m≤n):cp g n q=cp g m q:=uO (afa hm) (iR.2 ⟨q,h,rfl⟩)
theorem Mk {g:Nat→β} {q:Nat} (h:g q∈aL g q):aL g (q+1)=aL g q:=by rw[aL];unfold cT;rw[if_pos h]
theorem Gg {g:Nat→β} {q:Nat} (h:g q∉aL g q):aL g (q+1)=aL g q++[g q]:=by rw[aL];unfold cT;rw[if_neg h]
theorem U7 {g:Nat→β} {n q:Nat} (hq:q<n) (h:g q∈aL g q):cp g n q=(aL g q).idxOf (g q):=by
 rw[A3 (show q<q+1 by omega) (by omega)]
 unfold cp
 rw[Mk h]
theorem U8 {g:Nat→β} {n q:Nat} (hq:q<n) (h:g q∉aL g q):cp g n q=(aL g q).length:=by
 rw[A3 (show q<q+1 by omega) (by omega)]
 unfold cp
 rw[Gg h,List.idxOf_append,if_neg h]
 simp
def nz (p:Nat→Nat) (n:Nat):Prop:= ∀m,m≤n→aL p m=List.range (aL p m).length
theorem U9 (g:Nat→β) (n:Nat): ∀m,m≤n→aL (cp g n) m=List.range (aL g m).length:=by
 intro m
 induction m with
 | zero=>intro _;rfl
 | succ m ih=>
  intro hm
  have ih:=ih (by omega)
  have e1:cp g n m=cp g (m+1) m:=A3 (by omega) hm
  have e2:cp g (m+1) m=if g m∈aL g m then (aL g m).idxOf (g m) else (aL g m).length:=by
   unfold cp
   rw[aL]
   unfold cT
   split
   ·rfl
   ·rename_i h
    rw[List.idxOf_append,if_neg h]
    simp
  rw[aL,ih,aL,oI]
  unfold cT
  by_cases h:g m∈aL g m
  ·have:=List.idxOf_lt_length_of_mem h
   rw[if_pos h] at e2
   rw[if_pos h,if_pos (by rw[e1,e2];exact List.mem_range.2 this)]
  ·rw[if_neg h] at e2
   rw[if_neg h,if_neg (by rw[e1,e2];simp),e1,e2,List.range_succ]
theorem Ml (g:Nat→β) (n:Nat):nz (cp g n) n:=fun m hm=>by
 rw[U9 g n m hm,List.length_range]
theorem Mm {γ:Type} [DecidableEq γ] {f:Nat→β} {c:Nat→γ} {n:Nat} (hr: ∀q q',q<n→q'<n→f q=f q'→c q=c q') (hl:(aL f n).length≤(aL c n).length):
  ∀q q',q<n→q'<n→c q=c q'→f q=f q':=by
 intro q q' hq ca hc
 refine Decidable.byContradiction fun hf=> ?_
 have rep: ∀v∈aL f n,∃q,q<n∧f q=v:=fun v hv=>iR.1 hv
 have: ∃R:β→Nat,∀v∈aL f n,R v<n∧f (R v)=v:=by
  classical
  refine ⟨fun v=>if h:v∈aL f n then Classical.choose (rep v h) else 0,fun v hv=> ?_⟩
  simp only[hv,dif_pos]
  exact Classical.choose_spec (rep v hv)
 obtain ⟨R,hR⟩:=this
 have il:aL c n ⊆ ((aL f n).filter fun v=>decide (v≠f q')).map fun v=>c (R v):=by
  intro u hu
  obtain ⟨s,hs,rfl⟩:=iR.1 hu
  by_cases h:f s=f q'
  ·refine List.mem_map.2 ⟨f q,List.mem_filter.2 ⟨iR.2 ⟨q,hq,rfl⟩,decide_eq_true hf⟩,?_⟩
   have h1:=hR (f q) (iR.2 ⟨q,hq,rfl⟩)
   rw[hr _ _ h1.1 hq h1.2,hc,hr _ _ hs ca h]
  ·refine List.mem_map.2 ⟨f s,List.mem_filter.2 ⟨iR.2 ⟨s,hs,rfl⟩,decide_eq_true h⟩,?_⟩
   have h1:=hR (f s) (iR.2 ⟨s,hs,rfl⟩)
   exact hr _ _ h1.1 hs h1.2
 have h1:=List.Nodup.length_le_of_subset (Mj c n) il
 rw[List.length_map] at h1
 have h2:((aL f n).filter fun v=>decide (v≠f q')).length<(aL f n).length:=by
  have hm:f q'∈aL f n:=iR.2 ⟨q',ca,rfl⟩
  have aR:=List.length_filter_lt_length_iff_exists (p:=fun v=>decide (v≠f q')) (l:=aL f n)
  exact aR.2 ⟨f q',hm,by simp⟩
 omega
theorem Va {γ:Type} [DecidableEq γ] {f:Nat→β} {c:Nat→γ} {n:Nat} (hr: ∀q q',q<n→q'<n→f q=f q'→c q=c q'):(aL c n).length≤(aL f n).length:=by
 rcases Nat.lt_or_ge (aL f n).length (aL c n).length with h|h
 ·have:=Mm hr (by omega)
  have rep: ∀v∈aL f n,∃q,q<n∧f q=v:=fun v hv=>iR.1 hv
  have: ∃R:β→Nat,∀v∈aL f n,R v<n∧f (R v)=v:=by
   classical
   refine ⟨fun v=>if h:v∈aL f n then Classical.choose (rep v h) else 0,fun v hv=> ?_⟩
   simp only[hv,dif_pos]
   exact Classical.choose_spec (rep v hv)
  obtain ⟨R,hR⟩:=this
  have il:aL c n ⊆ (aL f n).map fun v=>c (R v):=by
   intro u hu
   obtain ⟨s,hs,rfl⟩:=iR.1 hu
   have h1:=hR (f s) (iR.2 ⟨s,hs,rfl⟩)
   exact List.mem_map.2 ⟨f s,iR.2 ⟨s,hs,rfl⟩,hr _ _ h1.1 hs h1.2⟩
  have h1:=List.Nodup.length_le_of_subset (Mj c n) il
  rw[List.length_map] at h1
  omega
 ·exact h
theorem afb {γ:Type} [DecidableEq γ] {f:Nat→β} {c:Nat→γ} {n:Nat} (h: ∀q q',q<n→q'<n→(f q=f q'↔c q=c q')): ∀q,q<n→cp f n q=cp c n q:=by
 have key: ∀m,m≤n→(aL f m).length=(aL c m).length∧∀q,q<m→cp f m q=cp c m q:=by
  intro m
  induction m with
  | zero=>intro _;exact ⟨rfl,fun q hq=>by omega⟩
  | succ m ih=>
   intro hm
   obtain ⟨i1,i2⟩:=ih (by omega)
   have kD:f m∈aL f m↔c m∈aL c m:=by
    rw[iR,iR]
    exact ⟨fun ⟨q,h1,h2⟩=>⟨q,h1,(h q m (by omega) (by omega)).1 h2⟩,fun ⟨q,h1,h2⟩=>⟨q,h1,(h q m (by omega) (by omega)).2 h2⟩⟩
   refine ⟨?_,fun q hq=> ?_⟩
   ·rw[aL,aL,oI,oI,i1]
    by_cases hx:f m∈aL f m
    ·rw[if_pos hx,if_pos (kD.1 hx)]
    ·rw[if_neg hx,if_neg fun h=>hx (kD.2 h)]
   ·rcases Nat.lt_or_ge q m with c1|c1
    ·exact (A3 (g:=f) c1 (by omega)).trans ((i2 q c1).trans (A3 (g:=c) c1 (by omega)).symm)
    ·obtain rfl:q=m:=by omega
     unfold cp
     rw[aL,aL]
     by_cases hx:f q∈aL f q
     ·obtain ⟨r,h1,h2⟩:=iR.1 hx
      have h3:=(h r q (by omega) (by omega)).1 h2
      have:=i2 r h1
      unfold cp at this
      unfold cT
      rw[if_pos hx,if_pos (kD.1 hx),←h2,←h3,this]
     ·unfold cT
      rw[if_neg hx,if_neg fun h=>hx (kD.2 h),List.idxOf_append,List.idxOf_append,if_neg hx,if_neg fun h=>hx (kD.2 h)]
      simp[i1]
 exact (key n (Nat.le_refl _)).2
end
namespace Da
structure Part (a:Da) (c:Nat→Nat):Prop where
 coarse: ∀q q',q<a.n→q'<a.n→a.nr q a q'→c q=c q'
 fin: ∀q q',q<a.n→q'<a.n→c q=c q'→a.fin q=a.fin q'
def sig (a:Da) (c:Nat→Nat) (q:Nat):List Nat:=c q::(List.range a.L).map fun x=>c (a.nx q x)
theorem uW {a:Da} {c:Nat→Nat} {q q':Nat}:a.sig c q=a.sig c q'↔c q=c q'∧∀x,x<a.L→c (a.nx q x)=c (a.nx q' x):=by
 unfold sig
 rw[List.cons.injEq]
 refine and_congr Iff.rfl ⟨fun h x hx=> ?_,fun h=>List.map_congr_left fun x hx=>h x (List.mem_range.1 hx)⟩
 have:=congrArg (fun l=>l.getD x 0) h
 simpa[hx] using this
def Gh (a:Da) (c f:Nat→Nat):Prop:= ∀q q',q<a.n→q'<a.n→(f q=f q'↔a.sig c q=a.sig c q')
theorem Gh.part {a:Da} {c f:Nat→Nat} (h:a.Gh c f) (ha:a.Ok) (hc:a.Part c):a.Part f where
 coarse q q' hq ca he:=(h q q' hq ca).2 (uW.2 ⟨hc.coarse q q' hq ca he,fun x hx=>hc.coarse _ _ (ha.eE hq hx) (ha.eE ca hx) (he.nx hx)⟩)
 fin q q' hq ca he:=hc.fin q q' hq ca (uW.1 ((h q q' hq ca).1 he)).1
def uX (a:Da) (p:Nat→Nat):Prop:=(∀q q',q<a.n→q'<a.n→(p q=p q'↔a.nr q a q'))∧nz p a.n
theorem Part.Vb {a:Da} {c:Nat→Nat} (hc:a.Part c) (ha:a.Ok) (hs: ∀q q',q<a.n→q'<a.n→c q=c q'→a.sig c q=a.sig c q'): ∀q q',q<a.n→q'<a.n→(c q=c q'↔a.nr q a q'):=by
 intro q q' hq ca
 refine ⟨fun h w=> ?_,hc.coarse q q' hq ca⟩
 induction w generalizing q q' with
 | nil=>intro _;rw[nt,nt];exact hc.fin q q' hq ca h
 | cons x w ih=>
  intro hw
  rw[FT,FT]
  exact ih _ _ (ha.eE hq hw.head) (ha.eE ca hw.head) ((uW.1 (hs q q' hq ca h)).2 x hw.head) hw.tail
def dN (p:Nat→Nat):Nat→List Nat
 | 0=>[]
 | n+1=>if p n∈aL p n then dN p n else dN p n++[n]
theorem Gi {p:Nat→Nat}: ∀n,(dN p n).map p=aL p n
 | 0=>rfl
 | n+1=>by
  rw[dN,aL]
  unfold cT
  split
  ·exact Gi n
  ·rw[List.map_append,Gi n];rfl
theorem xf {p:Nat→Nat} {n:Nat}:(dN p n).length=(aL p n).length:=by rw[←Gi,List.length_map]
theorem uY {p:Nat→Nat}: ∀{n q},q∈dN p n→q<n
 | 0,q,h=>by cases h
 | n+1,q,h=>by
  rw[dN] at h
  split at h
  ·have:=uY h;omega
  ·rcases List.mem_append.1 h with h|h
   ·have:=uY h;omega
   ·rw[List.mem_singleton.1 h];omega
theorem xg {p:Nat→Nat} {n:Nat} (ho:nz p n) {c:Nat} (hc:c<(dN p n).length):p (dN p n)[c]=c:=by
 have h1:=ho n (Nat.le_refl _)
 have h2:((dN p n).map p)[c]? =some c:=by rw[Gi,h1,List.getElem?_range (by rw[xf] at hc;exact hc)]
 rw[List.getElem?_map,List.getElem?_eq_getElem hc] at h2
 exact Option.some.inj h2
theorem A4 {p:Nat→Nat} {n q:Nat} (ho:nz p n) (hq:q<n):p q<(dN p n).length:=by
 have h1:p q∈aL p n:=iR.2 ⟨q,hq,rfl⟩
 rw[ho n (Nat.le_refl _),List.mem_range] at h1
 rw[xf];exact h1
def quo (a:Da) (p:Nat→Nat):Da where
 L:=a.L
 st:=p a.st
 F:=(dN p a.n).map a.fin
 N:=(dN p a.n).map fun q=>tab a.L fun x=>p (a.nx q x)
theorem ri {a:Da} {p:Nat→Nat}:(a.quo p).n=(dN p a.n).length:=by simp[quo,n]
theorem Vc {a:Da} {p:Nat→Nat} {c:Nat} (hc:c<(dN p a.n).length):(a.quo p).fin c=a.fin (dN p a.n)[c]:=by
 show ((dN p a.n).map a.fin).getD c false=_
 rw[fY (by simpa using hc),List.getElem_map]
theorem Vd {a:Da} {p:Nat→Nat} {c x:Nat} (hc:c<(dN p a.n).length) (hx:x<a.L):(a.quo p).nx c x=p (a.nx (dN p a.n)[c] x):=by
 show (((dN p a.n).map fun q=>tab a.L fun x=>p (a.nx q x)).getD c []).getD x 0=_
 rw[fY (l:=(dN p a.n).map fun q=>tab a.L fun x=>p (a.nx q x)) (by simpa using hc),List.getElem_map,w6 hx]
section
variable {a:Da} {p:Nat→Nat} (ha:a.Ok) (hp:a.uX p)
include ha hp
theorem Gj:(a.quo p).Ok where
 l1:=ha.l1
 l6:=ha.l6
 nN:=by rw[ri];simp[quo]
 row r hr:=by
  rw[ri]
  obtain ⟨q,hq,rfl⟩:=List.mem_map.1 (show r∈(dN p a.n).map _ from hr)
  refine ⟨by simp[quo],fun s hs=> ?_⟩
  obtain ⟨x,hx,rfl⟩:=AL.1 hs
  exact A4 hp.2 (ha.eE (uY hq) hx)
 s:=by rw[ri];exact A4 hp.2 ha.s
 eD:=by
  rw[ri,xf]
  have:=rh p a.n
  have:=ha.eD
  omega
theorem Gk: ∀(w:List Nat) {q:Nat},q<a.n→WL a.L w→(a.quo p).acc (p q) w=a.acc q w
 | [],q,hq,_=>by
  have hc:=A4 hp.2 hq
  rw[nt,nt,Vc hc]
  have h1:=(hp.1 _ _ (uY (List.getElem_mem hc)) hq).1 (xg hp.2 hc)
  have:=h1 [] WL.nil
  rwa [nt,nt] at this
 | x::w,q,hq,hw=>by
  have hc:=A4 hp.2 hq
  have hr:=uY (List.getElem_mem hc)
  have h1:=(hp.1 _ _ hr hq).1 (xg hp.2 hc)
  have h2:=(hp.1 _ _ (ha.eE hr hw.head) (ha.eE hq hw.head)).2 (h1.nx hw.head)
  rw[FT,FT,Vd hc hw.head,h2]
  exact Gk w (ha.eE hq hw.head) hw.tail
theorem afc: ∀c d,c<(a.quo p).n→d<(a.quo p).n→(a.quo p).nr c (a.quo p) d→c=d:=by
 intro c d hc hd he
 rw[ri] at hc hd
 have r1:=uY (List.getElem_mem hc)
 have r2:=uY (List.getElem_mem hd)
 rw[←xg hp.2 hc,←xg hp.2 hd]
 refine (hp.1 _ _ r1 r2).2 fun w hw=> ?_
 rw[←Gk ha hp w r1 hw,←Gk ha hp w r2 hw,xg hp.2 hc,xg hp.2 hd]
 exact he w hw
theorem Mn:(a.quo p).trim.Canon a.L (a.acc a.st):=by
 have h:=(Gj ha hp).aeb (afc ha hp)
 exact ⟨h.ok,h.hL,h.st,h.num,h.red,fun w hw=>(h.ly w hw).trans (Gk ha hp w ha.s hw)⟩
end
end Da
end Go.AM
set_option maxRecDepth 100000
namespace Go.AM
open Go.Proofs
noncomputable abbrev sL:Code:=cI Tryd.prog (ar.aW 109)
noncomputable def A5 (C:ae) (t24:List V) (t25 aQ a9:Int) (bp bj:List V) (count t26:Int) (dm:List V) {β:Type} (kn:(Int × Int × (List V))→Option β) (kr:(Int × Int × Bool × (List V))→Option β):Option β:=
 bif decide ((t26:Int)<t25) then
  (idx t24 t26).bind fun x2=>
  (bp[0]?).bind fun x3=>
  bif !(x2.toBool==x3.toBool) then
  bif (decide (0≤t26))&&(decide (t26<(dm.length:Int))) then
   (dm[(t26:Int).toNat]?).bind fun x4=>
   kn (2,IntKind.wrap .i64 (t26+1),dm.set ((t26:Int).toNat) (.int .i64 1))
  else none
  else
  kn (count,IntKind.wrap .i64 (t26+1),dm)
 else
  kr (count,t26,decide ((t26:Int)<t25),dm)
noncomputable def Gl (C:ae) (t24:List V) (t25 aQ a9:Int) (bp bj:List V):(Int × Int × (List V))→Option ((Int × Int × (List V)) ⊕ (Int × Int × Bool × (List V))):=un fun count=>un fun t26 dm=>A5 C t24 t25 aQ a9 bp bj count t26 dm (fun y=>some (.inl y)) (fun r=>some (.inr r))
noncomputable def A6 (C:ae) (count q:Int) (t46:List V) (t47 t48:Int) (t58:List V) (t59 aQ a9:Int) (bp bj dm numbers mB:List V) (t60 Gm Gn Gp Gq Gr Gs Gt:Int) {β:Type} (kn:(Int × Int × Int × Int × Int × Int × Int × Int)→Option β) (kr:(Int × Bool × Int × Int × Int × Int × Int × Int × Int)→Option β):Option β:=
 bif decide ((t60:Int)<t59) then
  (idx t58 t60).bind fun eJ=>
  bif (decide (0≤eJ.toInt))&&(decide (eJ.toInt<(dm.length:Int))) then
  (dm[(eJ.toInt:Int).toNat]?).bind fun mq=>
  bif (decide (0≤(IntKind.wrap .i64 (1+t60))))&&(decide ((IntKind.wrap .i64 (1+t60))<7)) then
   bif Nat.blt (0+(((IntKind.wrap .i64 (1+t60):Int).toNat)*1)) 7 then
   kn (IntKind.wrap .i64 (t60+1),bif Nat.beq (0+(((IntKind.wrap .i64 (1+t60):Int).toNat)*1)) 0 then mq.toInt else Gm,bif Nat.beq (0+(((IntKind.wrap .i64 (1+t60):Int).toNat)*1)) 1 then mq.toInt else Gn,bif Nat.beq (0+(((IntKind.wrap .i64 (1+t60):Int).toNat)*1)) 2 then mq.toInt else Gp,bif Nat.beq (0+(((IntKind.wrap .i64 (1+t60):Int).toNat)*1)) 3 then mq.toInt else Gq,bif Nat.beq (0+(((IntKind.wrap .i64 (1+t60):Int).toNat)*1)) 4 then mq.toInt else Gr,bif Nat.beq (0+(((IntKind.wrap .i64 (1+t60):Int).toNat)*1)) 5 then mq.toInt else Gs,bif Nat.beq (0+(((IntKind.wrap .i64 (1+t60):Int).toNat)*1)) 6 then mq.toInt else Gt)
   else none
  else none
  else none
 else
  kr (t60,decide ((t60:Int)<t59),Gm,Gn,Gp,Gq,Gr,Gs,Gt)
noncomputable def Gu (C:ae) (count q:Int) (t46:List V) (t47 t48:Int) (t58:List V) (t59 aQ a9:Int) (bp bj dm numbers mB:List V):(Int × Int × Int × Int × Int × Int × Int × Int)→Option ((Int × Int × Int × Int × Int × Int × Int × Int) ⊕ (Int × Bool × Int × Int × Int × Int × Int × Int × Int)):=un fun t60=>un fun Gm=>un fun Gn=>un fun Gp=>un fun Gq=>un fun Gr=>un fun Gs Gt=>A6 C count q t46 t47 t48 t58 t59 aQ a9 bp bj dm numbers mB t60 Gm Gn Gp Gq Gr Gs Gt (fun y=>some (.inl y)) (fun r=>some (.inr r))
noncomputable def A7 (C:ae) (count:Int) (t46:List V) (t47 aQ a9:Int) (bp bj dm:List V) (t48:Int) (numbers mB:List V) {β:Type} (kn:(Int × (List V) × (List V))→Option β) (kr:(Int × Bool × (List V) × (List V))→Option β):Option β:=
 bif decide ((t48:Int)<t47) then
  (idx t46 t48).bind fun x9=>
  bif (decide (0≤t48))&&(decide (t48<(dm.length:Int))) then
  (dm[(t48:Int).toNat]?).bind fun gu=>
  (Loop (Gu C count t48 t46 t47 t48 x9.toList (x9.toList.length:Int) aQ a9 bp bj dm numbers mB) (0,gu.toInt,0,0,0,0,0,0)).bind (un fun (nq:Int)=>un fun (Ay:Bool)=>un fun (A8:Int)=>un fun (A9:Int)=>un fun (Ba:Int)=>un fun (Bb:Int)=>un fun (Bc:Int)=>un fun (Bd:Int) (Be:Int)=>
   bif (cZ .i64 A8&&(cZ .i64 A9&&(cZ .i64 Ba&&(cZ .i64 Bb&&(cZ .i64 Bc&&(cZ .i64 Bd&&(cZ .i64 Be&&true)))))))&&true then
    bif !(fC (.agg [.int .i64 A8,.int .i64 A9,.int .i64 Ba,.int .i64 Bb,.int .i64 Bc,.int .i64 Bd,.int .i64 Be]) numbers) then
    bif (cZ .i64 A8&&(cZ .i64 A9&&(cZ .i64 Ba&&(cZ .i64 Bb&&(cZ .i64 Bc&&(cZ .i64 Bd&&(cZ .i64 Be&&true)))))))&&true then
     bif (decide (0≤t48))&&(decide (t48<(mB.length:Int))) then
     (mB[(t48:Int).toNat]?).bind fun x22=>
     kn (IntKind.wrap .i64 (t48+1),e8 (.agg [.int .i64 A8,.int .i64 A9,.int .i64 Ba,.int .i64 Bb,.int .i64 Bc,.int .i64 Bd,.int .i64 Be]) (.int .i64 (numbers.length:Int)) numbers,mB.set ((t48:Int).toNat) (.int .i64 (numbers.length:Int)))
     else none
    else none
    else
    bif (decide (0≤t48))&&(decide (t48<(mB.length:Int))) then
     (mB[(t48:Int).toNat]?).bind fun lD=>
     kn (IntKind.wrap .i64 (t48+1),numbers,mB.set ((t48:Int).toNat) (.int .i64 ((gY (.agg [.int .i64 A8,.int .i64 A9,.int .i64 Ba,.int .i64 Bb,.int .i64 Bc,.int .i64 Bd,.int .i64 Be]) numbers (.int .i64 0)).toInt)))
    else none
   else none)
  else none
 else
  kr (t48,decide ((t48:Int)<t47),numbers,mB)
noncomputable def Gv (C:ae) (count:Int) (t46:List V) (t47 aQ a9:Int) (bp bj dm:List V):(Int × (List V) × (List V))→Option ((Int × (List V) × (List V)) ⊕ (Int × Bool × (List V) × (List V))):=un fun t48=>un fun numbers mB=>A7 C count t46 t47 aQ a9 bp bj dm t48 numbers mB (fun y=>some (.inl y)) (fun r=>some (.inr r))
noncomputable def Bf (C:ae) (aQ a9:Int) (bp bj:List V) (count:Int) (dm:List V) {β:Type} (kn:(Int × (List V))→Option β) (kr:(List V)→Option β):Option β:=
 bif (decide (0≤(dm.length:Int)))&&((decide ((dm.length:Int)≤(dm.length:Int)))&&(Nat.ble ((((dm.length:Int):Int).toNat)*8) bC)) then
  (Loop (Gv C count bj (bj.length:Int) aQ a9 bp bj dm) (0,([]:List V),List.replicate (((dm.length:Int):Int).toNat) (V.int .i64 0))).bind (un fun (afd:Int)=>un fun (Mo:Bool)=>un fun (Ve:List V) (Vf:List V)=>
   bif ((Ve.length:Int):Int)==count then
   kr Vf
   else
   kn ((Ve.length:Int),Vf))
 else none
noncomputable def Bg (C:ae) (aQ a9:Int) (bp bj:List V):(Int × (List V))→Option ((Int × (List V)) ⊕ (List V)):=un fun count dm=>Bf C aQ a9 bp bj count dm (fun y=>some (.inl y)) (fun r=>some (.inr r))
noncomputable def Vg (C:ae):cy:=fun β n ds k=>
 bif Nat.beq n 81 then bu KZ [true,false,false,true,false,false,false,false,true] [[0,2,3,0,0,5,6,7,8,0]] (@A5 C) ds k else
 bif Nat.beq n 273 then bu K0 [false,false,false,false,false,false,false,true,false,false,false,false,false,false,false,true,true,true,true,true,true,true] [[1,2,3,4,5,6,7,0,0,9,10,11,12,13,14,15,0,0,0,0,0,0,0]] (@A6 C) ds k else
 bif Nat.beq n 209 then bu K1 [false,false,false,true,false,false,false,false,false,true,true] [[1,2,3,0,0,5,6,7,8,9,0,0]] (@A7 C) ds k else
 bif Nat.beq n 161 then bu K3 [true,false,false,false,false,true] [[0]] (@Bf C) ds k else
 none
abbrev Gw (C:ae) (b:ct):Prop:=cu Tryd.prog ar C (Vg C) 109 (cP Tryd.prog (ar.aW 109)) (ar.sin 109).a8.length b
theorem afe (C:ae):Gw C (.loop (ak [1,1,1,0,1,0,0] sL)):=
 bz KZ [true,false,false,true,false,false,false,false,true] [[0,2,3,0,0,5,6,7,8,0]] (@A5 C) (by kernel_rfl) (aS (bs:=[]) (by kernel_rfl) ao) (fun ds=>by kernel_rfl) (fun i x=>by kernel_rfl) (fun i x β k=>by kernel_rfl) (fun β ds k=>by kernel_rfl)
theorem aff (C:ae):Gw C (.loop (ak [1,1,1,1,0,0,0,1,1,0,1,0,0,1,1,0,0,1,1,0,1,0,0] sL)):=
 bz K0 [false,false,false,false,false,false,false,true,false,false,false,false,false,false,false,true,true,true,true,true,true,true] [[1,2,3,4,5,6,7,0,0,9,10,11,12,13,14,15,0,0,0,0,0,0,0]] (@A6 C) (by kernel_rfl) (aS (bs:=[]) (by kernel_rfl) ao) (fun ds=>by kernel_rfl) (fun i x=>by kernel_rfl) (fun i x β k=>by kernel_rfl) (fun β ds k=>by kernel_rfl)
theorem afg (C:ae):Gw C (.loop (ak [1,1,1,1,0,0,0,1,1,0,1,0,0] sL)):=
 bz K1 [false,false,false,true,false,false,false,false,false,true,true] [[1,2,3,0,0,5,6,7,8,9,0,0]] (@A7 C) (by kernel_rfl) (aS (bs:=[.loop (ak [1,1,1,1,0,0,0,1,1,0,1,0,0,1,1,0,0,1,1,0,1,0,0] sL)]) (by kernel_rfl) (bd (aff C) ao)) (fun ds=>by kernel_rfl) (fun i x=>by kernel_rfl) (fun i x β k=>by kernel_rfl) (fun β ds k=>by kernel_rfl)
theorem afh (C:ae):Gw C (.loop (ak [1,1,1,1,0,0] sL)):=
 bz K3 [true,false,false,false,false,true] [[0]] (@Bf C) (by kernel_rfl) (aS (bs:=[.loop (ak [1,1,1,1,0,0,0,1,1,0,1,0,0] sL)]) (by kernel_rfl) (bd (afg C) ao)) (fun ds=>by kernel_rfl) (fun i x=>by kernel_rfl) (fun i x β k=>by kernel_rfl) (fun β ds k=>by kernel_rfl)
noncomputable def Vh (C:ae) (aX aY:Int) (aF ba:List V):Option (List V):=
 (C oC [.int .i64 aX,.int .i64 aY,.list aw aF,.list ay ba]).bind fun r1=>
 bif (((V.nth r1 0).toInt):Int) != 0 then
  some [.list bf ([]:List V)]
 else
  bif (decide (0≤(aF.length:Int)))&&((decide ((aF.length:Int)≤(aF.length:Int)))&&(Nat.ble ((((aF.length:Int):Int).toNat)*8) bC)) then
  (Loop (Gl C aF (aF.length:Int) aX aY aF ba) (1,0,List.replicate (((aF.length:Int):Int).toNat) (V.int .i64 0))).bind (un fun (afi:Int)=>un fun (oG:Int)=>un fun (np:Bool) (afj:List V)=>
   (Loop (Bg C aX aY aF ba) (afi,afj)).bind (fun (afk:List V)=>
    some [.list bf afk]))
  else none
theorem afl {aX aY:Int} {aF ba:List V} {r:Option (List V)} (h:Vh CC aX aY aF ba=r):CC E8 [.int .i64 aX,.int .i64 aY,.list aw aF,.list ay ba]=r:=
 bn (key:=109) (L:=Vg CC) (bs:=[.loop (ak [1,1,1,0,1,0,0] sL),.loop (ak [1,1,1,1,0,0] sL)]) (by kernel_rfl) (bd (afe CC) (bd (afh CC) ao)) (Eq.trans (by kernel_rfl) h)
def dH (a:Da) (c:Nat→Nat) (q t j:Nat):Nat:=if j=0 then c q else if j≤t then c (a.nx q (j-1)) else 0
def dD (a:Da) (c:Nat→Nat) (q:Nat):List Nat:=tab 7 (dH a c q a.L)
def Bh (s:List Nat):V:= .agg (s.map nV)
theorem Vi: ∀s t:List Nat,o0 (s.map nV) (t.map nV)=decide (s=t)
 | [],[]=>rfl
 | [],b::t=>rfl
 | a::s,[]=>rfl
 | a::s,b::t=>by
  simp only[List.map_cons,o0]
  rw[Vi s t,Bool.eq_iff_iff]
  simp only[nV,rO]
  simp only[Bool.and_eq_true,beq_iff_eq,decide_eq_true_eq,List.cons.injEq]
  exact and_congr (by omega) Iff.rfl
theorem Mp (s t:List Nat):iW (Bh s) (Bh t)=decide (s=t):=Vi s t
theorem Mq {a:Da} (h:a.Ok) {c:Nat→Nat} {q q':Nat}:dD a c q=dD a c q'↔a.sig c q=a.sig c q':=by
 rw[Da.uW]
 have h6:=h.l6
 constructor
 ·intro e
  have g:=fun j (hj:j<7)=>congrArg (fun l:List Nat=>l.getD j 0) e
  unfold dD at g
  refine ⟨?_,fun x hx=> ?_⟩
  ·have:=g 0 (by omega)
   rw[w6 (by omega),w6 (by omega)] at this
   exact this
  ·have:=g (x+1) (by omega)
   rw[w6 (by omega),w6 (by omega)] at this
   unfold dH at this
   rwa [if_neg (by omega),if_pos (by omega),if_neg (by omega),if_pos (by omega)] at this
 ·rintro ⟨h1,h2⟩
  refine eF fun j _=> ?_
  unfold dH
  by_cases hj:j=0
  ·rw[if_pos hj,if_pos hj,h1]
  ·rw[if_neg hj,if_neg hj]
   by_cases b6:j≤a.L
   ·rw[if_pos b6,if_pos b6,h2 (j-1) (by omega)]
   ·rw[if_neg b6,if_neg b6]
theorem uZ {a:Da} {c:Nat→Nat} {q t:Nat} (j:Nat):(bif Nat.beq (0+(t+1)*1) j then ((c (a.nx q t):Nat):Int) else ((dH a c q t j:Nat):Int))=((dH a c q (t+1) j:Nat):Int):=by
 by_cases hj:t+1=j
 ·rw[show Nat.beq (0+(t+1)*1) j=true from by rw[Nat.beq_eq];omega,cond_true,←hj]
  unfold dH
  rw[if_neg (by omega),if_pos (by omega)]
  rfl
 ·rw[show Nat.beq (0+(t+1)*1) j=false from by rw[←Bool.not_eq_true,Nat.beq_eq];omega,cond_false]
  unfold dH
  by_cases h0:j=0
  ·rw[if_pos h0,if_pos h0]
  ·rw[if_neg h0,if_neg h0]
   by_cases h1:j≤t
   ·rw[if_pos h1,if_pos (by omega)]
   ·rw[if_neg h1,if_neg (by omega)]
def cV (n:Nat) (c:Nat→Nat):List V:=tab n fun q=>nV (c q)
section
variable {a:Da} (h:a.Ok) {c:Nat→Nat}
include h
theorem afm {q:Nat} (hq:q<a.n) {k1 k2 k3 k4 k5 k6:Int} {l1 l2 l3 l4 l5:List V}:
  Loop (Gu CC k1 k2 l1 k3 k4 (tab a.L fun x=>iV (a.nx q x)) ((tab a.L fun x=>iV (a.nx q x)).length:Int) k5 k6 l2 l3 (cV a.n c) l4 l5) (0,(c q:Int),0,0,0,0,0,0)=
   some ((a.L:Int),false,(dH a c q a.L 0:Int),(dH a c q a.L 1:Int),(dH a c q a.L 2:Int),(dH a c q a.L 3:Int),(dH a c q a.L 4:Int),(dH a c q a.L 5:Int),(dH a c q a.L 6:Int)):=by
 have h6:=h.l6
 rw[dY]
 refine (eK a.L (fun t=>((t:Int),(dH a c q t 0:Int),(dH a c q t 1:Int),(dH a c q t 2:Int),(dH a c q t 3:Int),(dH a c q t 4:Int),(dH a c q t 5:Int),(dH a c q t 6:Int))) _ (fun t ht=> ?_) ?_)
 ·simp only[Gu,A6,un]
  refine bT (dx ht) ?_
  refine bs (oN ht) ?_
  refine (dM (i:=a.nx q t) (h.eE hq ht)).trans ?_
  have w:IntKind.wrap .i64 (1+(t:Int))=((t+1:Nat):Int):=by rw[wrap64 (by omega) (by omega)];omega
  rw[w,cA (by omega),Int.toNat_natCast]
  refine bT (Bool.and_eq_true_iff.2 ⟨decide_eq_true (by omega),decide_eq_true (by omega)⟩) ?_
  refine bT (show Nat.ble (0+(t+1)*1+1) 7=true by rw[Nat.ble_eq];omega) ?_
  show some (Sum.inl _)=some (Sum.inl _)
  refine congrArg (fun x=>some (Sum.inl x)) ?_
  exact Prod.ext rfl (Prod.ext (uZ 0) (Prod.ext (uZ 1) (Prod.ext (uZ 2) (Prod.ext (uZ 3) (Prod.ext (uZ 4) (Prod.ext (uZ 5) (uZ 6)))))))
 ·simp only[Gu,A6,un]
  refine bF (bt (Nat.le_refl _)) ?_
  rw[bt (Nat.le_refl _)]
theorem afn (hc: ∀q,q<a.n→c q≤1000) {q:Nat} (hq:q<a.n) (j:Nat):dH a c q a.L j≤1000:=by
 unfold dH
 split
 ·exact hc q hq
 ·split
  ·exact hc _ (h.eE hq (by omega))
  ·omega
theorem afo (hc: ∀q,q<a.n→c q≤1000) {k1 k2 k3:Int} {l2:List V}:
  Loop (Gv CC k1 a.cB (a.cB.length:Int) k2 k3 l2 a.cB (cV a.n c)) (0,([]:List V),List.replicate ((((cV a.n c).length:Int):Int).toNat) (V.int .i64 0))=
   some ((a.n:Int),false,fJ Bh 0 (aL (dD a c) a.n),cV a.n (cp (dD a c) a.n)):=by
 have hm:=h.eD
 have hl:(cV a.n c).length=a.n:=by simp[cV]
 rw[hl,Int.toNat_natCast,nv,Da.UH]
 refine (eK a.n (fun i=>((i:Int),fJ Bh 0 (aL (dD a c) i),(tab a.n fun q=>if q<i then nV (cp (dD a c) a.n q) else nV 0))) _ (fun q hq=> ?_) ?_)
 ·have hle:=rh (dD a c) q
  simp only[Gv,A7,un]
  refine bT (dx hq) ?_
  refine bs (Da.my hq) ?_
  refine (dM (i:=q) hq).trans ?_
  simp only[ny]
  refine bs (afm h hq) ?_
  have k0:=afn h hc hq
  have kk: ∀j,cZ .i64 ((dH a c q a.L j:Nat):Int)=true:=fun j=>F6 (by have:=k0 j;omega)
  have Vj:((cZ .i64 ((dH a c q a.L 0:Nat):Int)&&(cZ .i64 ((dH a c q a.L 1:Nat):Int)&&(cZ .i64 ((dH a c q a.L 2:Nat):Int)&&(cZ .i64 ((dH a c q a.L 3:Nat):Int)&&(cZ .i64 ((dH a c q a.L 4:Nat):Int)&&(cZ .i64 ((dH a c q a.L 5:Nat):Int)&&(cZ .i64 ((dH a c q a.L 6:Nat):Int)&&true)))))))&&true)=true:=by
   simp only[kk,Bool.and_self]
  refine bT Vj ?_
  have ek:V.agg [V.int .i64 (dH a c q a.L 0:Int),V.int .i64 (dH a c q a.L 1:Int),V.int .i64 (dH a c q a.L 2:Int),V.int .i64 (dH a c q a.L 3:Int),V.int .i64 (dH a c q a.L 4:Int),V.int .i64 (dH a c q a.L 5:Int),V.int .i64 (dH a c q a.L 6:Int)]=Bh (dD a c q):=rfl
  simp only[un,ek]
  have e1:=uR Mp (dD a c q) (aL (dD a c) q) 0
  have fin: ∀v,v=nV (cp (dD a c) a.n q)→(tab a.n fun j=>if j<q then nV (cp (dD a c) a.n j) else nV 0).set q v=tab a.n fun j=>if j<q+1 then nV (cp (dD a c) a.n j) else nV 0:=by
   rintro v rfl
   rw[nu]
   refine eF fun j _=> ?_
   by_cases hj:j=q
   ·rw[if_pos hj,if_pos (by omega),hj]
   ·rw[if_neg hj]
    by_cases b6:j<q
    ·rw[if_pos b6,if_pos (by omega)]
    ·rw[if_neg b6,if_neg (by omega)]
  rw[cA (by omega)]
  by_cases hx:dD a c q∈aL (dD a c) q
  ·refine bF (by rw[e1];simpa using hx) ?_
   refine (dM hq).trans ?_
   have e2:=w9 Mp (dD a c q) (.int .i64 0) (aL (dD a c) q) 0 hx
   rw[Nat.zero_add,←U7 hq hx] at e2
   rw[e2,V.toInt_int,Int.toNat_natCast,show (V.int .i64 (cp (dD a c) a.n q:Int))=nV (cp (dD a c) a.n q) from rfl,fin _ rfl,Mk hx]
  ·refine bT (by rw[e1];simpa using hx) ?_
   refine bT Vj ?_
   refine (dM hq).trans ?_
   have e2:=xb Mp (dD a c q) (aL (dD a c) q) 0 hx
   rw[Nat.zero_add] at e2
   rw[w8,e2,Int.toNat_natCast,←U8 hq hx,show (V.int .i64 (cp (dD a c) a.n q:Int))=nV (cp (dD a c) a.n q) from rfl,fin _ rfl,Gg hx]
 ·simp only[Gv,A7,un]
  refine bF (bt (Nat.le_refl _)) ?_
  rw[bt (Nat.le_refl _)]
  have:(tab a.n fun q=>if q<a.n then nV (cp (dD a c) a.n q) else nV 0)=cV a.n (cp (dD a c) a.n):=eF fun q hq=>if_pos hq
  rw[this]
def kP (a:Da):Nat→Nat
 | 0=>1
 | i+1=>if a.fin i=a.fin 0 then kP a i else 2
def fl (a:Da) (q:Nat):Nat:=if a.fin q=a.fin 0 then 0 else 1
theorem afp:(aL (fl a) a.n).length=kP a a.n:=by
 have key: ∀m,(aL (fl a) (m+1)=[0]∧kP a (m+1)=1)∨(aL (fl a) (m+1)=[0,1]∧kP a (m+1)=2):=by
  intro m
  induction m with
  | zero=>left;simp[aL,cT,fl,kP]
  | succ m ih=>
   rw[aL,kP]
   unfold fl cT
   by_cases hf:a.fin (m+1)=a.fin 0
   ·rw[if_pos hf,if_pos hf]
    rcases ih with ⟨i1,i2⟩|⟨i1,i2⟩
    ·left;refine ⟨?_,i2⟩;unfold fl at i1;rw[i1];rfl
    ·right;refine ⟨?_,i2⟩;unfold fl at i1;rw[i1];rfl
   ·rw[if_neg hf,if_neg hf]
    rcases ih with ⟨i1,i2⟩|⟨i1,i2⟩
    ·right;refine ⟨?_,rfl⟩;unfold fl at i1;rw[i1];rfl
    ·right;refine ⟨?_,rfl⟩;unfold fl at i1;rw[i1];rfl
 have hs:=h.s
 obtain ⟨m,hm⟩: ∃m,a.n=m+1:=⟨a.n-1,by omega⟩
 rw[hm]
 rcases key m with ⟨e1,e2⟩|⟨e1,e2⟩<;>rw[e1,e2]<;>rfl
theorem afq {k2 k3:Int} {l2:List V}:Loop (Gl CC a.cU (a.cU.length:Int) k2 k3 a.cU l2) (1,0,List.replicate ((((a.cU.length:Nat):Int)).toNat) (V.int .i64 0))=some ((kP a a.n:Int),(a.n:Int),false,cV a.n (fl a)):=by
 have hm:=h.eD
 have hs:=h.s
 rw[Da.nw,Int.toNat_natCast,nv]
 refine (eK a.n (fun i=>((kP a i:Int),(i:Int),(tab a.n fun q=>if q<i then nV (fl a q) else nV 0))) _ (fun q hq=> ?_) ?_)
 ·simp only[Gl,A5,un]
  refine bT (dx hq) ?_
  refine bs (Da.sK hq) ?_
  refine bs (a:= .bool (a.fin 0)) (by unfold Da.cU;exact Mc (by omega)) ?_
  rw[cA (by omega)]
  have fin:(tab a.n fun j=>if j<q then nV (fl a j) else nV 0).set q (nV (fl a q))=tab a.n fun j=>if j<q+1 then nV (fl a j) else nV 0:=by
   rw[nu]
   refine eF fun j _=> ?_
   by_cases hj:j=q
   ·rw[if_pos hj,if_pos (by omega),hj]
   ·rw[if_neg hj]
    by_cases b6:j<q
    ·rw[if_pos b6,if_pos (by omega)]
    ·rw[if_neg b6,if_neg (by omega)]
  simp only[V.j5]
  by_cases hf:a.fin q=a.fin 0
  ·refine bF (by rw[hf];simp) ?_
   have e:kP a (q+1)=kP a q:=by rw[kP,if_pos hf]
   have e2:(tab a.n fun j=>if j<q then nV (fl a j) else nV 0)=tab a.n fun j=>if j<q+1 then nV (fl a j) else nV 0:=eF fun j _=>by
    by_cases hj:j=q
    ·rw[if_neg (by omega),if_pos (by omega),hj];unfold fl;rw[if_pos hf]
    ·by_cases b6:j<q
     ·rw[if_pos b6,if_pos (by omega)]
     ·rw[if_neg b6,if_neg (by omega)]
   rw[e,e2]
  ·refine bT (by simpa using hf) ?_
   refine (dM hq).trans ?_
   have e:kP a (q+1)=2:=by rw[kP,if_neg hf]
   have e3:fl a q=1:=by unfold fl;rw[if_neg hf]
   rw[e3] at fin
   rw[e,Int.toNat_natCast,show (V.int .i64 1)=nV 1 from rfl,fin];rfl
 ·simp only[Gl,A5,un]
  refine bF (bt (Nat.le_refl _)) ?_
  rw[bt (Nat.le_refl _)]
  have:(tab a.n fun q=>if q<a.n then nV (fl a q) else nV 0)=cV a.n (fl a):=eF fun q hq=>if_pos hq
  rw[this]
theorem afr {k2 k3:Int} {l2:List V}: ∃p,Loop (Bg CC k2 k3 l2 a.cB) ((kP a a.n:Int),cV a.n (fl a))=some (cV a.n p)∧a.uX p∧∀q,q<a.n→p q≤1000:=by
 have hm:=h.eD
 have:=Rn (step:=Bg CC k2 k3 l2 a.cB)
  (fun x=> ∃c,x=(((aL c a.n).length:Int),cV a.n c)∧a.Part c∧∀q,q<a.n→c q≤1000)
  (fun x=>a.n-x.1.toNat)
  (fun r=> ∃p,r=cV a.n p∧a.uX p∧∀q,q<a.n→p q≤1000) (fun x hx=> ?_) ((kP a a.n:Int),cV a.n (fl a)) ⟨fl a,by rw[afp h],⟨?_,?_⟩,?_⟩
 ·obtain ⟨r,h1,p,rfl,h2,h3⟩:=this
  exact ⟨p,h1,h2,h3⟩
 ·obtain ⟨c,rfl,hp,hc⟩:=hx
  have hl:(cV a.n c).length=a.n:=by simp[cV]
  have nA:a.Gh c (cp (dD a c) a.n):=fun q q' hq ca=>(A1 hq ca).trans (Mq h)
  have hle:=rh (dD a c) a.n
  have hb: ∀q,q<a.n→cp (dD a c) a.n q≤1000:=fun q hq=>by have:=A0 (g:=dD a c) hq;omega
  have u0: ∀q q',q<a.n→q'<a.n→dD a c q=dD a c q'→c q=c q':=fun q q' hq ca e=>(Da.uW.1 ((Mq h).1 e)).1
  have afs:=Va u0
  have cr:=afo h hc (k1:=((aL c a.n).length:Int)) (k2:=k2) (k3:=k3) (l2:=l2)
  by_cases he:(aL (dD a c) a.n).length=(aL c a.n).length
  ·right
   refine ⟨_,?_,cp (dD a c) a.n,rfl,⟨fun q q' hq ca=> ?_,Ml _ _⟩,hb⟩
   ·simp only[Bg,Bf,un]
    refine bT (by rw[hl];exact mw (by omega) (by omega)) ?_
    refine bs cr ?_
    refine bT (by rw[w8];simp[he]) ?_
    rfl
   ·have bP:=Mm u0 (by omega)
    rw[A1 hq ca,←hp.Vb h (fun s s' hs si e=>(Mq h).1 (bP s s' hs si e)) q q' hq ca]
    exact ⟨u0 q q' hq ca,bP q q' hq ca⟩
  ·left
   have e2:(aL (cp (dD a c) a.n) a.n).length=(aL (dD a c) a.n).length:=by rw[U9 _ _ _ (Nat.le_refl _),List.length_range]
   refine ⟨(((aL (dD a c) a.n).length:Int),cV a.n (cp (dD a c) a.n)),?_,⟨cp (dD a c) a.n,by rw[e2],nA.part h hp,hb⟩,?_⟩
   ·simp only[Bg,Bf,un]
    refine bT (by rw[hl];exact mw (by omega) (by omega)) ?_
    refine bs cr ?_
    refine bF (by rw[w8];simpa using fun e=>he (by omega)) ?_
    rw[w8]
   ·simp only[Int.toNat_natCast]
    omega
 ·intro q q' hq ca he
  have:=he [] WL.nil
  rw[Da.nt,Da.nt] at this
  unfold fl;rw[this]
 ·intro q q' hq ca he
  unfold fl at he
  split at he<;>split at he
  ·rename_i h1 h2;rw[h1,h2]
  ·omega
  ·omega
  ·rename_i h1 h2
   revert h1 h2
   cases a.fin q<;>cases a.fin q'<;>cases a.fin 0<;>simp
 ·intro q _
  unfold fl;split<;>omega
theorem aft: ∃p,CC E8 (dc a)=some [.list bf (cV a.n p)]∧a.uX p∧∀q,q<a.n→p q≤1000:=by
 have hm:=h.eD
 obtain ⟨p,h1,h2,h3⟩:=afr h (k2:=(a.L:Int)) (k3:=(a.st:Int)) (l2:=a.cU)
 refine ⟨p,afl ?_,h2,h3⟩
 unfold Vh
 refine bs (uQ h) ?_
 refine bF rfl ?_
 refine bT (by rw[Da.nw];exact mw (by omega) (by omega)) ?_
 refine bs (afq h) ?_
 refine bs h1 ?_
 rfl
end
noncomputable abbrev xh:Code:=cI Tryd.prog (ar.aW 86)
noncomputable def Bi (C:ae) (q t29 t30:Int) (t47:List V) (t48 aQ a9:Int) (bp bj:List V) (cj cl xi xj:Int) (places dm:List V) (xk xl:Int) (bc bm bM cf fh Vk:List V) (t49:Int) (rows:List V) {β:Type} (kn:(Int × (List V))→Option β) (kr:(Int × Bool × (List V))→Option β):Option β:=
 bif decide ((t49:Int)<t48) then
  (idx t47 t49).bind fun x5=>
  bif (decide (0≤x5.toInt))&&(decide (x5.toInt<(dm.length:Int))) then
  (dm[(x5.toInt:Int).toNat]?).bind fun x6=>
  bif (decide (0≤t49))&&(decide (t49<(rows.length:Int))) then
   (rows[(t49:Int).toNat]?).bind fun x7=>
   kn (IntKind.wrap .i64 (t49+1),rows.set ((t49:Int).toNat) (.int .i64 x6.toInt))
  else none
  else none
 else
  kr (t49,decide ((t49:Int)<t48),rows)
noncomputable def Gx (C:ae) (q t29 t30:Int) (t47:List V) (t48 aQ a9:Int) (bp bj:List V) (cj cl xi xj:Int) (places dm:List V) (xk xl:Int) (bc bm bM cf fh Vk:List V):(Int × (List V))→Option ((Int × (List V)) ⊕ (Int × Bool × (List V))):=un fun t49 rows=>Bi C q t29 t30 t47 t48 aQ a9 bp bj cj cl xi xj places dm xk xl bc bm bM cf fh Vk t49 rows (fun y=>some (.inl y)) (fun r=>some (.inr r))
noncomputable def Bj (C:ae) (t29 aQ a9:Int) (bp bj:List V) (cj cl xi xj:Int) (places dm:List V) (xk xl:Int) (br bc bm bM:List V) (t30:Int) (cf fh:List V) {β:Type} (kn:(Int × (List V) × (List V))→Option β) (kr:(Int × Bool × (List V) × (List V))→Option β):Option β:=
 bif decide ((t30:Int)<t29) then
  bif (decide (0≤t30))&&(decide (t30<(dm.length:Int))) then
  (dm[(t30:Int).toNat]?).bind fun x3=>
  bif decide ((x3.toInt:Int)<(cf.length:Int)) then
   kn (IntKind.wrap .i64 (t30+1),cf,fh)
  else
   bif (decide (0≤aQ))&&((decide (aQ≤aQ))&&(Nat.ble (((aQ:Int).toNat)*8) bC)) then
   bif (decide (0≤t30))&&(decide (t30<(bM.length:Int))) then
    (bM[(t30:Int).toNat]?).bind fun x4=>
    (Loop (Gx C t30 t29 t30 x4.toList (x4.toList.length:Int) aQ a9 bp bj cj cl xi xj places dm xk xl br bc bm bM cf fh) (0,List.replicate ((aQ:Int).toNat) (V.int .i64 0))).bind (un fun (qV:Int)=>un fun (q0:Bool) (Vl:List V)=>
     bif (decide (0≤t30))&&(decide (t30<(bm.length:Int))) then
     (bm[(t30:Int).toNat]?).bind fun eJ=>
     bif Nat.ble ((cf.length+([.bool eJ.toBool]:List V).length)*1) bC then
      bif Nat.ble ((fh.length+([.list bf Vl]:List V).length)*24) bC then
      kn (IntKind.wrap .i64 (t30+1),cf++([.bool eJ.toBool]:List V),fh++([.list bf Vl]:List V))
      else none
     else none
     else none)
   else none
   else none
  else none
 else
  kr (t30,decide ((t30:Int)<t29),cf,fh)
noncomputable def Gy (C:ae) (t29 aQ a9:Int) (bp bj:List V) (cj cl xi xj:Int) (places dm:List V) (xk xl:Int) (br bc bm bM:List V):(Int × (List V) × (List V))→Option ((Int × (List V) × (List V)) ⊕ (Int × Bool × (List V) × (List V))):=un fun t30=>un fun cf fh=>Bj C t29 aQ a9 bp bj cj cl xi xj places dm xk xl br bc bm bM t30 cf fh (fun y=>some (.inl y)) (fun r=>some (.inr r))
noncomputable def Bk (C:ae) (t88 cj cl:Int) (dm:List V) (rj rk:Int) (numbers Gz br bc bm bM:List V) (t89:Int) (dQ:List V) {β:Type} (kn:(Int × (List V))→Option β) (kr:(Int × Bool × (List V))→Option β):Option β:=
 bif decide ((t89:Int)<t88) then
  bif (decide (0≤t89))&&(decide (t89<(Gz.length:Int))) then
  (Gz[(t89:Int).toNat]?).bind fun nB=>
  bif (decide (0≤t89))&&(decide (t89<(dQ.length:Int))) then
   (dQ[(t89:Int).toNat]?).bind fun sM=>
   bif decide ((nB.toInt:Int)≥0) then
   bif (decide (0≤nB.toInt))&&(decide (nB.toInt<(dm.length:Int))) then
    (dm[(nB.toInt:Int).toNat]?).bind fun lE=>
    bif (decide (0≤lE.toInt))&&(decide (lE.toInt<(numbers.length:Int))) then
    (numbers[(lE.toInt:Int).toNat]?).bind fun rl=>
    bif (decide (0≤t89))&&(decide (t89<((dQ.set ((t89:Int).toNat) (.int .i64 (-1))).length:Int))) then
     ((dQ.set ((t89:Int).toNat) (.int .i64 (-1)))[(t89:Int).toNat]?).bind fun Bl=>
     kn (IntKind.wrap .i64 (t89+1),(dQ.set ((t89:Int).toNat) (.int .i64 (-1))).set ((t89:Int).toNat) (.int .i64 rl.toInt))
    else none
    else none
   else none
   else
   kn (IntKind.wrap .i64 (t89+1),dQ.set ((t89:Int).toNat) (.int .i64 (-1)))
  else none
  else none
 else
  kr (t89,decide ((t89:Int)<t88),dQ)
noncomputable def GA (C:ae) (t88 cj cl:Int) (dm:List V) (rj rk:Int) (numbers Gz br bc bm bM:List V):(Int × (List V))→Option ((Int × (List V)) ⊕ (Int × Bool × (List V))):=un fun t89 dQ=>Bk C t88 cj cl dm rj rk numbers Gz br bc bm bM t89 dQ (fun y=>some (.inl y)) (fun r=>some (.inr r))
noncomputable def Vm (C:ae):cy:=fun β n ds k=>
 bif Nat.beq n 161 then bu KF [false,false,false,false,false,true,false,false,false,false,false,false,false,false,false,false,false,false,true,false,false,false,false,false,false] [[1,2,3,4,5,0,0,7,8,9,10,11,12,13,14,15,16,17,18,0,20,21,22,23,24,25]] (@Bi C) ds k else
 bif Nat.beq n 81 then bu KG [false,true,false,false,false,false,false,false,false,false,false,false,false,false,false,false,false,false,true,true] [[1,0,0,3,4,5,6,7,8,9,10,11,12,13,14,15,16,17,18,0,0]] (@Bj C) ds k else
 bif Nat.beq n 321 then bu KH [false,true,false,false,false,false,false,false,true,false,false,false,false,false] [[1,0,0,3,4,5,6,7,8,0,10,11,12,13,14]] (@Bk C) ds k else
 none
abbrev Mr (C:ae) (b:ct):Prop:=cu Tryd.prog ar C (Vm C) 86 (cP Tryd.prog (ar.aW 86)) (ar.sin 86).a8.length b
theorem afu (C:ae):Mr C (.loop (ak [1,1,1,1,0,1,0,0,1,1,0,0,1,1,1,0,1,0,0] xh)):=
 bz KF [false,false,false,false,false,true,false,false,false,false,false,false,false,false,false,false,false,false,true,false,false,false,false,false,false] [[1,2,3,4,5,0,0,7,8,9,10,11,12,13,14,15,16,17,18,0,20,21,22,23,24,25]] (@Bi C) (by kernel_rfl) (aS (bs:=[]) (by kernel_rfl) ao) (fun ds=>by kernel_rfl) (fun i x=>by kernel_rfl) (fun i x β k=>by kernel_rfl) (fun β ds k=>by kernel_rfl)
theorem afv (C:ae):Mr C (.loop (ak [1,1,1,1,0,1,0,0] xh)):=
 bz KG [false,true,false,false,false,false,false,false,false,false,false,false,false,false,false,false,false,false,true,true] [[1,0,0,3,4,5,6,7,8,9,10,11,12,13,14,15,16,17,18,0,0]] (@Bj C) (by kernel_rfl) (aS (bs:=[.loop (ak [1,1,1,1,0,1,0,0,1,1,0,0,1,1,1,0,1,0,0] xh)]) (by kernel_rfl) (bd (afu C) ao)) (fun ds=>by kernel_rfl) (fun i x=>by kernel_rfl) (fun i x β k=>by kernel_rfl) (fun β ds k=>by kernel_rfl)
theorem afw (C:ae):Mr C (.loop (ak [1,1,1,1,1,1,1,0,1,0,0] xh)):=
 bz KH [false,true,false,false,false,false,false,false,true,false,false,false,false,false] [[1,0,0,3,4,5,6,7,8,0,10,11,12,13,14]] (@Bk C) (by kernel_rfl) (aS (bs:=[]) (by kernel_rfl) ao) (fun ds=>by kernel_rfl) (fun i x=>by kernel_rfl) (fun i x β k=>by kernel_rfl) (fun β ds k=>by kernel_rfl)
noncomputable def Vn (C:ae) (aX aY:Int) (aF ba:List V):Option (List V):=
 (C wP [.int .i64 aX,.int .i64 aY,.list aw aF,.list ay ba]).bind fun r1=>
 (C E8 [.int .i64 ((V.nth r1 0).toInt),.int .i64 ((V.nth (r1.drop 1) 0).toInt),.list aw ((V.nth (r1.drop 2) 0).toList),.list ay ((V.nth ((r1.drop 2).drop 1) 0).toList)]).bind fun r2=>
 (Loop (Gy C (((V.nth r2 0).toList).length:Int) aX aY aF ba 0 0 ((V.nth r1 0).toInt) ((V.nth (r1.drop 1) 0).toInt) ((V.nth (((r1.drop 2).drop 1).drop 1) 0).toList) ((V.nth r2 0).toList) aX 0 ([]:List V) ([]:List V) ((V.nth (r1.drop 2) 0).toList) ((V.nth ((r1.drop 2).drop 1) 0).toList)) (0,([]:List V),([]:List V))).bind (un fun (Bm:Int)=>un fun (nq:Bool)=>un fun (rf:List V) (uJ:List V)=>
  (C wP [.int .i64 aX,.int .i64 0,.list aw rf,.list ay uJ]).bind fun jG=>
  bif (decide (0≤(((V.nth (((r1.drop 2).drop 1).drop 1) 0).toList).length:Int)))&&((decide ((((V.nth (((r1.drop 2).drop 1).drop 1) 0).toList).length:Int)≤(((V.nth (((r1.drop 2).drop 1).drop 1) 0).toList).length:Int)))&&(Nat.ble ((((((V.nth (((r1.drop 2).drop 1).drop 1) 0).toList).length:Int):Int).toNat)*8) bC)) then
   (Loop (GA C (((V.nth (((r1.drop 2).drop 1).drop 1) 0).toList).length:Int) 0 0 ((V.nth r2 0).toList) ((V.nth jG 0).toInt) ((V.nth (jG.drop 1) 0).toInt) ((V.nth (((jG.drop 2).drop 1).drop 1) 0).toList) ((V.nth (((r1.drop 2).drop 1).drop 1) 0).toList) ([]:List V) ([]:List V) ((V.nth (jG.drop 2) 0).toList) ((V.nth ((jG.drop 2).drop 1) 0).toList)) (0,List.replicate (((((V.nth (((r1.drop 2).drop 1).drop 1) 0).toList).length:Int):Int).toNat) (V.int .i64 0))).bind (un fun (afx:Int)=>un fun (Ms:Bool) (afy:List V)=>
    some [.int .i64 ((V.nth jG 0).toInt),.int .i64 ((V.nth (jG.drop 1) 0).toInt),.list aw ((V.nth (jG.drop 2) 0).toList),.list ay ((V.nth ((jG.drop 2).drop 1) 0).toList),.list bf afy])
  else none)
theorem afz {aX aY:Int} {aF ba:List V} {r:Option (List V)} (h:Vn CC aX aY aF ba=r):CC EY [.int .i64 aX,.int .i64 aY,.list aw aF,.list ay ba]=r:=
 bn (key:=86) (L:=Vm CC) (bs:=[.loop (ak [1,1,1,1,0,1,0,0] xh),.loop (ak [1,1,1,1,1,1,1,0,1,0,0] xh)]) (by kernel_rfl) (bd (afv CC) (bd (afw CC) ao)) (Eq.trans (by kernel_rfl) h)
noncomputable def Vo (C:ae) (aX aY:Int) (aF ba:List V):Option (List V):=
 (C oC [.int .i64 aX,.int .i64 aY,.list aw aF,.list ay ba]).bind fun r1=>
 bif (((V.nth r1 0).toInt):Int) != 0 then
  some [.int .i64 0,.int .i64 0,.list aw ([]:List V),.list ay ([]:List V)]
 else
  (C EY [.int .i64 aX,.int .i64 aY,.list aw aF,.list ay ba]).bind fun r2=>
  some [.int .i64 ((V.nth r2 0).toInt),.int .i64 ((V.nth (r2.drop 1) 0).toInt),.list aw ((V.nth (r2.drop 2) 0).toList),.list ay ((V.nth ((r2.drop 2).drop 1) 0).toList)]
theorem afA {aX aY:Int} {aF ba:List V} {r:Option (List V)} (h:Vo CC aX aY aF ba=r):CC sA [.int .i64 aX,.int .i64 aY,.list aw aF,.list ay ba]=r:=
 bn (key:=54) (L:=db) (bs:=[]) (by kernel_rfl) ao (Eq.trans (by kernel_rfl) h)
theorem afB {p:Nat→Nat} {n:Nat} (h:nz p n) (hn:0<n):p 0=0:=by
 simpa[aL,cT] using h 1 (by omega)
theorem Mt {p:Nat→Nat} {n i:Nat} (h:nz p n) (hi:i<n):p i∈aL p i↔p i<(Da.dN p i).length:=by
 rw[Da.xf]
 constructor
 ·intro hm
  rw[h i (by omega)] at hm
  simpa using hm
 ·intro hm
  rw[h i (by omega)]
  simpa using hm
theorem Mu (p:Nat→Nat) (n:Nat):(Da.dN p n).length≤n:=by rw[Da.xf];exact rh p n
def qF (a:Da) (p:Nat→Nat) (i:Nat):List V:=(Da.dN p i).map fun r=>V.bool (a.fin r)
def qN (a:Da) (p:Nat→Nat) (i:Nat):List V:=(Da.dN p i).map fun r=>fx a.L fun x=>p (a.nx r x)
theorem Vp {a:Da} {p:Nat→Nat}:(a.quo p).cU=qF a p a.n∧(a.quo p).cB=qN a p a.n:=by
 constructor
 ·unfold Da.cU qF
  rw[AK _ 0,Da.ri]
  exact eF fun i hi=>by rw[Da.Vc hi,fY hi]
 ·unfold Da.cB qN
  rw[AK _ 0,Da.ri]
  refine eF fun i hi=> ?_
  unfold fx
  exact congrArg _ (eF fun x hx=>by rw[Da.Vd hi hx,fY hi])
section
variable {a:Da} (h:a.Ok) {p:Nat→Nat}
include h
theorem afC {q:Nat} (hq:q<a.n) {k1 k2 k3 k4 k5 k6 k7 k8 k9 Mv k11:Int} {l1 l2 l3 l4 l5 l6 l7 l8 l9:List V}:
  Loop (Gx CC k1 k2 k3 (tab a.L fun x=>iV (a.nx q x)) ((tab a.L fun x=>iV (a.nx q x)).length:Int) k4 k5 l1 l2 k6 k7 k8 k9 l3 (cV a.n p) Mv k11 l4 l5 l6 l7 l8 l9) (0,List.replicate (((a.L:Nat):Int).toNat) (V.int .i64 0))=
   some ((a.L:Int),false,(tab a.L fun x=>nV (p (a.nx q x)))):=by
 have h6:=h.l6
 rw[dY,Int.toNat_natCast,nv]
 refine (eK a.L (fun t=>((t:Int),(tab a.L fun x=>if x<t then nV (p (a.nx q x)) else nV 0))) _ (fun t ht=> ?_) ?_)
 ·simp only[Gx,Bi,un]
  refine bT (dx ht) ?_
  refine bs (oN ht) ?_
  refine (dM (i:=a.nx q t) (h.eE hq ht)).trans ?_
  refine (dM ht).trans ?_
  rw[cA (by omega),Int.toNat_natCast,nu]
  refine congrArg (fun x=>some (Sum.inl (((t+1:Nat):Int),x))) (eF fun j _=> ?_)
  by_cases hj:j=t
  ·rw[if_pos hj,if_pos (by omega),hj];rfl
  ·rw[if_neg hj]
   by_cases b6:j<t
   ·rw[if_pos b6,if_pos (by omega)]
   ·rw[if_neg b6,if_neg (by omega)]
 ·simp only[Gx,Bi,un]
  refine bF (bt (Nat.le_refl _)) ?_
  rw[bt (Nat.le_refl _)]
  refine congrArg (fun x=>some (Sum.inr ((a.L:Int),false,x))) (eF fun j hj=>if_pos hj)
theorem afD (ho:nz p a.n) {k3 k4 k5 k6 k7 k8 k9:Int} {l1 l2 l3 l4 l5:List V}:
  Loop (Gy CC ((cV a.n p).length:Int) (a.L:Int) k3 l1 l2 k4 k5 k6 k7 l3 (cV a.n p) k8 k9 l4 l5 a.cU a.cB) (0,([]:List V),([]:List V))=
   some ((a.n:Int),false,qF a p a.n,qN a p a.n):=by
 have h6:=h.l6
 have hm:=h.eD
 rw[show (cV a.n p).length=a.n by simp[cV]]
 refine (eK a.n (fun i=>((i:Int),qF a p i,qN a p i)) _ (fun q hq=> ?_) ?_)
 ·have hle:=Mu p q
  have hF:(qF a p q).length=(Da.dN p q).length:=by simp[qF]
  have hN:(qN a p q).length=(Da.dN p q).length:=by simp[qN]
  simp only[Gy,Bj,un]
  refine bT (dx hq) ?_
  refine (dM (i:=q) hq).trans ?_
  rw[cA (by omega)]
  simp only[nV,V.toInt_int]
  by_cases hx:p q∈aL p q
  ·refine bT (decide_eq_true (by rw[hF];have:=(Mt ho hq).1 hx;omega)) ?_
   unfold qF qN
   rw[Da.dN,if_pos hx]
  ·refine bF (decide_eq_false (by rw[hF];intro h2;exact hx ((Mt ho hq).2 (by omega)))) ?_
   refine bT (mw (by omega) (by omega)) ?_
   refine (dM (i:=q) hq).trans ?_
   simp only[ny]
   refine bs (afC h hq) ?_
   refine (dM (i:=q) hq).trans ?_
   refine bT (cap (by rw[hF];simp;omega) (by omega)) ?_
   refine bT (cap (by rw[hN];simp;omega) (by omega)) ?_
   unfold qF qN
   rw[Da.dN,if_neg hx,List.map_append,List.map_append]
   rfl
 ·simp only[Gy,Bj,un]
  refine bF (bt (Nat.le_refl _)) ?_
  rw[bt (Nat.le_refl _)]
end
def rm (U U':List Nat) (p:Nat→Nat) (q:Nat):V:=if q∈U then iV ((if p (U.idxOf q)∈U' then nV (U'.idxOf (p (U.idxOf q))) else V.int .i64 (-1)).toInt) else V.int .i64 (-1)
theorem afE {n m k:Nat} {U U':List Nat} {p:Nat→Nat} (hn:n≤512) (hU:U.length≤m) (hp: ∀q,q<m→p q<k) {k1 k2 k3 k4:Int} {l1 l2 l3 l4:List V}:
  ∃X,Loop (GA CC ((iQ U n).length:Int) k1 k2 (cV m p) k3 k4 (iQ U' k) (iQ U n) l1 l2 l3 l4) (0,List.replicate ((((iQ U n).length:Int):Int).toNat) (V.int .i64 0))=some ((n:Int),false,X):=by
 rw[show (iQ U n).length=n by simp[iQ],Int.toNat_natCast,nv]
 refine ⟨tab n fun q=>if q<n then rm U U' p q else V.int .i64 0,eK n (fun i=>((i:Int),(tab n fun q=>if q<i then rm U U' p q else V.int .i64 0))) _ (fun q hq=> ?_) ?_⟩
 ·simp only[GA,Bk,un]
  refine bT (dx hq) ?_
  refine (dM (i:=q) hq).trans ?_
  refine (dM (i:=q) hq).trans ?_
  rw[cA (by omega)]
  have fin: ∀v,v=rm U U' p q→((tab n fun j=>if j<q then rm U U' p j else V.int .i64 0).set q v)=tab n fun j=>if j<q+1 then rm U U' p j else V.int .i64 0:=by
   rintro v rfl
   rw[nu]
   refine eF fun j _=> ?_
   by_cases hj:j=q
   ·rw[if_pos hj,if_pos (show j<q+1 by omega),hj]
   ·rw[if_neg hj]
    by_cases b6:j<q
    ·rw[if_pos b6,if_pos (show j<q+1 by omega)]
    ·rw[if_neg b6,if_neg (show¬j<q+1 by omega)]
  by_cases hx:q∈U
  ·have es:rm U U' p q=iV ((if p (U.idxOf q)∈U' then nV (U'.idxOf (p (U.idxOf q))) else V.int .i64 (-1)).toInt):=by unfold rm;rw[if_pos hx]
   have hi:=List.idxOf_lt_length_of_mem hx
   rw[if_pos hx]
   refine bT (decide_eq_true (by simp only[nV,V.toInt_int];omega)) ?_
   simp only[nV,V.toInt_int]
   refine (dM (i:=U.idxOf q) (by omega)).trans ?_
   simp only[nV,V.toInt_int]
   refine (dM (i:=p (U.idxOf q)) (hp _ (by omega))).trans ?_
   refine bT (by rw[List.length_set,dY];exact aeq hq) ?_
   refine bs (a:= .int .i64 (-1)) (by rw[Int.toNat_natCast,List.getElem?_set];simp[hq]) ?_
   rw[Int.toNat_natCast,List.set_set,←fin _ es.symm]
  ·rw[if_neg hx]
   refine bF (decide_eq_false (by simp)) ?_
   rw[Int.toNat_natCast,←fin _ (show V.int .i64 (-1)=rm U U' p q by unfold rm;rw[if_neg hx])]
 ·simp only[GA,Bk,un]
  refine bF (bt (Nat.le_refl _)) ?_
  rw[bt (Nat.le_refl _)]
theorem Canon.congr {m:Da} {L:Nat} {K K':List Nat→Bool} (h:m.Canon L K) (e: ∀w,WL L w→K w=K' w):m.Canon L K':=⟨h.ok,h.hL,h.st,h.num,h.red,fun w hw=>(h.ly w hw).trans (e w hw)⟩
theorem afF {a:Da} (h:a.Ok): ∃m X,CC EY (dc a)=some (dc m++[.list bf X])∧m.Canon a.L (a.acc a.st):=by
 have ht:=h.Uj
 have hm:=h.eD
 have hle:=h.mr a.n
 have e3:a.trim.n=(aj a.L a.nx a.st a.n).length:=kK
 obtain ⟨p,c1,c2,c3⟩:=aft ht
 have hq:=Da.Gj ht c2
 obtain ⟨q1,q2⟩:=Vp (a:=a.trim) (p:=p)
 have afG:=Da.Mn ht c2
 have bP:(a.trim.quo p).st=0:=afB c2.2 ht.s
 have wm:=U6 hq
 obtain ⟨X,hX⟩:=afE (n:=a.n) (m:=a.trim.n) (k:=(a.trim.quo p).n) (U:=aj a.L a.nx a.st a.n) (U':=aj (a.trim.quo p).L (a.trim.quo p).nx (a.trim.quo p).st (a.trim.quo p).n) (p:=p) hm (by omega) (fun q hq=>by rw[Da.ri];exact Da.A4 c2.2 hq) (k1:=0) (k2:=0) (k3:=((a.trim.quo p).trim.L:Int)) (k4:=((a.trim.quo p).trim.st:Int)) (l1:=[]) (l2:=[]) (l3:=(a.trim.quo p).trim.cU) (l4:=(a.trim.quo p).trim.cB)
 refine ⟨(a.trim.quo p).trim,X,afz ?_,Canon.congr afG fun w hw=>h.Uk hw⟩
 unfold Vn
 refine bs (U6 h) ?_
 refine bs c1 ?_
 refine bs (afD ht c2.2) ?_
 simp only[un]
 rw[←q1,←q2]
 have afH:CC wP [.int .i64 (a.L:Int),.int .i64 0,.list aw (a.trim.quo p).cU,.list ay (a.trim.quo p).cB]=some (dc (a.trim.quo p).trim++[.list bf (iQ (aj (a.trim.quo p).L (a.trim.quo p).nx (a.trim.quo p).st (a.trim.quo p).n) (a.trim.quo p).n)]):=by
  rw[←wm]
  unfold dc gE
  rw[bP];rfl
 refine bs afH ?_
 have e0:(iQ (aj a.L a.nx a.st a.n) a.n).length=a.n:=by simp[iQ]
 refine bT (show ((decide (0≤((iQ (aj a.L a.nx a.st a.n) a.n).length:Int)))&&((decide (((iQ (aj a.L a.nx a.st a.n) a.n).length:Int)≤((iQ (aj a.L a.nx a.st a.n) a.n).length:Int)))&&(Nat.ble (((((iQ (aj a.L a.nx a.st a.n) a.n).length:Nat):Int).toNat)*8) bC)))=true from mw (by rw[e0];omega) (by omega)) ?_
 refine bs hX ?_
 rfl
theorem Vq {a:Da} (h:a.Ok): ∃m,CC sA (dc a)=some (dc m)∧m.Canon a.L (a.acc a.st):=by
 obtain ⟨m,X,h1,h2⟩:=afF h
 refine ⟨m,afA ?_,h2⟩
 unfold Vo
 refine bs (uQ h) ?_
 refine bF rfl ?_
 refine bs h1 ?_
 rfl
open Classical in
noncomputable def minD (a:Da):Da:=if h: ∃m:Da,m.Canon a.L (a.acc a.st) then Classical.choose h else a
theorem xm {a:Da} (h:a.Ok):(minD a).Canon a.L (a.acc a.st):=by
 obtain ⟨m,_,h2⟩:=Vq h
 have: ∃m:Da,m.Canon a.L (a.acc a.st):=⟨m,h2⟩
 unfold minD
 rw[dif_pos this]
 exact Classical.choose_spec this
theorem xn {a m:Da} (h:a.Ok) (hm:m.Canon a.L (a.acc a.st)):m=minD a:=hm.eq (xm h)
theorem GB {a:Da} (h:a.Ok):CC sA (dc a)=some (dc (minD a)):=by
 obtain ⟨m,h1,h2⟩:=Vq h
 rw[h1,xn h h2]
end Go.AM
set_option maxRecDepth 100000
namespace Go.AM
section
variable {α:Type} [DecidableEq α] {L:Nat} {next:α→Nat→α} {a0:α}
theorem Vr (S:List α) (a:α): ∀x,(aV next S a x).length≤S.length+x
 | 0=>Nat.le_refl _
 | x+1=>by
  have:=Vr S a x
  rw[aV,oI]
  split<;>omega
theorem afI {m:Nat} (h:(aj L next a0 m).length≤m) (i:Nat):(aj L next a0 i).length≤m:=by
 rcases Nat.lt_or_ge m i with c|c
 ·rw[AA h (by omega)];exact h
 ·exact Nat.le_trans (kg c).length_le h
theorem Vs {k:Nat} (hd:(aj L next a0 k).length≤k) (i:Nat):(aj L next a0 i).length≤(aj L next a0 k).length:=by
 rcases Nat.lt_or_ge k i with c|c
 ·rw[AA hd (by omega)];exact Nat.le_refl _
 ·exact (kg c).length_le
theorem Vt {k m:Nat} (h:m<(aj L next a0 k).length):m<(aj L next a0 m).length:=by
 rcases Nat.lt_or_ge m (aj L next a0 m).length with c|c
 ·exact c
 ·have:=afI c k
  omega
theorem Vu {m:Nat} (h:m<(aj L next a0 m).length) (hm:1≤m): ∃i,i<m∧(∀j,j≤i→j<(aj L next a0 j).length∧(aj L next a0 j).length≤m)∧m<(aj L next a0 (i+1)).length:=by
 have key: ∀d k,k+d=m→(∀j,j≤k→(aj L next a0 j).length≤m)→∃i,i<m∧(∀j,j≤i→j<(aj L next a0 j).length∧(aj L next a0 j).length≤m)∧m<(aj L next a0 (i+1)).length:=by
  intro d
  induction d with
  | zero=>
   intro k hk hj
   have:=hj k (Nat.le_refl _)
   rw[show k=m by omega] at this
   omega
  | succ d ih=>
   intro k hk hj
   rcases Nat.lt_or_ge m (aj L next a0 (k+1)).length with c|c
   ·refine ⟨k,by omega,fun j Vv=>⟨?_,hj j Vv⟩,c⟩
    rcases Nat.lt_or_ge j (aj L next a0 j).length with c1|c1
    ·exact c1
    ·have h1:=hj j Vv
     rw[←AA c1 (show j≤m by omega)] at h1
     omega
   ·refine ih (k+1) (by omega) fun j b6=> ?_
    rcases Nat.lt_or_ge j (k+1) with c1|c1
    ·exact hj j (by omega)
    ·rw[show j=k+1 by omega];exact c
 exact key m 0 (by omega) fun j hj=>by rw[Nat.le_zero.1 hj];simp[aj];omega
theorem afJ {S:List α} {a:α} {m:Nat} (hS:S.length≤m) (h:m<(aV next S a L).length): ∃x,x<L∧(aV next S a x).length=m∧next a x∉aV next S a x∧∀y,y≤x→(aV next S a y).length≤m:=by
 have key: ∀d k,k+d=L→(∀y,y≤k→(aV next S a y).length≤m)→∃x,x<L∧(aV next S a x).length=m∧next a x∉aV next S a x∧∀y,y≤x→(aV next S a y).length≤m:=by
  intro d
  induction d with
  | zero=>
   intro k hk hj
   have:=hj k (Nat.le_refl _)
   rw[show k=L by omega] at this
   omega
  | succ d ih=>
   intro k hk hj
   rcases Nat.lt_or_ge m (aV next S a (k+1)).length with c|c
   ·have h0:=hj k (Nat.le_refl _)
    rw[aV,oI] at c
    split at c
    ·omega
    ·rename_i hn
     exact ⟨k,by omega,by omega,hn,hj⟩
   ·refine ih (k+1) (by omega) fun j b6=> ?_
    rcases Nat.lt_or_ge j (k+1) with c1|c1
    ·exact hj j (by omega)
    ·rw[show j=k+1 by omega];exact c
 exact key L 0 (by omega) fun y hy=>by rw[Nat.le_zero.1 hy];exact hS
theorem afK {P:α→Prop} (h0:P a0) (hP: ∀a,P a→∀x,x<L→P (next a x)) (i:Nat): ∀a∈aj L next a0 i,P a:=by
 intro a ha
 obtain ⟨w,hw,rfl⟩:=AD i a ha
 have: ∀(w:List Nat) (b:α),P b→WL L w→P (w.foldl next b):=by
  intro w
  induction w with
  | nil=>intro b hb _;exact hb
  | cons x w ih=>intro b hb hw;exact ih _ (hP b hb x hw.head) hw.tail
 exact this w a0 h0 hw
end
end Go.AM
set_option maxRecDepth 100000
namespace Go.AM
open Go.Proofs
structure NP where
 p:Nat
 q:Nat
deriving DecidableEq
section
variable {a b:Da} (ha:a.Ok) (hb:b.Ok) (hL:a.L=b.L) {op:Nat}
include ha hb hL
end
def zD:Da:=⟨0,0,[],[]⟩
def kQ (m:Da) (e:Int):List V:=[.int .i64 (m.L:Int),.int .i64 (m.st:Int),.int .i64 e,.list aw m.cU,.list ay m.cB]
section
variable {a b:Da} (ha:a.Ok) (hb:b.Ok) (hL:a.L=b.L) {op:Nat}
include ha hb hL
end
section
variable {a b:Da} (ha:a.Ok) (hb:b.Ok) (hL:a.L=b.L) {op:Nat}
include ha hb hL
end
noncomputable def Vw (C:ae) (dw letter:Int) (Bn:List V):Option (List V):=
 (idx Bn letter).bind fun x1=>
 (C Fh [.list b7 x1.toList,.int .u64 dw]).bind fun r2=>
 some [.int .u64 ((V.nth r2 0).toInt),.list eC Bn]
theorem afL {dw letter:Int} {Bn:List V} {r:Option (List V)} (h:Vw CC dw letter Bn=r):CC pC [.int .u64 dw,.int .i64 letter,.list eC Bn]=r:=
 bn (key:=138) (L:=db) (bs:=[]) (by kernel_rfl) ao (Eq.trans (by kernel_rfl) h)
noncomputable def Vx (C:ae) (dw ra rb pJ pK:Int) (GC:List V):Option (List V):=
 some [.bool (((IntKind.wrap .u64 ((BitVec.ofInt (IntKind.bits .u64) dw&&&BitVec.ofInt (IntKind.bits .u64) pK).toNat)):Int) != 0),.int .i64 ra,.int .i64 rb,.int .u64 pJ,.int .u64 pK,.list aq GC]
theorem afM {dw ra rb pJ pK:Int} {GC:List V} {r:Option (List V)} (h:Vx CC dw ra rb pJ pK GC=r):CC qP [.int .u64 dw,.int .i64 ra,.int .i64 rb,.int .u64 pJ,.int .u64 pK,.list aq GC]=r:=
 bn (key:=119) (L:=db) (bs:=[]) (by kernel_rfl) ao (Eq.trans (by kernel_rfl) h)
noncomputable def Vy (C:ae) (x:Int) (bG:List V):Option (List V):=
 bif cZ .u64 x&&true then
  bif cZ .u64 x&&true then
  bif Nat.ble ((bG.length+([.int .u64 x]:List V).length)*8) bC then
   some [.int .i64 (bG.length:Int),.list b7 (bG++([.int .u64 x]:List V)),.list gR (e8 (.int .u64 x) (.int .i64 (bG.length:Int)) ([]:List V))]
  else none
  else none
 else none
theorem afN {x:Int} {bG:List V} {r:Option (List V)} (h:Vy CC x bG=r):CC zW [.int .u64 x,.list b7 bG]=r:=
 bn (key:=137) (L:=db) (bs:=[]) (by kernel_rfl) ao (Eq.trans (by kernel_rfl) h)
noncomputable def Vz (C:ae) (x:Int) (bG dG:List V):Option (List V):=
 bif cZ .u64 x&&true then
  bif !(fC (.int .u64 x) dG) then
  bif cZ .u64 x&&true then
   bif Nat.ble ((bG.length+([.int .u64 x]:List V).length)*8) bC then
   some [.int .i64 (bG.length:Int),.list gR (e8 (.int .u64 x) (.int .i64 (bG.length:Int)) dG),.list b7 (bG++([.int .u64 x]:List V))]
   else none
  else none
  else
  some [.int .i64 ((gY (.int .u64 x) dG (.int .i64 0)).toInt),.list gR dG,.list b7 bG]
 else none
theorem afO {x:Int} {bG dG:List V} {r:Option (List V)} (h:Vz CC x bG dG=r):CC JV [.int .u64 x,.list b7 bG,.list gR dG]=r:=
 bn (key:=183) (L:=db) (bs:=[]) (by kernel_rfl) ao (Eq.trans (by kernel_rfl) h)
noncomputable abbrev GD:Code:=cI Tryd.prog (ar.aW 117)
noncomputable def Bo (C:ae) (bY i state t36 lF lG lH lI:Int) (lJ:List V) (mz mA aQ a9:Int) (br bc cf fh:List V) (t37:Int) (lK rows bm bM:List V) {β:Type} (kn:(Int × (List V) × (List V) × (List V) × (List V))→Option β) (kr:(Int × Bool × (List V) × (List V) × (List V) × (List V))→Option β):Option β:=
 bif decide ((t37:Int)<t36) then
  (C pC [.int .u64 state,.int .i64 t37,.list eC lK]).bind fun r3=>
  (C JV [.int .u64 ((V.nth r3 0).toInt),.list b7 bm,.list gR bM]).bind fun r4=>
  bif (decide (0≤t37))&&(decide (t37<(rows.length:Int))) then
  (rows[(t37:Int).toNat]?).bind fun x5=>
  kn (IntKind.wrap .i64 (t37+1),(V.nth (r3.drop 1) 0).toList,rows.set ((t37:Int).toNat) (.int .i64 ((V.nth r4 0).toInt)),(V.nth ((r4.drop 1).drop 1) 0).toList,(V.nth (r4.drop 1) 0).toList)
  else none
 else
  kr (t37,decide ((t37:Int)<t36),lK,rows,bm,bM)
noncomputable def GF (C:ae) (bY i state t36 lF lG lH lI:Int) (lJ:List V) (mz mA aQ a9:Int) (br bc cf fh:List V):(Int × (List V) × (List V) × (List V) × (List V))→Option ((Int × (List V) × (List V) × (List V) × (List V)) ⊕ (Int × Bool × (List V) × (List V) × (List V) × (List V))):=un fun t37=>un fun lK=>un fun rows=>un fun bm bM=>Bo C bY i state t36 lF lG lH lI lJ mz mA aQ a9 br bc cf fh t37 lK rows bm bM (fun y=>some (.inl y)) (fun r=>some (.inr r))
noncomputable def Bp (C:ae) (bY mz mA aQ a9:Int) (bR br:List V) (i:Int) (lK:List V) (lF lG lH lI:Int) (lJ bc bm bM cf:List V) {β:Type} (kn:(Int × (List V) × Int × Int × Int × Int × (List V) × (List V) × (List V) × (List V) × (List V))→Option β) (kr:((Int × (List V) × Int × Int × Int × Int × (List V) × Int × Int × (List V) × (List V) × (List V)) ⊕ (Int × Bool × (List V) × Int × Int × Int × Int × (List V) × (List V) × (List V) × (List V) × (List V)))→Option β):Option β:=
 bif decide ((i:Int)<(bc.length:Int)) then
  bif (decide (0≤i))&&(decide (i<(bc.length:Int))) then
  (bc[(i:Int).toNat]?).bind fun x2=>
  bif (decide (0≤bY))&&((decide (bY≤bY))&&(Nat.ble (((bY:Int).toNat)*8) bC)) then
   (Loop (GF C bY i x2.toInt ((List.replicate ((bY:Int).toNat) (V.int .i64 0)).length:Int) lF lG lH lI lJ mz mA aQ a9 bR br bM cf) (0,lK,List.replicate ((bY:Int).toNat) (V.int .i64 0),bc,bm)).bind (un fun (oG:Int)=>un fun (np:Bool)=>un fun (AT:List V)=>un fun (Bq:List V)=>un fun (GG:List V) (Mw:List V)=>
    bif decide (((GG.length:Int):Int)>512) then
    kr (.inl (3,AT,lF,lG,lH,lI,lJ,0,0,([]:List V),([]:List V),([]:List V)))
    else
    bif Nat.ble ((cf.length+([.list bf Bq]:List V).length)*24) bC then
     (C qP [.int .u64 x2.toInt,.int .i64 lF,.int .i64 lG,.int .u64 lH,.int .u64 lI,.list aq lJ]).bind fun kR=>
     bif Nat.ble ((bM.length+([.bool ((V.nth kR 0).toBool)]:List V).length)*1) bC then
     kn (IntKind.wrap .i64 (i+1),AT,(V.nth (kR.drop 1) 0).toInt,(V.nth ((kR.drop 1).drop 1) 0).toInt,(V.nth (((kR.drop 1).drop 1).drop 1) 0).toInt,(V.nth ((((kR.drop 1).drop 1).drop 1).drop 1) 0).toInt,(V.nth (((((kR.drop 1).drop 1).drop 1).drop 1).drop 1) 0).toList,GG,Mw,bM++([.bool ((V.nth kR 0).toBool)]:List V),cf++([.list bf Bq]:List V))
     else none
    else none)
  else none
  else none
 else
  kr (.inr (i,decide ((i:Int)<(bc.length:Int)),lK,lF,lG,lH,lI,lJ,bc,bm,bM,cf))
noncomputable def xo (C:ae) (bY mz mA aQ a9:Int) (bR br:List V):(Int × (List V) × Int × Int × Int × Int × (List V) × (List V) × (List V) × (List V) × (List V))→Option ((Int × (List V) × Int × Int × Int × Int × (List V) × (List V) × (List V) × (List V) × (List V)) ⊕ ((Int × (List V) × Int × Int × Int × Int × (List V) × Int × Int × (List V) × (List V) × (List V)) ⊕ (Int × Bool × (List V) × Int × Int × Int × Int × (List V) × (List V) × (List V) × (List V) × (List V)))):=un fun i=>un fun lK=>un fun lF=>un fun lG=>un fun lH=>un fun lI=>un fun lJ=>un fun bc=>un fun bm=>un fun bM cf=>Bp C bY mz mA aQ a9 bR br i lK lF lG lH lI lJ bc bm bM cf (fun y=>some (.inl y)) (fun r=>some (.inr r))
noncomputable def VA (C:ae):cy:=fun β n ds k=>
 bif Nat.beq n 161 then bu K6 [false,false,false,false,true,true,false,false,false,false,false,false,false,false,false,true,false,false,true,true,false,false] [[1,2,3,4,0,0,0,7,8,9,10,11,12,13,14,15,0,17,18,0,0,21,22]] (@Bo C) ds k else
 bif Nat.beq n 81 then bu K7 [false,true,true,true,true,true,true,true,false,false,false,false,false,false,true,true,true,true] [[0,0,0,0,0,0,0,0,0,0,0,0],[1,0,0,0,0,0,0,0,0,9,10,11,12,13,14,0,0,0,0]] (@Bp C) ds k else
 none
abbrev VB (C:ae) (b:ct):Prop:=cu Tryd.prog ar C (VA C) 117 (cP Tryd.prog (ar.aW 117)) (ar.sin 117).a8.length b
theorem afP (C:ae):VB C (.loop (ak [1,1,1,1,0,1,0,0,1,0,0,1,1,0,1,0,0] GD)):=
 bz K6 [false,false,false,false,true,true,false,false,false,false,false,false,false,false,false,true,false,false,true,true,false,false] [[1,2,3,4,0,0,0,7,8,9,10,11,12,13,14,15,0,17,18,0,0,21,22]] (@Bo C) (by kernel_rfl) (aS (bs:=[]) (by kernel_rfl) ao) (fun ds=>by kernel_rfl) (fun i x=>by kernel_rfl) (fun i x β k=>by kernel_rfl) (fun β ds k=>by kernel_rfl)
theorem afQ (C:ae):VB C (.loop (ak [1,1,1,1,0,1,0,0] GD)):=
 bz K7 [false,true,true,true,true,true,true,true,false,false,false,false,false,false,true,true,true,true] [[0,0,0,0,0,0,0,0,0,0,0,0],[1,0,0,0,0,0,0,0,0,9,10,11,12,13,14,0,0,0,0]] (@Bp C) (by kernel_rfl) (aS (bs:=[.loop (ak [1,1,1,1,0,1,0,0,1,0,0,1,1,0,1,0,0] GD)]) (by kernel_rfl) (bd (afP C) ao)) (fun ds=>by kernel_rfl) (fun i x=>by kernel_rfl) (fun i x β k=>by kernel_rfl) (fun β ds k=>by kernel_rfl)
noncomputable def Mx (C:ae) (bY start:Int) (lK:List V) (lF lG lH lI:Int) (lJ:List V):Option (List V):=
 (C zW [.int .u64 start,.list b7 ([]:List V)]).bind fun r1=>
 (Loop (xo C bY 0 0 bY 0 ([]:List V) ([]:List V)) (0,lK,lF,lG,lH,lI,lJ,(V.nth (r1.drop 1) 0).toList,(V.nth ((r1.drop 1).drop 1) 0).toList,([]:List V),([]:List V))).bind (di (un fun (nq:Int)=>un fun (rf:List V)=>un fun (uJ:Int)=>un fun (u3:Int)=>un fun (uS:Int)=>un fun (uT:Int)=>un fun (Mf:List V)=>un fun (afR:Int)=>un fun (Mg:Int)=>un fun (Br:List V)=>un fun (Mh:List V) (afS:List V)=>
  some [.int .i64 afR,.int .i64 Mg,.int .i64 nq,.list eC rf,.int .i64 uJ,.int .i64 u3,.int .u64 uS,.int .u64 uT,.list aq Mf,.list aw Br,.list ay Mh,.list b7 afS]) (un fun (ak1:Int)=>un fun (afT:Bool)=>un fun (afU:List V)=>un fun (afV:Int)=>un fun (afW:Int)=>un fun (afX:Int)=>un fun (afY:Int)=>un fun (afZ:List V)=>un fun (Gb:List V)=>un fun (UY:List V)=>un fun (AV:List V) (My:List V)=>
  some [.int .i64 bY,.int .i64 0,.int .i64 0,.list eC afU,.int .i64 afV,.int .i64 afW,.int .u64 afX,.int .u64 afY,.list aq afZ,.list aw AV,.list ay My,.list b7 Gb]))
theorem VC {bY start:Int} {lK:List V} {lF lG lH lI:Int} {lJ:List V} {r:Option (List V)} (h:Mx CC bY start lK lF lG lH lI lJ=r):CC uw [.int .i64 bY,.int .u64 start,.list eC lK,.int .i64 lF,.int .i64 lG,.int .u64 lH,.int .u64 lI,.list aq lJ]=r:=
 bn (key:=117) (L:=VA CC) (bs:=[.loop (ak [1,1,1,1,0,1,0,0] GD)]) (by kernel_rfl) (bd (afQ CC) ao) (Eq.trans (by kernel_rfl) h)
noncomputable def Mz (C:ae) (cv cN cw dk:Int) (cz:List V):Option (List V):=
 (C E1 [.int .i64 cv,.int .i64 cN,.int .u64 cw,.int .u64 dk,.list aq cz]).bind fun r1=>
 bif (((V.nth r1 0).toInt):Int) != 0 then
  some [.int .i64 0,.int .i64 0,.int .i64 ((V.nth r1 0).toInt),.list aw ([]:List V),.list ay ([]:List V),.list b7 ([]:List V)]
 else
  (C Fa [.int .i64 cv,.int .i64 cN,.int .u64 cw,.int .u64 dk,.list aq cz]).bind fun r2=>
  (C uw [.int .i64 cv,.int .u64 cw,.list eC ((V.nth r2 0).toList),.int .i64 cv,.int .i64 cN,.int .u64 cw,.int .u64 dk,.list aq cz]).bind fun r3=>
  some [.int .i64 ((V.nth r3 0).toInt),.int .i64 ((V.nth (r3.drop 1) 0).toInt),.int .i64 ((V.nth (r3.drop 2) 0).toInt),.list aw ((V.nth (((r3.drop 3).drop 1).drop 5) 0).toList),.list ay ((V.nth ((((r3.drop 3).drop 1).drop 5).drop 1) 0).toList),.list b7 ((V.nth (((((r3.drop 3).drop 1).drop 5).drop 1).drop 1) 0).toList)]
theorem VD {cv cN cw dk:Int} {cz:List V} {r:Option (List V)} (h:Mz CC cv cN cw dk cz=r):CC zQ [.int .i64 cv,.int .i64 cN,.int .u64 cw,.int .u64 dk,.list aq cz]=r:=
 bn (key:=99) (L:=db) (bs:=[]) (by kernel_rfl) ao (Eq.trans (by kernel_rfl) h)
def uV (q:Nat):V:= .int .u64 (q:Int)
def uM (S:List Nat):List V:=fJ uV 0 S
theorem u4 (a b:Nat):iW (uV a) (uV b)=decide (a=b):=aeI a b
theorem GH {S:List Nat} {i:Nat} (h:i<S.length):(U1 S)[i]? =some (uV S[i]):=LW (List.getElem?_eq_getElem h)
theorem VE {x:Nat} (hx:x<2^64):CC zW [uV x,.list b7 []]=some [nV 0,.list b7 (U1 [x]),.list gR (uM [x])]:=by
 refine afN ?_
 unfold Vy
 rw[xc hx]
 exact bT rfl (bT rfl (bT (cap (by simp) (by omega)) rfl))
theorem af0 {S:List Nat} {x:Nat} (hx:x<2^64) (hl:S.length≤1000000):CC JV [uV x,.list b7 (U1 S),.list gR (uM S)]=some [nV ((cT S x).idxOf x),.list gR (uM (cT S x)),.list b7 (U1 (cT S x))]:=by
 refine afO ?_
 unfold Vz
 have e1:=uR u4 x S 0
 rw[xc hx]
 refine bT rfl ?_
 rw[show (V.int .u64 (x:Int))=uV x from rfl,Me]
 by_cases h:x∈S
 ·refine bF (by rw[show fC (uV x) (uM S)=_ from e1];simpa using h) ?_
  have e2:=w9 u4 x (.int .i64 0) S 0 h
  rw[show gY (uV x) (uM S) (.int .i64 0)=_ from e2,if_pos h,Nat.zero_add,show cT S x=S by unfold cT;rw[if_pos h]]
  rfl
 ·refine bT (by rw[show fC (uV x) (uM S)=_ from e1];simpa using h) ?_
  refine bT rfl ?_
  refine bT (cap (by rw[kf];simp;omega) (by omega)) ?_
  have e2:=xb u4 x S 0 h
  rw[Nat.zero_add] at e2
  rw[kf,show e8 (uV x) (.int .i64 (S.length:Int)) (uM S)=_ from e2,if_neg h,show cT S x=S++[x] by unfold cT;rw[if_neg h]]
  simp[U1,nV,uM,uV]
def sn (E:List Ed) (s x:Nat):Nat:=gD E s (x:Int)
def sf (fin s:Nat):Bool:= !((s&&&fin)==0)
structure Nat6 (n:Nf) (L S:Nat):Prop where
 code:n.code=0
 ok:n.Ok
 hL:n.L=(L:Int)
 hS:n.S=(S:Int)
namespace Nat6
variable {n:Nf} {L S:Nat} (h:Nat6 n L S)
include h
theorem good:n.Good:=Nf.acP h.code
theorem l1:1≤L:=by have:=h.good.L1;have:=h.hL;omega
theorem l6:L≤6:=by have:=h.good.L6;have:=h.hL;omega
theorem pI:S≤64:=by have:=h.good.S64;have:=h.hS;omega
theorem sS:n.S.toNat=S:=by have:=h.hS;omega
theorem lL:n.L.toNat=L:=by have:=h.hL;omega
theorem edF: ∀e∈n.E,e.f.toNat<S:=fun e he=>by have:=h.good.E e he;have:=h.hS;unfold Ed.In at*;omega
theorem VF: ∀e∈n.E,e.t.toNat<S:=fun e he=>by have:=h.good.E e he;have:=h.hS;unfold Ed.In at*;omega
theorem st:n.st<2^S:=by have:=h.good.st;rwa [h.sS] at this
theorem fin:n.fin<2^S:=by have:=h.good.fin;rwa [h.sS] at this
theorem pow:2^S≤2^64:=Nat.pow_le_pow_right (by omega) h.pI
theorem next (s x:Nat):sn n.E s x<2^S:=LQ h.VF
end Nat6
def dZ (n:Nf) (L S:Nat):List Nat:=aj L (sn n.E) n.st (2^S)
def eQ (n:Nf) (L S:Nat):Da:=fg L (sn n.E) (sf n.fin) (dZ n L S)
def fZ (n:Nf) (L S:Nat):Prop:=512<(dZ n L S).length
def tV (n:Nf) (L S:Nat):List V:=U2 (jF L S n.E)
def GI (m:Da) (e:Int) (X:V):List V:=[.int .i64 (m.L:Int),.int .i64 (m.st:Int),.int .i64 e,.list aw m.cU,.list ay m.cB,X]
section
variable {n:Nf} {L S:Nat} (h:Nat6 n L S)
include h
theorem af1 {s x:Nat} (hs:s<2^S) (hx:x<L):CC pC [uV s,nV x,.list eC (tV n L S)]=some [uV (sn n.E s x),.list eC (tV n L S)]:=by
 have hp:=h.pow
 refine afL ?_
 unfold Vw
 have e1:idx (tV n L S) (x:Int)=some (.list b7 (U1 (lx S n.E (x:Int)))):=by
  rw[JB rfl]
  unfold tV U2
  rw[List.getElem?_map,LX hx];rfl
 refine bs e1 ?_
 have hr:wZ (lx S n.E (x:Int)):=ad2 h.pI h.VF
 have e2:=ad1 hr (s:=s) (by omega)
 have hl:(lx S n.E (x:Int)).length=S:=by simp[lx]
 rw[hl,ad3 (by omega) h.pI h.edF] at e2
 refine bs e2 ?_
 rfl
theorem af2 {s:Nat} (hs:s<2^S):CC qP (uV s::jE n [])=some (.bool (sf n.fin s)::jE n []):=by
 have hp:=h.pow
 have hf:=h.fin
 refine afM ?_
 unfold Vx
 have e:IntKind.wrap .u64 ((BitVec.ofInt (IntKind.bits .u64) (s:Int)&&&BitVec.ofInt (IntKind.bits .u64) (n.fin:Int)).toNat)=((s&&&n.fin:Nat):Int):=u64_and (by omega) (by omega)
 rw[e]
 have e2:(((s&&&n.fin:Nat):Int) != 0)=sf n.fin s:=by
  unfold sf
  rw[Bool.eq_iff_iff]
  simp
 rw[e2];rfl
theorem sub_lt (i:Nat): ∀s∈aj L (sn n.E) n.st i,s<2^S:=afK (P:=fun s=>s<2^S) h.st (fun s _ x _=>h.next s x) i
theorem u5 (i:Nat):(aj L (sn n.E) n.st i).length≤2^S:=by
 have:=Ui (L:=L) (next:=sn n.E) (a0:=n.st) (U:=List.range (2^S)) (List.mem_range.2 h.st) (fun s _ x _=>List.mem_range.2 (h.next s x)) i
 simpa using this
theorem af3 {T U:List Nat} {s:Nat} (hs:s<2^S) (hT:T.length≤1000) (hp:aV (sn n.E) T s L <+: U) {i c1 c2:Int} {l1 l2 l3 l4:List V}:
  Loop (GF CC (L:Int) i (s:Int) ((List.replicate (((L:Nat):Int).toNat) (V.int .i64 0)).length:Int) n.L n.S (n.st:Int) (n.fin:Int) (n.E.map Ed.enc) c1 c2 (L:Int) 0 l1 l2 l3 l4) (0,tV n L S,List.replicate (((L:Nat):Int).toNat) (V.int .i64 0),U1 T,uM T)=
   some ((L:Int),false,tV n L S,(tab L fun x=>nV (U.idxOf (sn n.E s x))),U1 (aV (sn n.E) T s L),uM (aV (sn n.E) T s L)):=by
 have h6:=h.l6
 have xp:=h.pow
 rw[Int.toNat_natCast,nv,dY]
 refine (eK L (fun x=>((x:Int),tV n L S,(tab L fun j=>if j<x then nV (U.idxOf (sn n.E s j)) else nV 0),U1 (aV (sn n.E) T s x),uM (aV (sn n.E) T s x))) _ (fun x hx=> ?_) ?_)
 ·simp only[GF,Bo,un]
  refine bT (dx hx) ?_
  refine bs (af1 h hs hx) ?_
  have hl:=Vr (next:=sn n.E) T s x
  have hn:=h.next s x
  refine bs (af0 (S:=aV (sn n.E) T s x) (x:=sn n.E s x) (by omega) (by omega)) ?_
  refine (dM hx).trans ?_
  rw[cA (by omega),Int.toNat_natCast,nu]
  have e:(cT (aV (sn n.E) T s x) (sn n.E s x)).idxOf (sn n.E s x)=U.idxOf (sn n.E s x):=(uO ((qZ T s (show x+1≤L by omega)).trans hp) uK).symm
  show some (Sum.inl _)=some (Sum.inl _)
  refine congrArg (fun x=>some (Sum.inl x)) ?_
  refine Prod.ext rfl (Prod.ext rfl (Prod.ext ?_ (Prod.ext rfl rfl)))
  refine eF fun j _=> ?_
  by_cases hj:j=x
  ·rw[if_pos hj,if_pos (by omega),hj,←e];rfl
  ·rw[if_neg hj]
   by_cases b6:j<x
   ·rw[if_pos b6,if_pos (by omega)]
   ·rw[if_neg b6,if_neg (by omega)]
 ·simp only[GF,Bo,un]
  refine bF (bt (Nat.le_refl _)) ?_
  rw[bt (Nat.le_refl _)]
  have:(tab L fun j=>if j<L then nV (U.idxOf (sn n.E s j)) else nV 0)=tab L fun j=>nV (U.idxOf (sn n.E s j)):=eF fun j hj=>if_pos hj
  rw[this]
theorem MA {i:Nat} (fu:i<(aj L (sn n.E) n.st i).length) (hlen:(aj L (sn n.E) n.st i).length≤512) {U:List Nat} (hp:aj L (sn n.E) n.st (i+1) <+: U) {l1 l2 l3 l4:List V} (hl3:l3.length≤1000) (hl4:l4.length≤1000):
  xo CC (L:Int) 0 0 (L:Int) 0 l1 l2 ((i:Int),tV n L S,n.L,n.S,(n.st:Int),(n.fin:Int),n.E.map Ed.enc,U1 (aj L (sn n.E) n.st i),uM (aj L (sn n.E) n.st i),l3,l4)=
   if 512<(aj L (sn n.E) n.st (i+1)).length then some (.inr (.inl (3,tV n L S,n.L,n.S,(n.st:Int),(n.fin:Int),n.E.map Ed.enc,0,0,[],[],[])))
   else some (.inl (((i+1:Nat):Int),tV n L S,n.L,n.S,(n.st:Int),(n.fin:Int),n.E.map Ed.enc,U1 (aj L (sn n.E) n.st (i+1)),uM (aj L (sn n.E) n.st (i+1)),l3++[V.bool (sf n.fin (aj L (sn n.E) n.st i)[i])],l4++[V.list bf (tab L fun x=>nV (U.idxOf (sn n.E (aj L (sn n.E) n.st i)[i] x)))])):=by
 have h6:=h.l6
 have hq:=sub_lt h i _ (List.getElem_mem fu)
 have ig:aj L (sn n.E) n.st (i+1)=aV (sn n.E) (aj L (sn n.E) n.st i) (aj L (sn n.E) n.st i)[i] L:=L7 (List.getElem?_eq_getElem fu)
 simp only[xo,Bp,un]
 refine bT (decide_eq_true (by rw[kf];omega)) ?_
 refine (oL (GH fu)).trans ?_
 refine bT (mw (by omega) (by omega)) ?_
 refine bs (af3 h hq (by omega) (U:=U) (by rw[←ig];exact hp)) ?_
 rw[←ig]
 by_cases ow:512<(aj L (sn n.E) n.st (i+1)).length
 ·rw[if_pos ow]
  refine bT (decide_eq_true (by rw[kf];omega)) ?_
  rfl
 ·rw[if_neg ow]
  refine bF (decide_eq_false (by rw[kf];omega)) ?_
  refine bT (cap (by simp;omega) (by omega)) ?_
  refine bs (af2 h hq) ?_
  refine bT (cap (by simp;omega) (by omega)) ?_
  rw[cA (by omega)]
  rfl
theorem af4 (hn: ¬fZ n L S): ∃X,CC uw (nV L::uV n.st:: .list eC (tV n L S)::jE n [])=some ([nV L,nV 0,.int .i64 0,.list eC (tV n L S)]++(jE n []++[.list aw (eQ n L S).cU,.list ay (eQ n L S).cB,X])):=by
 have h6:=h.l6
 have bP:=h.st
 have xp:=h.pow
 have hd:(aj L (sn n.E) n.st (2^S)).length≤2^S:=u5 h _
 have hle: ∀i,(aj L (sn n.E) n.st i).length≤(dZ n L S).length:=Vs hd
 have af5:(dZ n L S).length≤512:=by unfold fZ at hn;omega
 refine ⟨.list b7 (U1 (dZ n L S)),VC ?_⟩
 unfold Mx
 refine bs (VE (x:=n.st) (by omega)) ?_
 have key:Loop (xo CC (L:Int) 0 0 (L:Int) 0 ([]:List V) ([]:List V)) (0,tV n L S,n.L,n.S,(n.st:Int),(n.fin:Int),n.E.map Ed.enc,U1 [n.st],uM [n.st],([]:List V),([]:List V))=
   some (.inr (((dZ n L S).length:Int),false,tV n L S,n.L,n.S,(n.st:Int),(n.fin:Int),n.E.map Ed.enc,U1 (dZ n L S),uM (dZ n L S),(eQ n L S).cU,(eQ n L S).cB)):=by
  refine (eK (dZ n L S).length (fun i=>((i:Int),tV n L S,n.L,n.S,(n.st:Int),(n.fin:Int),n.E.map Ed.enc,U1 (aj L (sn n.E) n.st i),uM (aj L (sn n.E) n.st i),(tab i fun j=>V.bool ((eQ n L S).fin j)),(tab i fun j=>fx L ((eQ n L S).nx j)))) _ (fun i hi=> ?_) ?_)
  ·have fu:=w4 hd hi
   have hiK:i<2^S:=Nat.lt_of_lt_of_le hi hd
   have uU:(aj L (sn n.E) n.st i)[i]=(dZ n L S)[i]:=(kg (show i≤2^S by omega)).getElem fu
   have af6:=hle (i+1)
   have af7:=hle i
   have:=MA h fu (by omega) (U:=dZ n L S) (kg (by omega)) (l1:=[]) (l2:=[]) (l3:=(tab i fun j=>V.bool ((eQ n L S).fin j))) (l4:=(tab i fun j=>fx L ((eQ n L S).nx j))) (by rw[dY];omega) (by rw[dY];omega)
   rw[if_neg (by omega),uU] at this
   rw[this,kN,kN]
   have e1:(eQ n L S).fin i=sf n.fin (dZ n L S)[i]:=AE hi
   have e2:fx L ((eQ n L S).nx i)= .list bf (tab L fun x=>nV ((dZ n L S).idxOf (sn n.E (dZ n L S)[i] x))):=by
    unfold fx
    refine congrArg _ (eF fun x hx=> ?_)
    rw[show (eQ n L S).nx i x=_ from uN hi hx];rfl
   rw[e1,e2]
  ·simp only[xo,Bp,un]
   rw[show aj L (sn n.E) n.st (dZ n L S).length=dZ n L S from AF hd,kf]
   refine bF (bt (Nat.le_refl _)) ?_
   rw[bt (Nat.le_refl _)]
   have e3:(eQ n L S).n=(dZ n L S).length:=kK
   unfold Da.cU Da.cB
   rw[e3];rfl
 refine bs key ?_
 rfl
theorem af8 (hn:fZ n L S): ∃X,CC uw (nV L::uV n.st:: .list eC (tV n L S)::jE n [])=some ([nV 0,nV 0,.int .i64 3,.list eC (tV n L S)]++(jE n []++[.list aw [],.list ay [],X])):=by
 have h6:=h.l6
 have bP:=h.st
 have xp:=h.pow
 obtain ⟨m,hm1,od,hm3⟩:=Vu (Vt (show 512<(aj L (sn n.E) n.st (2^S)).length from hn)) (by omega)
 refine ⟨.list b7 [],VC ?_⟩
 unfold Mx
 refine bs (VE (x:=n.st) (by omega)) ?_
 have key: ∃r,Loop (xo CC (L:Int) 0 0 (L:Int) 0 ([]:List V) ([]:List V)) (0,tV n L S,n.L,n.S,(n.st:Int),(n.fin:Int),n.E.map Ed.enc,U1 [n.st],uM [n.st],([]:List V),([]:List V))=some r∧r=(.inl (3,tV n L S,n.L,n.S,(n.st:Int),(n.fin:Int),n.E.map Ed.enc,0,0,[],[],[])):=by
  refine AN (fun i st=> ∃l3 l4:List V,l3.length=i∧l4.length=i∧st=((i:Int),tV n L S,n.L,n.S,(n.st:Int),(n.fin:Int),n.E.map Ed.enc,U1 (aj L (sn n.E) n.st i),uM (aj L (sn n.E) n.st i),l3,l4)) _ m 0 _ (fun i _ hi st bP=> ?_) (fun st bP=> ?_) ⟨[],[],rfl,rfl,rfl⟩
  ·obtain ⟨l3,l4,e3,e4,rfl⟩:=bP
   obtain ⟨h1,h2⟩:=od i (by omega)
   have h3:=(od (i+1) (by omega)).2
   have:=MA h h1 h2 (List.prefix_refl _) (l1:=[]) (l2:=[]) (l3:=l3) (l4:=l4) (by omega) (by omega)
   rw[if_neg (by omega)] at this
   exact ⟨_,this,_,_,by simp[e3],by simp[e4],rfl⟩
  ·obtain ⟨l3,l4,e3,e4,rfl⟩:=bP
   rw[Nat.zero_add] at*
   obtain ⟨h1,h2⟩:=od m (by omega)
   have:=MA h h1 h2 (List.prefix_refl _) (l1:=[]) (l2:=[]) (l3:=l3) (l4:=l4) (by omega) (by omega)
   rw[if_pos (by omega)] at this
   exact ⟨_,this,rfl⟩
 obtain ⟨r,h1,rfl⟩:=key
 refine bs h1 ?_
 rfl
theorem af9 (hn: ¬fZ n L S): ∃X,CC zQ (jE n [])=some (GI (eQ n L S) 0 (.list b7 X)):=by
 obtain ⟨X,hX⟩:=af4 h hn
 refine ⟨X.toList,VD ?_⟩
 unfold Mz
 have hv:=Tu n h.ok
 rw[h.code] at hv
 refine bs hv (bF rfl ?_)
 have hs:=TZ n h.ok h.good
 rw[h.lL,h.sS] at hs
 refine bs hs ?_
 refine bs ((congrArg (fun z=>CC uw (.int .i64 z::uV n.st:: .list eC (tV n L S)::jE n [])) h.hL).trans hX) ?_
 rfl
theorem aga (hn:fZ n L S): ∃X,CC zQ (jE n [])=some (GI zD 3 (.list b7 X)):=by
 obtain ⟨X,hX⟩:=af8 h hn
 refine ⟨X.toList,VD ?_⟩
 unfold Mz
 have hv:=Tu n h.ok
 rw[h.code] at hv
 refine bs hv (bF rfl ?_)
 have hs:=TZ n h.ok h.good
 rw[h.lL,h.sS] at hs
 refine bs hs ?_
 refine bs ((congrArg (fun z=>CC uw (.int .i64 z::uV n.st:: .list eC (tV n L S)::jE n [])) h.hL).trans hX) ?_
 rfl
theorem u6 (hn: ¬fZ n L S):(eQ n L S).Ok:=by
 unfold fZ at hn
 exact Ug (u5 h _) h.l1 h.l6 (show (dZ n L S).length≤512 by omega)
theorem agb {w:List Nat} (hw:WL L w):(eQ n L S).acc 0 w=sf n.fin (w.foldl (sn n.E) n.st):=by
 have h1:=Uf (fin:=sf n.fin) (u5 h _) (AB _) hw
 have h2:=Ud (L:=L) (next:=sn n.E) (a0:=n.st) (2^S)
 rw[List.getElem?_eq_getElem (AB _)] at h2
 rw[Option.some.inj h2] at h1
 exact h1
end
noncomputable abbrev GJ:Code:=cI Tryd.prog (ar.aW 107)
noncomputable def xq (C:ae) (i aQ a9:Int) (bp bj:List V) (x:Int) (dQ mC lM:List V) {β:Type} (kn:(Int × (List V) × (List V) × (List V))→Option β) (kr:(Int × Bool × (List V) × (List V) × (List V))→Option β):Option β:=
 bif decide ((x:Int)<aQ) then
  bif (decide (0≤i))&&(decide (i<(dQ.length:Int))) then
  (dQ[(i:Int).toNat]?).bind fun x2=>
  (idx bj x2.toInt).bind fun x3=>
  (idx x3.toList x).bind fun x4=>
  bif (decide (0≤x4.toInt))&&(decide (x4.toInt<(lM.length:Int))) then
   (lM[(x4.toInt:Int).toNat]?).bind fun x5=>
   bif !x5.toBool then
   bif (decide (0≤x4.toInt))&&(decide (x4.toInt<(lM.length:Int))) then
    (lM[(x4.toInt:Int).toNat]?).bind fun x6=>
    bif Nat.ble ((dQ.length+([.int .i64 x4.toInt]:List V).length)*8) bC then
    bif (decide (0≤i))&&(decide (i<(mC.length:Int))) then
     (mC[(i:Int).toNat]?).bind fun x7=>
     bif Nat.ble (x7.toStr.length+(iY ([.int .u8 (IntKind.wrap .u8 (IntKind.wrap .i64 (97+x)))]:List V)).length) th then
     bif Nat.ble ((mC.length+([.str (x7.toStr++(iY ([.int .u8 (IntKind.wrap .u8 (IntKind.wrap .i64 (97+x)))]:List V)))]:List V).length)*16) bC then
      kn (IntKind.wrap .i64 (x+1),dQ++([.int .i64 x4.toInt]:List V),mC++([.str (x7.toStr++(iY ([.int .u8 (IntKind.wrap .u8 (IntKind.wrap .i64 (97+x)))]:List V)))]:List V),lM.set ((x4.toInt:Int).toNat) (.bool true))
     else none
     else none
    else none
    else none
   else none
   else
   kn (IntKind.wrap .i64 (x+1),dQ,mC,lM)
  else none
  else none
 else
  kr (x,decide ((x:Int)<aQ),dQ,mC,lM)
noncomputable def Bs (C:ae) (i aQ a9:Int) (bp bj:List V):(Int × (List V) × (List V) × (List V))→Option ((Int × (List V) × (List V) × (List V)) ⊕ (Int × Bool × (List V) × (List V) × (List V))):=un fun x=>un fun dQ=>un fun mC lM=>xq C i aQ a9 bp bj x dQ mC lM (fun y=>some (.inl y)) (fun r=>some (.inr r))
noncomputable def Bt (C:ae) (aQ a9:Int) (bp bj:List V) (i:Int) (dQ mC lM:List V) {β:Type} (kn:(Int × (List V) × (List V) × (List V))→Option β) (kr:(Int × Bool × (List V) × (List V) × (List V))→Option β):Option β:=
 bif decide ((i:Int)<(dQ.length:Int)) then
  (Loop (Bs C i aQ a9 bp bj) (0,dQ,mC,lM)).bind (un fun (x_8:Int)=>un fun (q0:Bool)=>un fun (agc:List V)=>un fun (agd:List V) (age:List V)=>
   kn (IntKind.wrap .i64 (i+1),agc,agd,age))
 else
  kr (i,decide ((i:Int)<(dQ.length:Int)),dQ,mC,lM)
noncomputable def GK (C:ae) (aQ a9:Int) (bp bj:List V):(Int × (List V) × (List V) × (List V))→Option ((Int × (List V) × (List V) × (List V)) ⊕ (Int × Bool × (List V) × (List V) × (List V))):=un fun i=>un fun dQ=>un fun mC lM=>Bt C aQ a9 bp bj i dQ mC lM (fun y=>some (.inl y)) (fun r=>some (.inr r))
noncomputable def VG (C:ae):cy:=fun β n ds k=>
 bif Nat.beq n 129 then bu KV [false,true,false,false,false,false,true,true,true] [[1,0,0,3,4,5,6,0,0,0]] (@xq C) ds k else
 bif Nat.beq n 81 then bu KW [true,false,false,false,false,true,true,true] [[0,0,2,3,4,5,0,0,0]] (@Bt C) ds k else
 none
abbrev VH (C:ae) (b:ct):Prop:=cu Tryd.prog ar C (VG C) 107 (cP Tryd.prog (ar.aW 107)) (ar.sin 107).a8.length b
theorem agf (C:ae):VH C (.loop (ak [1,1,1,1,0,1,0,0,1,0,0,1,0,0] GJ)):=
 bz KV [false,true,false,false,false,false,true,true,true] [[1,0,0,3,4,5,6,0,0,0]] (@xq C) (by kernel_rfl) (aS (bs:=[]) (by kernel_rfl) ao) (fun ds=>by kernel_rfl) (fun i x=>by kernel_rfl) (fun i x β k=>by kernel_rfl) (fun β ds k=>by kernel_rfl)
theorem agh (C:ae):VH C (.loop (ak [1,1,1,1,0,1,0,0] GJ)):=
 bz KW [true,false,false,false,false,true,true,true] [[0,0,2,3,4,5,0,0,0]] (@Bt C) (by kernel_rfl) (aS (bs:=[.loop (ak [1,1,1,1,0,1,0,0,1,0,0,1,0,0] GJ)]) (by kernel_rfl) (bd (agf C) ao)) (fun ds=>by kernel_rfl) (fun i x=>by kernel_rfl) (fun i x β k=>by kernel_rfl) (fun β ds k=>by kernel_rfl)
noncomputable def VI (C:ae) (aX aY:Int) (aF ba:List V):Option (List V):=
 bif (decide (0≤(aF.length:Int)))&&((decide ((aF.length:Int)≤(aF.length:Int)))&&(Nat.ble ((((aF.length:Int):Int).toNat)*1) bC)) then
  bif (decide (0≤aY))&&(decide (aY<((List.replicate (((aF.length:Int):Int).toNat) (V.bool false)).length:Int))) then
  ((List.replicate (((aF.length:Int):Int).toNat) (V.bool false))[(aY:Int).toNat]?).bind fun x1=>
  (Loop (GK C aX aY aF ba) (0,([.int .i64 aY]:List V),([.str []]:List V),(List.replicate (((aF.length:Int):Int).toNat) (V.bool false)).set ((aY:Int).toNat) (.bool true))).bind (un fun (ak2:Int)=>un fun (Ay:Bool)=>un fun (agi:List V)=>un fun (agj:List V) (ak3:List V)=>
   some [.list bf agi,.list zY agj])
  else none
 else none
theorem agk {aX aY:Int} {aF ba:List V} {r:Option (List V)} (h:VI CC aX aY aF ba=r):CC E7 [.int .i64 aX,.int .i64 aY,.list aw aF,.list ay ba]=r:=
 bn (key:=107) (L:=VG CC) (bs:=[.loop (ak [1,1,1,1,0,1,0,0] GJ)]) (by kernel_rfl) (bd (agh CC) ao) (Eq.trans (by kernel_rfl) h)
noncomputable abbrev sN:Code:=cI Tryd.prog (ar.aW 85)
noncomputable def Bu (C:ae) (t26 aQ a9:Int) (bp bj:List V) (cj cl:Int) (dQ cX bR:List V) (t27:Int) (places:List V) {β:Type} (kn:(Int × (List V))→Option β) (kr:(Int × Bool × (List V))→Option β):Option β:=
 bif decide ((t27:Int)<t26) then
  bif (decide (0≤t27))&&(decide (t27<(places.length:Int))) then
  (places[(t27:Int).toNat]?).bind fun x2=>
  kn (IntKind.wrap .i64 (t27+1),places.set ((t27:Int).toNat) (.int .i64 (-1)))
  else none
 else
  kr (t27,decide ((t27:Int)<t26),places)
noncomputable def GL (C:ae) (t26 aQ a9:Int) (bp bj:List V) (cj cl:Int) (dQ cX bR:List V):(Int × (List V))→Option ((Int × (List V)) ⊕ (Int × Bool × (List V))):=un fun t27 places=>Bu C t26 aQ a9 bp bj cj cl dQ cX bR t27 places (fun y=>some (.inl y)) (fun r=>some (.inr r))
noncomputable def Bv (C:ae) (t35 aQ a9:Int) (bp bj:List V) (cj cl:Int) (dQ cX bR:List V) (t36:Int) (places:List V) {β:Type} (kn:(Int × (List V))→Option β) (kr:(Int × Bool × (List V))→Option β):Option β:=
 bif decide ((t36:Int)<t35) then
  bif (decide (0≤t36))&&(decide (t36<(dQ.length:Int))) then
  (dQ[(t36:Int).toNat]?).bind fun x6=>
  bif (decide (0≤x6.toInt))&&(decide (x6.toInt<(places.length:Int))) then
   (places[(x6.toInt:Int).toNat]?).bind fun x7=>
   kn (IntKind.wrap .i64 (t36+1),places.set ((x6.toInt:Int).toNat) (.int .i64 t36))
  else none
  else none
 else
  kr (t36,decide ((t36:Int)<t35),places)
noncomputable def GM (C:ae) (t35 aQ a9:Int) (bp bj:List V) (cj cl:Int) (dQ cX bR:List V):(Int × (List V))→Option ((Int × (List V)) ⊕ (Int × Bool × (List V))):=un fun t36 places=>Bv C t35 aQ a9 bp bj cj cl dQ cX bR t36 places (fun y=>some (.inl y)) (fun r=>some (.inr r))
noncomputable def Bw (C:ae) (q t50 t51:Int) (t59:List V) (t60 aQ a9:Int) (bp bj:List V) (cj cl:Int) (places:List V) (gF gG:Int) (sO br bc bm bM:List V) (t61:Int) (rows:List V) {β:Type} (kn:(Int × (List V))→Option β) (kr:(Int × Bool × (List V))→Option β):Option β:=
 bif decide ((t61:Int)<t60) then
  (idx t59 t61).bind fun gV=>
  bif (decide (0≤gV.toInt))&&(decide (gV.toInt<(places.length:Int))) then
  (places[(gV.toInt:Int).toNat]?).bind fun lN=>
  bif Nat.ble ((rows.length+([.int .i64 lN.toInt]:List V).length)*8) bC then
   kn (IntKind.wrap .i64 (t61+1),rows++([.int .i64 lN.toInt]:List V))
  else none
  else none
 else
  kr (t61,decide ((t61:Int)<t60),rows)
noncomputable def GN (C:ae) (q t50 t51:Int) (t59:List V) (t60 aQ a9:Int) (bp bj:List V) (cj cl:Int) (places:List V) (gF gG:Int) (sO br bc bm bM:List V):(Int × (List V))→Option ((Int × (List V)) ⊕ (Int × Bool × (List V))):=un fun t61 rows=>Bw C q t50 t51 t59 t60 aQ a9 bp bj cj cl places gF gG sO br bc bm bM t61 rows (fun y=>some (.inl y)) (fun r=>some (.inr r))
noncomputable def Bx (C:ae) (t50 aQ a9:Int) (bp bj:List V) (cj cl:Int) (places:List V) (gF gG:Int) (sO bR br:List V) (t51:Int) (bc bm:List V) {β:Type} (kn:(Int × (List V) × (List V))→Option β) (kr:(Int × Bool × (List V) × (List V))→Option β):Option β:=
 bif decide ((t51:Int)<t50) then
  bif (decide (0≤t51))&&(decide (t51<(sO.length:Int))) then
  (sO[(t51:Int).toNat]?).bind fun eJ=>
  (idx bj eJ.toInt).bind fun mq=>
  (Loop (GN C eJ.toInt t50 t51 mq.toList (mq.toList.length:Int) aQ a9 bp bj cj cl places gF gG sO bR br bc bm) (0,([]:List V))).bind (un fun (agl:Int)=>un fun (AU:Bool) (VJ:List V)=>
   bif Nat.ble ((bm.length+([.list bf VJ]:List V).length)*24) bC then
    (idx bp eJ.toInt).bind fun sM=>
    bif Nat.ble ((bc.length+([.bool sM.toBool]:List V).length)*1) bC then
    kn (IntKind.wrap .i64 (t51+1),bc++([.bool sM.toBool]:List V),bm++([.list bf VJ]:List V))
    else none
   else none)
  else none
 else
  kr (t51,decide ((t51:Int)<t50),bc,bm)
noncomputable def GO (C:ae) (t50 aQ a9:Int) (bp bj:List V) (cj cl:Int) (places:List V) (gF gG:Int) (sO bR br:List V):(Int × (List V) × (List V))→Option ((Int × (List V) × (List V)) ⊕ (Int × Bool × (List V) × (List V))):=un fun t51=>un fun bc bm=>Bx C t50 aQ a9 bp bj cj cl places gF gG sO bR br t51 bc bm (fun y=>some (.inl y)) (fun r=>some (.inr r))
noncomputable def VK (C:ae):cy:=fun β n ds k=>
 bif Nat.beq n 65 then bu KB [false,true,false,false,false,false,false,false,false,true,false,false] [[1,0,0,3,4,5,6,7,8,9,0,11,12]] (@Bu C) ds k else
 bif Nat.beq n 145 then bu KC [false,true,false,false,false,false,false,false,false,true,false,false] [[1,0,0,3,4,5,6,7,8,9,0,11,12]] (@Bv C) ds k else
 bif Nat.beq n 305 then bu KD [false,false,false,false,false,true,false,false,false,false,false,false,false,false,false,true,false,false,false,false,false] [[1,2,3,4,5,0,0,7,8,9,10,11,12,13,14,15,0,17,18,19,20,21]] (@Bw C) ds k else
 bif Nat.beq n 241 then bu KE [false,true,false,false,false,false,false,false,false,false,false,false,false,false,true,true] [[1,0,0,3,4,5,6,7,8,9,10,11,12,13,14,0,0]] (@Bx C) ds k else
 none
abbrev GP (C:ae) (b:ct):Prop:=cu Tryd.prog ar C (VK C) 85 (cP Tryd.prog (ar.aW 85)) (ar.sin 85).a8.length b
theorem agm (C:ae):GP C (.loop (ak [1,1,1,0,1,0,0] sN)):=
 bz KB [false,true,false,false,false,false,false,false,false,true,false,false] [[1,0,0,3,4,5,6,7,8,9,0,11,12]] (@Bu C) (by kernel_rfl) (aS (bs:=[]) (by kernel_rfl) ao) (fun ds=>by kernel_rfl) (fun i x=>by kernel_rfl) (fun i x β k=>by kernel_rfl) (fun β ds k=>by kernel_rfl)
theorem agn (C:ae):GP C (.loop (ak [1,1,1,1,0,1,0,0] sN)):=
 bz KC [false,true,false,false,false,false,false,false,false,true,false,false] [[1,0,0,3,4,5,6,7,8,9,0,11,12]] (@Bv C) (by kernel_rfl) (aS (bs:=[]) (by kernel_rfl) ao) (fun ds=>by kernel_rfl) (fun i x=>by kernel_rfl) (fun i x β k=>by kernel_rfl) (fun β ds k=>by kernel_rfl)
theorem ago (C:ae):GP C (.loop (ak [1,1,1,1,1,1,0,1,0,0,1,1,0,0,1,1,0,1,0,0] sN)):=
 bz KD [false,false,false,false,false,true,false,false,false,false,false,false,false,false,false,true,false,false,false,false,false] [[1,2,3,4,5,0,0,7,8,9,10,11,12,13,14,15,0,17,18,19,20,21]] (@Bw C) (by kernel_rfl) (aS (bs:=[]) (by kernel_rfl) ao) (fun ds=>by kernel_rfl) (fun i x=>by kernel_rfl) (fun i x β k=>by kernel_rfl) (fun β ds k=>by kernel_rfl)
theorem agp (C:ae):GP C (.loop (ak [1,1,1,1,1,1,0,1,0,0] sN)):=
 bz KE [false,true,false,false,false,false,false,false,false,false,false,false,false,false,true,true] [[1,0,0,3,4,5,6,7,8,9,10,11,12,13,14,0,0]] (@Bx C) (by kernel_rfl) (aS (bs:=[.loop (ak [1,1,1,1,1,1,0,1,0,0,1,1,0,0,1,1,0,1,0,0] sN)]) (by kernel_rfl) (bd (ago C) ao)) (fun ds=>by kernel_rfl) (fun i x=>by kernel_rfl) (fun i x β k=>by kernel_rfl) (fun β ds k=>by kernel_rfl)
noncomputable def VL (C:ae) (aX aY:Int) (aF ba:List V):Option (List V):=
 (C E7 [.int .i64 aX,.int .i64 aY,.list aw aF,.list ay ba]).bind fun r1=>
 bif (decide (0≤(aF.length:Int)))&&((decide ((aF.length:Int)≤(aF.length:Int)))&&(Nat.ble ((((aF.length:Int):Int).toNat)*8) bC)) then
  (Loop (GL C ((List.replicate (((aF.length:Int):Int).toNat) (V.int .i64 0)).length:Int) aX aY aF ba 0 0 ((V.nth r1 0).toList) ([]:List V) ([]:List V)) (0,List.replicate (((aF.length:Int):Int).toNat) (V.int .i64 0))).bind (un fun (ka:Int)=>un fun (kb:Bool) (agq:List V)=>
   (Loop (GM C (((V.nth r1 0).toList).length:Int) aX aY aF ba 0 0 ((V.nth r1 0).toList) ([]:List V) ([]:List V)) (0,agq)).bind (un fun (qV:Int)=>un fun (q0:Bool) (VM:List V)=>
    (Loop (GO C (((V.nth r1 0).toList).length:Int) aX aY aF ba 0 0 VM aX 0 ((V.nth r1 0).toList) ([]:List V) ([]:List V)) (0,([]:List V),([]:List V))).bind (un fun (agr:Int)=>un fun (MB:Bool)=>un fun (ags:List V) (Br:List V)=>
     some [.int .i64 aX,.int .i64 0,.list aw ags,.list ay Br,.list bf VM])))
 else none
theorem agt {aX aY:Int} {aF ba:List V} {r:Option (List V)} (h:VL CC aX aY aF ba=r):CC EX [.int .i64 aX,.int .i64 aY,.list aw aF,.list ay ba]=r:=
 bn (key:=85) (L:=VK CC) (bs:=[.loop (ak [1,1,1,0,1,0,0] sN),.loop (ak [1,1,1,1,0,1,0,0] sN),.loop (ak [1,1,1,1,1,1,0,1,0,0] sN)]) (by kernel_rfl) (bd (agm CC) (bd (agn CC) (bd (agp CC) ao))) (Eq.trans (by kernel_rfl) h)
def oQ (n:Nat) (S:List Nat):List V:=tab n fun q=>V.bool (decide (q∈S))
def GQ (S:List Nat) (ws:List (List UInt8)):Prop:=ws.length=S.length∧∀j (hj:j<ws.length),ws[j].length≤j
section
variable {a:Da} (h:a.Ok)
include h
theorem agu {S:List Nat} {i:Nat} (hi:i<S.length) (hS: ∀s∈S,s<a.n) (hSn:S.length≤1000) {ws:List (List UInt8)} (hw:GQ S ws) {l2:List V} {c1:Int}:
  ∃r,Loop (Bs CC (i:Int) (a.L:Int) c1 l2 a.cB) (0,nS S,ws.map V.str,oQ a.n S)=some r∧∃ga,r=((a.L:Int),false,nS (aV a.nx S S[i] a.L),List.map V.str ga,oQ a.n (aV a.nx S S[i] a.L))∧GQ (aV a.nx S S[i] a.L) ga:=by
 have h6:=h.l6
 have hq:=hS _ (List.getElem_mem hi)
 have hlen: ∀x,(aV a.nx S S[i] x).length≤S.length+x:=by
  intro x
  induction x with
  | zero=>exact Nat.le_refl _
  | succ x ih=>rw[aV,oI];split<;>omega
 refine AN (fun x st=> ∃ga,st=((x:Int),nS (aV a.nx S S[i] x),List.map V.str ga,oQ a.n (aV a.nx S S[i] x))∧GQ (aV a.nx S S[i] x) ga) _ a.L 0 _ (fun x _ hx st bP=> ?_) (fun st bP=> ?_) ⟨ws,rfl,hw⟩
 ·obtain ⟨ga,rfl,jz⟩:=bP
  rw[Nat.zero_add] at hx
  have hT:=hlen x
  have oR:=Az (next:=a.nx) S S[i] x
  have MC:i<(aV a.nx S S[i] x).length:=Nat.lt_of_lt_of_le hi oR.length_le
  have xr:(aV a.nx S S[i] x)[i]=S[i]:=(oR.getElem hi).symm
  have se:=h.eE hq hx
  have hm:=h.eD
  by_cases kD:a.nx S[i] x∈aV a.nx S S[i] x
  ·have e:aV a.nx S S[i] (x+1)=aV a.nx S S[i] x:=by rw[aV];unfold cT;rw[if_pos kD]
   refine ⟨_,?_,ga,rfl,by rw[e];exact jz⟩
   simp only[Bs,xq,un]
   refine bT (dx hx) ?_
   refine (oL (xe MC)).trans ?_
   rw[xr]
   refine bs (Da.my hq) ?_
   simp only[ny]
   refine bs (oN hx) ?_
   refine (dM (i:=a.nx S[i] x) se).trans ?_
   refine bF (by simp[kD]) ?_
   rw[cA (by omega),e]
  ·have e:aV a.nx S S[i] (x+1)=aV a.nx S S[i] x++[a.nx S[i] x]:=by rw[aV];unfold cT;rw[if_neg kD]
   have VN:i<ga.length:=by rw[jz.1];exact MC
   have hwi:=jz.2 i VN
   refine ⟨(((x+1:Nat):Int),nS (aV a.nx S S[i] (x+1)),List.map V.str (ga++[ga[i]++iY [.int .u8 (IntKind.wrap .u8 (IntKind.wrap .i64 (97+(x:Int))))]]),oQ a.n (aV a.nx S S[i] (x+1))),?_,_,rfl,?_⟩
   ·simp only[Bs,xq,un]
    refine bT (dx hx) ?_
    refine (oL (xe MC)).trans ?_
    rw[xr]
    refine bs (Da.my hq) ?_
    simp only[ny]
    refine bs (oN hx) ?_
    refine (dM (i:=a.nx S[i] x) se).trans ?_
    refine bT (by simp[kD]) ?_
    refine (dM (i:=a.nx S[i] x) se).trans ?_
    refine bT (cap (by rw[oP];simp;omega) (by omega)) ?_
    refine (oL (v:= .str ga[i]) (by simp[VN])).trans ?_
    refine bT (by
     rw[Nat.ble_eq]
     simp only[V.toStr,iY,List.length_map,List.length_cons,List.length_nil,th]
     omega) ?_
    refine bT (cap (by rw[List.length_map,jz.1];simp;omega) (by omega)) ?_
    rw[cA (by omega),e]
    refine congrArg (fun x=>some (Sum.inl x)) (Prod.ext rfl (Prod.ext ?_ (Prod.ext ?_ ?_)))
    ·simp[nS,nV]
    ·simp[V.toStr]
    ·show (oQ a.n (aV a.nx S S[i] x)).set _ _=oQ a.n _
     unfold oQ
     rw[V.toInt_int,Int.toNat_natCast,nu]
     refine eF fun j _=> ?_
     by_cases hj:j=a.nx S[i] x
     ·rw[if_pos hj,decide_eq_true (by rw[hj];simp)]
     ·rw[if_neg hj]
      congr 1
      rw[decide_eq_decide,List.mem_append,List.mem_singleton]
      exact ⟨.inl,fun h=>h.resolve_right hj⟩
   ·rw[e]
    refine ⟨by simp[jz.1],fun j hj=> ?_⟩
    rw[List.length_append,List.length_singleton] at hj
    rcases Nat.lt_or_ge j ga.length with c|c
    ·rw[List.getElem_append_left c];exact jz.2 j c
    ·rw[List.getElem_append_right c]
     simp only[List.getElem_singleton,List.length_append,iY,List.length_map,List.length_cons,List.length_nil]
     omega
 ·obtain ⟨ga,rfl,jz⟩:=bP
  rw[Nat.zero_add] at*
  refine ⟨_,?_,ga,rfl,jz⟩
  simp only[Bs,xq,un]
  refine bF (bt (Nat.le_refl _)) ?_
  rw[bt (Nat.le_refl _)]
theorem agv: ∃W,CC E7 (dc a)=some [.list bf (nS (aj a.L a.nx a.st a.n)),W]:=by
 have hm:=h.eD
 have hd:=h.mr a.n
 have key: ∃r,Loop (GK CC (a.L:Int) (a.st:Int) a.cU a.cB) (0,nS [a.st],[[]].map V.str,oQ a.n [a.st])=some r∧∃ga,r=(((aj a.L a.nx a.st a.n).length:Int),false,nS (aj a.L a.nx a.st a.n),List.map V.str ga,oQ a.n (aj a.L a.nx a.st a.n)):=by
  refine AN (fun i st=> ∃ga,st=((i:Int),nS (aj a.L a.nx a.st i),List.map V.str ga,oQ a.n (aj a.L a.nx a.st i))∧GQ (aj a.L a.nx a.st i) ga) _ (aj a.L a.nx a.st a.n).length 0 _ (fun i _ hi st bP=> ?_) (fun st bP=> ?_) ⟨[[]],rfl,⟨rfl,fun j hj=>by simp at hj;subst hj;simp⟩⟩
  ·obtain ⟨ga,rfl,jz⟩:=bP
   rw[Nat.zero_add] at hi
   have fu:=w4 hd hi
   have uU:(aj a.L a.nx a.st i)[i]=(aj a.L a.nx a.st a.n)[i]:=(kg (show i≤a.n by omega)).getElem fu
   have hlen:(aj a.L a.nx a.st i).length≤512:=Nat.le_trans (h.mr i) hm
   have ig:=w5 hd hi
   obtain ⟨r,h1,ws2,rfl,h3⟩:=agu h fu (h.uP i) (by omega) jz (l2:=a.cU) (c1:=(a.st:Int))
   rw[uU,←ig] at h1 h3
   refine ⟨_,?_,ws2,rfl,h3⟩
   simp only[GK,Bt,un]
   refine bT (decide_eq_true (by rw[oP];omega)) ?_
   refine bs h1 ?_
   rw[cA (by omega)]
   rfl
  ·obtain ⟨ga,rfl,jz⟩:=bP
   rw[Nat.zero_add,AF hd] at*
   refine ⟨_,?_,ga,rfl⟩
   simp only[GK,Bt,un]
   rw[oP]
   refine bF (bt (Nat.le_refl _)) ?_
   rw[bt (Nat.le_refl _)]
 obtain ⟨r,h1,ga,rfl⟩:=key
 refine ⟨.list zY (ga.map V.str),agk ?_⟩
 unfold VI
 rw[Da.nw,Int.toNat_natCast,nv]
 refine bT (by have:=mw (n:=a.n) (m:=1) (by omega) (by omega);rwa [Int.toNat_natCast] at this) ?_
 refine (dM (i:=a.st) h.s).trans ?_
 have e:(tab a.n fun _=>V.bool false).set (((a.st:Nat):Int).toNat) (.bool true)=oQ a.n [a.st]:=by
  rw[Int.toNat_natCast,nu]
  refine eF fun j _=> ?_
  by_cases hj:j=a.st
  ·rw[if_pos hj,decide_eq_true (by rw[hj];simp)]
  ·rw[if_neg hj,decide_eq_false (by simpa using hj)]
 rw[e]
 refine bs h1 ?_
 rfl
theorem agw {q:Nat} (hq:q<a.n) (hU: ∀x,x<a.L→a.nx q x∈aj a.L a.nx a.st a.n) {c1 c2 c3 c4 c5 c6 c7 c8 c9:Int} {l1 l2 l3 l4 l5 l6 l7:List V}:
  Loop (GN CC c1 c2 c3 (tab a.L fun x=>iV (a.nx q x)) ((tab a.L fun x=>iV (a.nx q x)).length:Int) c4 c5 l1 l2 c6 c7 (iQ (aj a.L a.nx a.st a.n) a.n) c8 c9 l3 l4 l5 l6 l7) (0,([]:List V))=
   some ((a.L:Int),false,tab a.L fun x=>nV ((aj a.L a.nx a.st a.n).idxOf (a.nx q x))):=by
 have h6:=h.l6
 rw[dY]
 refine (eK a.L (fun t=>((t:Int),(tab t fun x=>nV ((aj a.L a.nx a.st a.n).idxOf (a.nx q x))))) _ (fun t ht=> ?_) ?_)
 ·simp only[GN,Bw,un]
  refine bT (dx ht) ?_
  refine bs (oN ht) ?_
  refine (dM (i:=a.nx q t) (h.eE hq ht)).trans ?_
  refine bT (cap (by rw[dY];simp;omega) (by omega)) ?_
  rw[cA (by omega),if_pos (hU t ht),kN]
  rfl
 ·simp only[GN,Bw,un]
  refine bF (bt (Nat.le_refl _)) ?_
  rw[bt (Nat.le_refl _)]
theorem agx:CC EX (dc a)=some (dc a.trim++[.list bf (iQ (aj a.L a.nx a.st a.n) a.n)]):=by
 have h6:=h.l6
 have hm:=h.eD
 have hU:=h.uP a.n
 have hle:=h.mr a.n
 obtain ⟨W,hW⟩:=agv h
 refine agt ?_
 unfold VL
 refine bs hW ?_
 rw[Da.nw]
 refine bT (mw (by omega) (by omega)) ?_
 rw[Int.toNat_natCast,nv,dY]
 have row:=fun {q:Nat} (hq:q<a.n) hU=> @agw a h q hq hU
 have e1: ∀{i:Nat} (hi:i<(aj a.L a.nx a.st a.n).length),a.trim.fin i=a.fin (aj a.L a.nx a.st a.n)[i]:=fun hi=>AE hi
 have e2: ∀{i:Nat} (hi:i<(aj a.L a.nx a.st a.n).length),fx a.L (a.trim.nx i)= .list bf (tab a.L fun x=>nV ((aj a.L a.nx a.st a.n).idxOf (a.nx (aj a.L a.nx a.st a.n)[i] x))):=fun hi=>by
  unfold fx
  refine congrArg _ (eF fun x hx=> ?_)
  rw[show a.trim.nx _ x=_ from uN hi hx];rfl
 have e3:a.trim.n=(aj a.L a.nx a.st a.n).length:=kK
 have jY: ∀q∈aj a.L a.nx a.st a.n,∀x,x<a.L→a.nx q x∈aj a.L a.nx a.st a.n:=fun q hq x hx=>L8 hle hq hx
 have Mi:(aj a.L a.nx a.st a.n).Nodup:=uL _
 have er:a.trim.cU=(tab (aj a.L a.nx a.st a.n).length fun i=>V.bool (a.trim.fin i)):=by unfold Da.cU;rw[e3]
 have en:a.trim.cB=(tab (aj a.L a.nx a.st a.n).length fun i=>fx a.L (a.trim.nx i)):=by unfold Da.cB;rw[e3];rfl
 have eL:a.trim.L=a.L:=rfl
 unfold dc gE
 rw[er,en,eL]
 generalize aj a.L a.nx a.st a.n=U at*
 have l1: ∀{c1 c2 c3 c4:Int} {s1 s2 s3 s4 s5:List V},Loop (GL CC (a.n:Int) c1 c2 s1 s2 c3 c4 s3 s4 s5) (0,tab a.n fun _=>V.int .i64 0)=some ((a.n:Int),false,tab a.n fun q=>if q∈U.take 0 then nV (U.idxOf q) else V.int .i64 (-1)):=by
  intro c1 c2 c3 c4 s1 s2 s3 s4 s5
  refine (eK a.n (fun i=>((i:Int),(tab a.n fun j=>if j<i then V.int .i64 (-1) else V.int .i64 0))) _ (fun i hi=> ?_) ?_)
  ·simp only[GL,Bu,un]
   refine bT (dx hi) ?_
   refine (dM hi).trans ?_
   rw[cA (by omega),Int.toNat_natCast,nu]
   refine congrArg (fun x=>some (Sum.inl (((i+1:Nat):Int),x))) (eF fun j _=> ?_)
   by_cases hj:j=i
   ·rw[if_pos hj,if_pos (by omega)]
   ·rw[if_neg hj]
    by_cases b6:j<i
    ·rw[if_pos b6,if_pos (by omega)]
    ·rw[if_neg b6,if_neg (by omega)]
  ·simp only[GL,Bu,un]
   refine bF (bt (Nat.le_refl _)) ?_
   rw[bt (Nat.le_refl _)]
   refine congrArg (fun x=>some (Sum.inr ((a.n:Int),false,x))) (eF fun j hj=> ?_)
   rw[if_pos hj,List.take_zero,if_neg (by simp)]
 refine bs l1 ?_
 simp only[un]
 have l2: ∀{c1 c2 c3 c4:Int} {s1 s2 s3 s4:List V},Loop (GM CC ((nS U).length:Int) c1 c2 s1 s2 c3 c4 (nS U) s3 s4) (0,tab a.n fun q=>if q∈U.take 0 then nV (U.idxOf q) else V.int .i64 (-1))=some ((U.length:Int),false,iQ U a.n):=by
  intro c1 c2 c3 c4 s1 s2 s3 s4
  rw[oP]
  refine (eK U.length (fun i=>((i:Int),(tab a.n fun q=>if q∈U.take i then nV (U.idxOf q) else V.int .i64 (-1)))) _ (fun i hi=> ?_) ?_)
  ·have hq:=hU U[i] (List.getElem_mem hi)
   simp only[GM,Bv,un]
   refine bT (dx hi) ?_
   refine (oL (xe hi)).trans ?_
   refine (dM (i:=U[i]) hq).trans ?_
   rw[cA (by omega)]
   refine congrArg (fun x=>some (Sum.inl (((i+1:Nat):Int),x))) ?_
   exact U5 Mi hi
  ·simp only[GM,Bv,un]
   refine bF (bt (Nat.le_refl _)) ?_
   rw[bt (Nat.le_refl _),List.take_length]
   rfl
 refine bs l2 ?_
 have l4: ∀{c1 c2 c3 c4:Int} {s1 s2:List V},Loop (GO CC ((nS U).length:Int) (a.L:Int) (a.st:Int) a.cU a.cB c1 c2 (iQ U a.n) c3 c4 (nS U) s1 s2) (0,([]:List V),([]:List V))=some ((U.length:Int),false,(tab U.length fun i=>V.bool (a.trim.fin i)),(tab U.length fun i=>fx a.L (a.trim.nx i))):=by
  intro c1 c2 c3 c4 s1 s2
  rw[oP]
  refine (eK U.length (fun i=>((i:Int),(tab i fun i=>V.bool (a.trim.fin i)),(tab i fun i=>fx a.L (a.trim.nx i)))) _ (fun i hi=> ?_) ?_)
  ·have hq:=hU U[i] (List.getElem_mem hi)
   simp only[GO,Bx,un]
   refine bT (dx hi) ?_
   refine (oL (xe hi)).trans ?_
   refine bs (Da.my hq) ?_
   simp only[ny]
   refine bs (row hq (jY _ (List.getElem_mem hi))) ?_
   refine bT (cap (by rw[dY];simp;omega) (by omega)) ?_
   refine bs (Da.sK hq) ?_
   refine bT (cap (by rw[dY];simp;omega) (by omega)) ?_
   rw[cA (by omega),kN,kN,e1 hi,e2 hi]
   rfl
  ·simp only[GO,Bx,un]
   refine bF (bt (Nat.le_refl _)) ?_
   rw[bt (Nat.le_refl _)]
 refine bs l4 ?_
 rfl
end
noncomputable abbrev VO:Code:=cI Tryd.prog (ar.aW 106)
noncomputable def By (C:ae) (a b':List V) (t12 t13:Int) {β:Type} (kn:Int→Option β) (kr:((Bool) ⊕ (Int × Bool))→Option β):Option β:=
 bif decide ((t13:Int)<t12) then
  (idx a t13).bind fun x1=>
  (idx b' t13).bind fun x2=>
  bif (x1.toInt:Int) != x2.toInt then
  kr (.inl false)
  else
  kn (IntKind.wrap .i64 (t13+1))
 else
  kr (.inr (t13,decide ((t13:Int)<t12)))
noncomputable def MD (C:ae) (a b':List V) (t12:Int):(Int)→Option ((Int) ⊕ ((Bool) ⊕ (Int × Bool))):=fun t13=>By C a b' t12 t13 (fun y=>some (.inl y)) (fun r=>some (.inr r))
noncomputable def VP (C:ae):cy:=fun β n ds k=>
 bif Nat.beq n 65 then bu KU [false,false,false,true] [[0],[1,2,3,0,0]] (@By C) ds k else
 none
abbrev agy (C:ae) (b:ct):Prop:=cu Tryd.prog ar C (VP C) 106 (cP Tryd.prog (ar.aW 106)) (ar.sin 106).a8.length b
theorem agz (C:ae):agy C (.loop (ak [1,1,0,1,0,0] VO)):=
 bz KU [false,false,false,true] [[0],[1,2,3,0,0]] (@By C) (by kernel_rfl) (aS (bs:=[]) (by kernel_rfl) ao) (fun ds=>by kernel_rfl) (fun i x=>by kernel_rfl) (fun i x β k=>by kernel_rfl) (fun β ds k=>by kernel_rfl)
noncomputable def VQ (C:ae) (a b':List V):Option (List V):=
 bif ((a.length:Int):Int) != (b'.length:Int) then
  some [.bool false]
 else
  (Loop (MD C a b' (a.length:Int)) 0).bind (di (fun (ka:Bool)=>
   some [.bool ka]) (un fun (kb:Int) (mo:Bool)=>
   some [.bool true]))
theorem agA {a b':List V} {r:Option (List V)} (h:VQ CC a b'=r):CC E6 [.list bf a,.list bf b']=r:=
 bn (key:=106) (L:=VP CC) (bs:=[.loop (ak [1,1,0,1,0,0] VO)]) (by kernel_rfl) (bd (agz CC) ao) (Eq.trans (by kernel_rfl) h)
noncomputable abbrev VR:Code:=cI Tryd.prog (ar.aW 104)
noncomputable def Bz (C:ae) (t13:List V) (t14 t15:Int) (rn outs:List V) {β:Type} (kn:(Int × (List V) × (List V))→Option β) (kr:(Int × Bool × (List V) × (List V))→Option β):Option β:=
 bif decide ((t15:Int)<t14) then
  (idx t13 t15).bind fun x1=>
  bif cZ .i64 x1.toInt&&true then
  bif !(fC (.int .i64 x1.toInt) rn) then
   bif cZ .i64 x1.toInt&&true then
   bif (decide (0≤t15))&&(decide (t15<(outs.length:Int))) then
    (outs[(t15:Int).toNat]?).bind fun x2=>
    kn (IntKind.wrap .i64 (t15+1),e8 (.int .i64 x1.toInt) (.int .i64 (rn.length:Int)) rn,outs.set ((t15:Int).toNat) (.int .i64 (rn.length:Int)))
   else none
   else none
  else
   bif (decide (0≤t15))&&(decide (t15<(outs.length:Int))) then
   (outs[(t15:Int).toNat]?).bind fun x3=>
   kn (IntKind.wrap .i64 (t15+1),rn,outs.set ((t15:Int).toNat) (.int .i64 ((gY (.int .i64 x1.toInt) rn (.int .i64 0)).toInt)))
   else none
  else none
 else
  kr (t15,decide ((t15:Int)<t14),rn,outs)
noncomputable def ME (C:ae) (t13:List V) (t14:Int):(Int × (List V) × (List V))→Option ((Int × (List V) × (List V)) ⊕ (Int × Bool × (List V) × (List V))):=un fun t15=>un fun rn outs=>Bz C t13 t14 t15 rn outs (fun y=>some (.inl y)) (fun r=>some (.inr r))
noncomputable def VT (C:ae):cy:=fun β n ds k=>
 bif Nat.beq n 65 then bu KS [false,false,true,true,true] [[1,2,0,0,0,0]] (@Bz C) ds k else
 none
abbrev agB (C:ae) (b:ct):Prop:=cu Tryd.prog ar C (VT C) 104 (cP Tryd.prog (ar.aW 104)) (ar.sin 104).a8.length b
theorem agC (C:ae):agB C (.loop (ak [1,1,1,0,1,0,0] VR)):=
 bz KS [false,false,true,true,true] [[1,2,0,0,0,0]] (@Bz C) (by kernel_rfl) (aS (bs:=[]) (by kernel_rfl) ao) (fun ds=>by kernel_rfl) (fun i x=>by kernel_rfl) (fun i x β k=>by kernel_rfl) (fun β ds k=>by kernel_rfl)
noncomputable def VU (C:ae) (l:List V):Option (List V):=
 bif (decide (0≤(l.length:Int)))&&((decide ((l.length:Int)≤(l.length:Int)))&&(Nat.ble ((((l.length:Int):Int).toNat)*8) bC)) then
  (Loop (ME C l (l.length:Int)) (0,([]:List V),List.replicate (((l.length:Int):Int).toNat) (V.int .i64 0))).bind (un fun (kb:Int)=>un fun (mo:Bool)=>un fun (ak4:List V) (agD:List V)=>
   some [.list bf agD])
 else none
theorem agE {l:List V} {r:Option (List V)} (h:VU CC l=r):CC zR [.list bf l]=r:=
 bn (key:=104) (L:=VT CC) (bs:=[.loop (ak [1,1,1,0,1,0,0] VR)]) (by kernel_rfl) (bd (agC CC) ao) (Eq.trans (by kernel_rfl) h)
noncomputable abbrev VV:Code:=cI Tryd.prog (ar.aW 105)
noncomputable def BA (C:ae) (p q:List V) (t11 t12:Int) (outs:List V) {β:Type} (kn:(Int × (List V))→Option β) (kr:(Int × Bool × (List V))→Option β):Option β:=
 bif decide ((t12:Int)<t11) then
  (idx p t12).bind fun x1=>
  (idx q t12).bind fun x2=>
  bif (decide (0≤t12))&&(decide (t12<(outs.length:Int))) then
  (outs[(t12:Int).toNat]?).bind fun x3=>
  kn (IntKind.wrap .i64 (t12+1),outs.set ((t12:Int).toNat) (.int .i64 (IntKind.wrap .i64 ((IntKind.wrap .i64 ((IntKind.wrap .i64 ((p.length:Int)+1))*x1.toInt))+x2.toInt))))
  else none
 else
  kr (t12,decide ((t12:Int)<t11),outs)
noncomputable def MF (C:ae) (p q:List V) (t11:Int):(Int × (List V))→Option ((Int × (List V)) ⊕ (Int × Bool × (List V))):=un fun t12 outs=>BA C p q t11 t12 outs (fun y=>some (.inl y)) (fun r=>some (.inr r))
noncomputable def VW (C:ae):cy:=fun β n ds k=>
 bif Nat.beq n 49 then bu KT [false,false,false,true,true] [[1,2,3,0,0,0]] (@BA C) ds k else
 none
abbrev agF (C:ae) (b:ct):Prop:=cu Tryd.prog ar C (VW C) 105 (cP Tryd.prog (ar.aW 105)) (ar.sin 105).a8.length b
theorem agG (C:ae):agF C (.loop (ak [1,1,0,1,0,0] VV)):=
 bz KT [false,false,false,true,true] [[1,2,3,0,0,0]] (@BA C) (by kernel_rfl) (aS (bs:=[]) (by kernel_rfl) ao) (fun ds=>by kernel_rfl) (fun i x=>by kernel_rfl) (fun i x β k=>by kernel_rfl) (fun β ds k=>by kernel_rfl)
noncomputable def VX (C:ae) (p q:List V):Option (List V):=
 bif (decide (0≤(p.length:Int)))&&((decide ((p.length:Int)≤(p.length:Int)))&&(Nat.ble ((((p.length:Int):Int).toNat)*8) bC)) then
  (Loop (MF C p q (p.length:Int)) (0,List.replicate (((p.length:Int):Int).toNat) (V.int .i64 0))).bind (un fun (kb:Int)=>un fun (mo:Bool) (agH:List V)=>
   (C zR [.list bf agH]).bind fun r7=>
   some [.list bf ((V.nth r7 0).toList)])
 else none
theorem agI {p q:List V} {r:Option (List V)} (h:VX CC p q=r):CC E5 [.list bf p,.list bf q]=r:=
 bn (key:=105) (L:=VW CC) (bs:=[.loop (ak [1,1,0,1,0,0] VV)]) (by kernel_rfl) (bd (agG CC) ao) (Eq.trans (by kernel_rfl) h)
noncomputable abbrev sP:Code:=cI Tryd.prog (ar.aW 84)
noncomputable def BB (C:ae) (t14 aQ a9:Int) (bp bj:List V) (t15:Int) (ps:List V) {β:Type} (kn:(Int × (List V))→Option β) (kr:(Int × Bool × (List V))→Option β):Option β:=
 bif decide ((t15:Int)<t14) then
  (idx bp t15).bind fun x1=>
  bif x1.toBool then
  bif (decide (0≤t15))&&(decide (t15<(ps.length:Int))) then
   (ps[(t15:Int).toNat]?).bind fun x2=>
   kn (IntKind.wrap .i64 (t15+1),ps.set ((t15:Int).toNat) (.int .i64 1))
  else none
  else
  kn (IntKind.wrap .i64 (t15+1),ps)
 else
  kr (t15,decide ((t15:Int)<t14),ps)
noncomputable def MG (C:ae) (t14 aQ a9:Int) (bp bj:List V):(Int × (List V))→Option ((Int × (List V)) ⊕ (Int × Bool × (List V))):=un fun t15 ps=>BB C t14 aQ a9 bp bj t15 ps (fun y=>some (.inl y)) (fun r=>some (.inr r))
noncomputable def BC (C:ae) (p next':List V) (x t37 aQ a9:Int) (bp bj:List V) (t38:Int) (BD:List V) {β:Type} (kn:(Int × (List V))→Option β) (kr:(Int × Bool × (List V))→Option β):Option β:=
 bif decide ((t38:Int)<t37) then
  (idx bj t38).bind fun x7=>
  (idx x7.toList x).bind fun x8=>
  (idx p x8.toInt).bind fun x9=>
  bif Nat.ble ((BD.length+([.int .i64 x9.toInt]:List V).length)*8) bC then
  kn (IntKind.wrap .i64 (t38+1),BD++([.int .i64 x9.toInt]:List V))
  else none
 else
  kr (t38,decide ((t38:Int)<t37),BD)
noncomputable def GR (C:ae) (p next':List V) (x t37 aQ a9:Int) (bp bj:List V):(Int × (List V))→Option ((Int × (List V)) ⊕ (Int × Bool × (List V))):=un fun t38 BD=>BC C p next' x t37 aQ a9 bp bj t38 BD (fun y=>some (.inl y)) (fun r=>some (.inr r))
noncomputable def BE (C:ae) (p:List V) (aQ a9:Int) (bp bj next':List V) (x:Int) {β:Type} (kn:((List V) × Int)→Option β) (kr:((List V) × Int × Bool)→Option β):Option β:=
 bif decide ((x:Int)<aQ) then
  (Loop (GR C p next' x (p.length:Int) aQ a9 bp bj) (0,([]:List V))).bind (un fun (U4:Int)=>un fun (MH:Bool) (agJ:List V)=>
   (C E5 [.list bf next',.list bf agJ]).bind fun r13=>
   kn ((V.nth r13 0).toList,IntKind.wrap .i64 (x+1)))
 else
  kr (next',x,decide ((x:Int)<aQ))
noncomputable def GS (C:ae) (p:List V) (aQ a9:Int) (bp bj:List V):((List V) × Int)→Option (((List V) × Int) ⊕ ((List V) × Int × Bool)):=un fun next' x=>BE C p aQ a9 bp bj next' x (fun y=>some (.inl y)) (fun r=>some (.inr r))
noncomputable def BF (C:ae) (aQ a9:Int) (bp bj p:List V) {β:Type} (kn:List V→Option β) (kr:(List V)→Option β):Option β:=
 (Loop (GS C p aQ a9 bp bj) (p,0)).bind (un fun (VY:List V)=>un fun (ak5:Int) (AU:Bool)=>
  (C E6 [.list bf VY,.list bf p]).bind fun eZ=>
  bif (V.nth eZ 0).toBool then
   kr p
  else
   kn VY)
noncomputable def BG (C:ae) (aQ a9:Int) (bp bj:List V):(List V)→Option ((List V) ⊕ (List V)):=fun p=>BF C aQ a9 bp bj p (fun y=>some (.inl y)) (fun r=>some (.inr r))
noncomputable def VZ (C:ae):cy:=fun β n ds k=>
 bif Nat.beq n 49 then bu Kx [false,true,false,false,false,false,true] [[1,0,0,3,4,5,6,0]] (@BB C) ds k else
 bif Nat.beq n 241 then bu Ky [false,false,false,false,true,false,false,false,false,true] [[1,2,3,4,0,0,6,7,8,9,0]] (@BC C) ds k else
 bif Nat.beq n 177 then bu Kz [false,true,true,false,false,false,false] [[1,0,0,0,4,5,6,7]] (@BE C) ds k else
 bif Nat.beq n 145 then bu KA [true,false,false,false,false] [[0]] (@BF C) ds k else
 none
abbrev GU (C:ae) (b:ct):Prop:=cu Tryd.prog ar C (VZ C) 84 (cP Tryd.prog (ar.aW 84)) (ar.sin 84).a8.length b
theorem agK (C:ae):GU C (.loop (ak [1,1,0,1,0,0] sP)):=
 bz Kx [false,true,false,false,false,false,true] [[1,0,0,3,4,5,6,0]] (@BB C) (by kernel_rfl) (aS (bs:=[]) (by kernel_rfl) ao) (fun ds=>by kernel_rfl) (fun i x=>by kernel_rfl) (fun i x β k=>by kernel_rfl) (fun β ds k=>by kernel_rfl)
theorem agL (C:ae):GU C (.loop (ak [1,1,1,1,0,0,0,1,0,1,0,0,1,0,0,1,0,1,0,0] sP)):=
 bz Ky [false,false,false,false,true,false,false,false,false,true] [[1,2,3,4,0,0,6,7,8,9,0]] (@BC C) (by kernel_rfl) (aS (bs:=[]) (by kernel_rfl) ao) (fun ds=>by kernel_rfl) (fun i x=>by kernel_rfl) (fun i x β k=>by kernel_rfl) (fun β ds k=>by kernel_rfl)
theorem agM (C:ae):GU C (.loop (ak [1,1,1,1,0,0,0,1,0,1,0,0] sP)):=
 bz Kz [false,true,true,false,false,false,false] [[1,0,0,0,4,5,6,7]] (@BE C) (by kernel_rfl) (aS (bs:=[.loop (ak [1,1,1,1,0,0,0,1,0,1,0,0,1,0,0,1,0,1,0,0] sP)]) (by kernel_rfl) (bd (agL C) ao)) (fun ds=>by kernel_rfl) (fun i x=>by kernel_rfl) (fun i x β k=>by kernel_rfl) (fun β ds k=>by kernel_rfl)
theorem agN (C:ae):GU C (.loop (ak [1,1,1,1,0,0] sP)):=
 bz KA [true,false,false,false,false] [[0]] (@BF C) (by kernel_rfl) (aS (bs:=[.loop (ak [1,1,1,1,0,0,0,1,0,1,0,0] sP)]) (by kernel_rfl) (bd (agM C) ao)) (fun ds=>by kernel_rfl) (fun i x=>by kernel_rfl) (fun i x β k=>by kernel_rfl) (fun β ds k=>by kernel_rfl)
noncomputable def V0 (C:ae) (aX aY:Int) (aF ba:List V):Option (List V):=
 bif (decide (0≤(aF.length:Int)))&&((decide ((aF.length:Int)≤(aF.length:Int)))&&(Nat.ble ((((aF.length:Int):Int).toNat)*8) bC)) then
  (Loop (MG C ((List.replicate (((aF.length:Int):Int).toNat) (V.int .i64 0)).length:Int) aX aY aF ba) (0,List.replicate (((aF.length:Int):Int).toNat) (V.int .i64 0))).bind (un fun (ka:Int)=>un fun (kb:Bool) (agO:List V)=>
   (C zR [.list bf agO]).bind fun r6=>
   (Loop (BG C aX aY aF ba) ((V.nth r6 0).toList)).bind (fun (V1:List V)=>
    some [.list bf V1]))
 else none
theorem agP {aX aY:Int} {aF ba:List V} {r:Option (List V)} (h:V0 CC aX aY aF ba=r):CC EW [.int .i64 aX,.int .i64 aY,.list aw aF,.list ay ba]=r:=
 bn (key:=84) (L:=VZ CC) (bs:=[.loop (ak [1,1,0,1,0,0] sP),.loop (ak [1,1,1,1,0,0] sP)]) (by kernel_rfl) (bd (agK CC) (bd (agN CC) ao)) (Eq.trans (by kernel_rfl) h)
noncomputable abbrev GV:Code:=cI Tryd.prog (ar.aW 53)
noncomputable def BH (C:ae) (p:List V) (pL q:Int) (t21:List V) (t22 t23:Int) (t37:List V) (t38 aQ a9:Int) (bp bj:List V) (cj cl gF gG:Int) (cX bR br bc:List V) (t39:Int) (rows:List V) {β:Type} (kn:(Int × (List V))→Option β) (kr:(Int × Bool × (List V))→Option β):Option β:=
 bif decide ((t39:Int)<t38) then
  (idx t37 t39).bind fun x5=>
  (idx p x5.toInt).bind fun x6=>
  bif Nat.ble ((rows.length+([.int .i64 x6.toInt]:List V).length)*8) bC then
  kn (IntKind.wrap .i64 (t39+1),rows++([.int .i64 x6.toInt]:List V))
  else none
 else
  kr (t39,decide ((t39:Int)<t38),rows)
noncomputable def GW (C:ae) (p:List V) (pL q:Int) (t21:List V) (t22 t23:Int) (t37:List V) (t38 aQ a9:Int) (bp bj:List V) (cj cl gF gG:Int) (cX bR br bc:List V):(Int × (List V))→Option ((Int × (List V)) ⊕ (Int × Bool × (List V))):=un fun t39 rows=>BH C p pL q t21 t22 t23 t37 t38 aQ a9 bp bj cj cl gF gG cX bR br bc t39 rows (fun y=>some (.inl y)) (fun r=>some (.inr r))
noncomputable def BI (C:ae) (p t21:List V) (t22 aQ a9:Int) (bp bj:List V) (cj cl gF gG:Int) (MI cX:List V) (pL t23:Int) (bR br:List V) {β:Type} (kn:(Int × Int × (List V) × (List V))→Option β) (kr:(Int × Int × Bool × (List V) × (List V))→Option β):Option β:=
 bif decide ((t23:Int)<t22) then
  (idx t21 t23).bind fun x3=>
  bif (x3.toInt:Int) != pL then
  kn (pL,IntKind.wrap .i64 (t23+1),bR,br)
  else
  (idx bj t23).bind fun x4=>
  (Loop (GW C p (IntKind.wrap .i64 (pL+1)) t23 t21 t22 t23 x4.toList (x4.toList.length:Int) aQ a9 bp bj cj cl gF gG MI cX bR br) (0,([]:List V))).bind (un fun (np:Int)=>un fun (qV:Bool) (Bq:List V)=>
   bif Nat.ble ((br.length+([.list bf Bq]:List V).length)*24) bC then
    (idx bp t23).bind fun gu=>
    bif Nat.ble ((bR.length+([.bool gu.toBool]:List V).length)*1) bC then
    kn (IntKind.wrap .i64 (pL+1),IntKind.wrap .i64 (t23+1),bR++([.bool gu.toBool]:List V),br++([.list bf Bq]:List V))
    else none
   else none)
 else
  kr (pL,t23,decide ((t23:Int)<t22),bR,br)
noncomputable def GX (C:ae) (p t21:List V) (t22 aQ a9:Int) (bp bj:List V) (cj cl gF gG:Int) (MI cX:List V):(Int × Int × (List V) × (List V))→Option ((Int × Int × (List V) × (List V)) ⊕ (Int × Int × Bool × (List V) × (List V))):=un fun pL=>un fun t23=>un fun bR br=>BI C p t21 t22 aQ a9 bp bj cj cl gF gG MI cX pL t23 bR br (fun y=>some (.inl y)) (fun r=>some (.inr r))
noncomputable def V2 (C:ae):cy:=fun β n ds k=>
 bif Nat.beq n 177 then bu Kp [false,false,false,false,false,false,false,false,true,false,false,false,false,false,false,false,false,true,false,false,false,false] [[1,2,3,4,5,6,7,8,0,0,10,11,12,13,14,15,16,17,0,19,20,21,22]] (@BH C) ds k else
 bif Nat.beq n 81 then bu Kq [false,true,false,false,true,false,false,false,false,false,false,false,false,false,false,true,true] [[1,0,3,4,0,0,6,7,8,9,10,11,12,13,14,15,0,0]] (@BI C) ds k else
 none
abbrev V3 (C:ae) (b:ct):Prop:=cu Tryd.prog ar C (V2 C) 53 (cP Tryd.prog (ar.aW 53)) (ar.sin 53).a8.length b
theorem agQ (C:ae):V3 C (.loop (ak [1,1,1,1,0,1,0,0,1,1,0,0,1,1,1,1,0,1,0,0] GV)):=
 bz Kp [false,false,false,false,false,false,false,false,true,false,false,false,false,false,false,false,false,true,false,false,false,false] [[1,2,3,4,5,6,7,8,0,0,10,11,12,13,14,15,16,17,0,19,20,21,22]] (@BH C) (by kernel_rfl) (aS (bs:=[]) (by kernel_rfl) ao) (fun ds=>by kernel_rfl) (fun i x=>by kernel_rfl) (fun i x β k=>by kernel_rfl) (fun β ds k=>by kernel_rfl)
theorem agR (C:ae):V3 C (.loop (ak [1,1,1,1,0,1,0,0] GV)):=
 bz Kq [false,true,false,false,true,false,false,false,false,false,false,false,false,false,false,true,true] [[1,0,3,4,0,0,6,7,8,9,10,11,12,13,14,15,0,0]] (@BI C) (by kernel_rfl) (aS (bs:=[.loop (ak [1,1,1,1,0,1,0,0,1,1,0,0,1,1,1,1,0,1,0,0] GV)]) (by kernel_rfl) (bd (agQ C) ao)) (fun ds=>by kernel_rfl) (fun i x=>by kernel_rfl) (fun i x β k=>by kernel_rfl) (fun β ds k=>by kernel_rfl)
noncomputable def V4 (C:ae) (aX aY:Int) (aF ba:List V):Option (List V):=
 (C EW [.int .i64 aX,.int .i64 aY,.list aw aF,.list ay ba]).bind fun r1=>
 (idx ((V.nth r1 0).toList) aY).bind fun x2=>
 (Loop (GX C ((V.nth r1 0).toList) ((V.nth r1 0).toList) (((V.nth r1 0).toList).length:Int) aX aY aF ba 0 0 aX x2.toInt ([]:List V) ([]:List V)) (0,0,([]:List V),([]:List V))).bind (un fun (ak6:Int)=>un fun (Bm:Int)=>un fun (nq:Bool)=>un fun (rf:List V) (uJ:List V)=>
  (C EX [.int .i64 aX,.int .i64 x2.toInt,.list aw rf,.list ay uJ]).bind fun jG=>
  some [.int .i64 ((V.nth jG 0).toInt),.int .i64 ((V.nth (jG.drop 1) 0).toInt),.list aw ((V.nth (jG.drop 2) 0).toList),.list ay ((V.nth ((jG.drop 2).drop 1) 0).toList)])
theorem agS {aX aY:Int} {aF ba:List V} {r:Option (List V)} (h:V4 CC aX aY aF ba=r):CC sy [.int .i64 aX,.int .i64 aY,.list aw aF,.list ay ba]=r:=
 bn (key:=53) (L:=V2 CC) (bs:=[.loop (ak [1,1,1,1,0,1,0,0] GV)]) (by kernel_rfl) (bd (agR CC) ao) (Eq.trans (by kernel_rfl) h)
theorem u7 {n:Nat} {c:Nat→Nat}:(cV n c).length=n:=by simp[cV]
theorem rp {n q:Nat} {c:Nat→Nat} (h:q<n):idx (cV n c) (q:Int)=some (nV (c q)):=oK h
theorem GY {n q:Nat} {f:Nat→V} {z v:V} (hv:v=f q):(tab n fun j=>if j<q then f j else z).set q v=tab n fun j=>if j<q+1 then f j else z:=by
 rw[hv,nu]
 refine eF fun j _=> ?_
 by_cases hj:j=q
 ·rw[if_pos hj,if_pos (by omega),hj]
 ·rw[if_neg hj]
  by_cases b6:j<q
  ·rw[if_pos b6,if_pos (by omega)]
  ·rw[if_neg b6,if_neg (by omega)]
theorem MJ {n:Nat} {f:Nat→V} {z:V}:(tab n fun j=>if j<n then f j else z)=tab n f:=eF fun j hj=>if_pos hj
theorem V5 {n:Nat} {g:Nat→Nat} (hn:n≤1000) (hg: ∀q,q<n→g q≤1000000000):CC zR [.list bf (cV n g)]=some [.list bf (cV n (cp g n))]:=by
 refine agE ?_
 unfold VU
 rw[u7]
 refine bT (mw (by omega) (by omega)) ?_
 rw[Int.toNat_natCast,nv]
 refine bs (eK n (fun i=>((i:Int),fJ nV 0 (aL g i),(tab n fun q=>if q<i then nV (cp g n q) else nV 0))) ((n:Int),false,fJ nV 0 (aL g n),cV n (cp g n)) (fun q hq=> ?_) ?_) ?_
 ·have hle:=rh g q
  simp only[ME,Bz,un]
  refine bT (dx hq) ?_
  refine bs (rp hq) ?_
  have hk:cZ .i64 (g q:Int)=true:=F6 (by have:=hg q hq;omega)
  refine bT (by simp only[nV,V.toInt_int,hk,Bool.and_self]) ?_
  have e1:=uR xd (g q) (aL g q) 0
  rw[cA (by omega)]
  simp only[nV,V.toInt_int]
  rw[show (V.int .i64 (g q:Int))=nV (g q) from rfl]
  by_cases hx:g q∈aL g q
  ·refine bF (by rw[show fC (nV (g q)) _=_ from e1];simpa using hx) ?_
   refine (dM hq).trans ?_
   have e2:=w9 xd (g q) (.int .i64 0) (aL g q) 0 hx
   rw[Nat.zero_add,←U7 hq hx] at e2
   rw[show gY (nV (g q)) _ (.int .i64 0)=_ from e2,V.toInt_int,Int.toNat_natCast,Mk hx]
   exact congrArg (fun x=>some (Sum.inl (((q+1:Nat):Int),fJ nV 0 (aL g q),x))) (GY (f:=fun j=>nV (cp g n j)) rfl)
  ·refine bT (by rw[show fC (nV (g q)) _=_ from e1];simpa using hx) ?_
   refine bT (by simp only[hk,Bool.and_self]) ?_
   refine (dM hq).trans ?_
   have e2:=xb xd (g q) (aL g q) 0 hx
   rw[Nat.zero_add] at e2
   rw[show List.length (fJ nV 0 (aL g q))=(aL g q).length from w8 _ _,show e8 (nV (g q)) _ _=_ from e2,Int.toNat_natCast,←U8 hq hx,Gg hx]
   exact congrArg (fun x=>some (Sum.inl (((q+1:Nat):Int),fJ nV 0 (aL g q++[g q]),x))) (GY (f:=fun j=>nV (cp g n j)) rfl)
 ·simp only[ME,Bz,un]
  refine bF (bt (Nat.le_refl _)) ?_
  rw[bt (Nat.le_refl _)]
  exact congrArg (fun x=>some (Sum.inr ((n:Int),false,fJ nV 0 (aL g n),x))) (MJ (f:=fun j=>nV (cp g n j)))
 ·rfl
def kS (n:Nat) (p q:Nat→Nat) (i:Nat):Nat:=p i*(n+1)+q i
theorem agT {n:Nat} {p q:Nat→Nat} (hn:n≤512) (hp: ∀i,i<n→p i≤1000) (hq: ∀i,i<n→q i≤1000):CC E5 [.list bf (cV n p),.list bf (cV n q)]=some [.list bf (cV n (cp (kS n p q) n))]:=by
 have hb: ∀i,i<n→kS n p q i≤1000000000:=fun i hi=>by
  have h1:=hp i hi
  have h2:=hq i hi
  have:=Nat.mul_le_mul h1 (show n+1≤513 by omega)
  unfold kS
  omega
 refine agI ?_
 unfold VX
 rw[u7]
 refine bT (mw (by omega) (by omega)) ?_
 rw[Int.toNat_natCast,nv]
 refine bs (eK n (fun i=>((i:Int),(tab n fun j=>if j<i then nV (kS n p q j) else nV 0))) ((n:Int),false,cV n (kS n p q)) (fun i hi=> ?_) ?_) ?_
 ·simp only[MF,BA,un]
  refine bT (dx hi) ?_
  refine bs (rp hi) ?_
  refine bs (rp hi) ?_
  refine (dM hi).trans ?_
  have h1:=hp i hi
  have h2:=hq i hi
  have h3:=hb i hi
  have h4:IntKind.wrap .i64 ((IntKind.wrap .i64 ((IntKind.wrap .i64 (((cV n p).length:Int)+1))*(p i:Int)))+(q i:Int))=(kS n p q i:Int):=by
   rw[u7,cA (by omega)]
   have e:((n+1:Nat):Int)*(p i:Int)=((p i*(n+1):Nat):Int):=by rw[Nat.mul_comm];push_cast;rfl
   unfold kS at*
   rw[e]
   have h5:p i*(n+1)≤1000000000:=by omega
   generalize p i*(n+1)=z at*
   rw[wrap64 (x:=(z:Int)) (by omega) (by omega),wrap64 (by omega) (by omega)]
   push_cast;rfl
  simp only[nV,V.toInt_int]
  rw[h4,cA (by omega),Int.toNat_natCast]
  exact congrArg (fun x=>some (Sum.inl (((i+1:Nat):Int),x))) (GY (f:=fun j=>nV (kS n p q j)) rfl)
 ·simp only[MF,BA,un]
  refine bF (bt (Nat.le_refl _)) ?_
  rw[bt (Nat.le_refl _)]
  exact congrArg (fun x=>some (Sum.inr ((n:Int),false,x))) (MJ (f:=fun j=>nV (kS n p q j)))
 ·simp only[un]
  refine bs (V5 (by omega) hb) ?_
  rfl
theorem V6 {n:Nat} {p q:Nat→Nat} (hn:n≤1000):CC E6 [.list bf (cV n p),.list bf (cV n q)]=some [.bool (decide (∀i,i<n→p i=q i))]:=by
 refine agA ?_
 unfold VQ
 rw[u7,u7]
 refine bF (by simp) ?_
 refine bs (sI (fun i=>p i=q i) n (fun i=>(i:Int)) (.inl false:Bool ⊕ (Int × Bool)) (.inr ((n:Int),false)) (fun i hi=> ?_) ?_) ?_
 ·simp only[MD,By]
  refine bT (dx hi) ?_
  refine bs (rp hi) ?_
  refine bs (rp hi) ?_
  simp only[nV,V.toInt_int]
  by_cases h:p i=q i
  ·refine bF (by simp[h]) ?_
   rw[if_pos h,cA (by omega)]
  ·refine bT (by simp;omega) ?_
   rw[if_neg h]
 ·simp only[MD,By]
  refine bF (bt (Nat.le_refl _)) ?_
  rw[bt (Nat.le_refl _)]
 ·by_cases h: ∀i,i<n→p i=q i
  ·rw[if_pos h,decide_eq_true h];rfl
  ·rw[if_neg h,decide_eq_false h];rfl
theorem agU {n:Nat} {p q:Nat→Nat} {i j:Nat} (hi:q i≤n) (hj:q j≤n):kS n p q i=kS n p q j↔p i=p j∧q i=q j:=by
 unfold kS
 constructor
 ·intro h
  have h1:(p i*(n+1)+q i)/(n+1)=p i:=by rw[Nat.mul_comm,Nat.mul_add_div (by omega),Nat.div_eq_of_lt (by omega)];rfl
  have h2:(p j*(n+1)+q j)/(n+1)=p j:=by rw[Nat.mul_comm,Nat.mul_add_div (by omega),Nat.div_eq_of_lt (by omega)];rfl
  have h3:p i=p j:=by rw[←h1,←h2,h]
  rw[h3] at h
  exact ⟨h3,by omega⟩
 ·rintro ⟨h1,h2⟩
  rw[h1,h2]
section
variable {a:Da} (h:a.Ok)
def jl (a:Da) (c:Nat→Nat):Nat→Nat→Nat
 | 0=>c
 | x+1=>cp (kS a.n (jl a c x) fun q=>c (a.nx q x)) a.n
theorem V7 {c:Nat→Nat} (hc: ∀q,q<a.n→c q<a.n): ∀x q,q<a.n→jl a c x q<a.n
 | 0,q,hq=>hc q hq
 | x+1,q,hq=>by
  have h1:=A0 (g:=kS a.n (jl a c x) fun q=>c (a.nx q x)) hq
  have h2:=rh (kS a.n (jl a c x) fun q=>c (a.nx q x)) a.n
  show cp _ _ _<_
  omega
include h
theorem agV {c:Nat→Nat} (hc: ∀q,q<a.n→c q<a.n): ∀x,x≤a.L→∀q q',q<a.n→q'<a.n→(jl a c x q=jl a c x q'↔c q=c q'∧∀y,y<x→c (a.nx q y)=c (a.nx q' y)):=by
 intro x
 induction x with
 | zero=>intro _ q q' _ _;exact ⟨fun e=>⟨e,fun y hy=>by omega⟩,fun e=>e.1⟩
 | succ x ih=>
  intro hx q q' hq ca
  show cp _ _ _=cp _ _ _↔_
  rw[A1 hq ca,agU (by have:=hc _ (h.eE hq (show x<a.L by omega));omega) (by have:=hc _ (h.eE ca (show x<a.L by omega));omega),ih (by omega) q q' hq ca]
  constructor
  ·rintro ⟨⟨e1,e2⟩,e3⟩
   refine ⟨e1,fun y hy=> ?_⟩
   rcases Nat.lt_or_ge y x with c1|c1
   ·exact e2 y c1
   ·rw[show y=x by omega];exact e3
  ·rintro ⟨e1,e2⟩
   exact ⟨⟨e1,fun y hy=>e2 y (by omega)⟩,e2 x (by omega)⟩
theorem agW {c:Nat→Nat} {x:Nat} (hx:x<a.L) {k1 k2:Int} {l1 l2:List V}:
  Loop (GR CC (cV a.n c) l1 (x:Int) ((cV a.n c).length:Int) k1 k2 l2 a.cB) (0,([]:List V))=some ((a.n:Int),false,cV a.n fun q=>c (a.nx q x)):=by
 have hm:=h.eD
 rw[u7]
 refine (eK a.n (fun t=>((t:Int),(tab t fun q=>nV (c (a.nx q x))))) _ (fun q hq=> ?_) ?_)
 ·simp only[GR,BC,un]
  refine bT (dx hq) ?_
  refine bs (Da.my hq) ?_
  simp only[ny]
  refine bs (oN hx) ?_
  refine bs (rp (h.eE hq hx)) ?_
  refine bT (cap (by rw[dY];simp;omega) (by omega)) ?_
  rw[cA (by omega),kN]
  rfl
 ·simp only[GR,BC,un]
  refine bF (bt (Nat.le_refl _)) ?_
  rw[bt (Nat.le_refl _)]
  rfl
theorem V8 {c:Nat→Nat} (hc: ∀q,q<a.n→c q<a.n) {k2:Int} {l2:List V}:
  Loop (GS CC (cV a.n c) (a.L:Int) k2 l2 a.cB) (cV a.n c,0)=some (cV a.n (jl a c a.L),(a.L:Int),false):=by
 have hm:=h.eD
 have h6:=h.l6
 refine (eK a.L (fun x=>(cV a.n (jl a c x),(x:Int))) _ (fun x hx=> ?_) ?_)
 ·simp only[GS,BE,un]
  refine bT (dx hx) ?_
  refine bs (agW h hx) ?_
  refine bs (agT hm (fun q hq=>by have:=V7 hc x q hq;omega) fun q hq=>by have:=hc _ (h.eE hq hx);omega) ?_
  rw[cA (by omega)]
  rfl
 ·simp only[GS,BE,un]
  refine bF (bt (Nat.le_refl _)) ?_
  rw[bt (Nat.le_refl _)]
theorem agX {c0:Nat→Nat} (hp0:a.Part c0) (ho0:nz c0 a.n) (DW: ∀q,q<a.n→c0 q<a.n) {k2:Int} {l2:List V}: ∃p,Loop (BG CC (a.L:Int) k2 l2 a.cB) (cV a.n c0)=some (cV a.n p)∧a.uX p∧∀q,q<a.n→p q<a.n:=by
 have hm:=h.eD
 have:=Rn (step:=BG CC (a.L:Int) k2 l2 a.cB)
  (fun x=> ∃c,x=cV a.n c∧a.Part c∧nz c a.n∧∀q,q<a.n→c q<a.n)
  (fun x=>a.n-(aL (fun q=>(x.getD q (nV 0)).toInt) a.n).length)
  (fun r=> ∃p,r=cV a.n p∧a.uX p∧∀q,q<a.n→p q<a.n) (fun x hx=> ?_) (cV a.n c0) ⟨c0,rfl,hp0,ho0,DW⟩
 ·obtain ⟨r,h1,p,rfl,h2,h3⟩:=this
  exact ⟨p,h1,h2,h3⟩
 ·obtain ⟨c,rfl,hp,ho,hc⟩:=hx
  have nA:a.Gh c (jl a c a.L):=fun q q' hq ca=>(agV h hc a.L (Nat.le_refl _) q q' hq ca).trans Da.uW.symm
  have hb:=V7 hc a.L
  have u0: ∀q q',q<a.n→q'<a.n→jl a c a.L q=jl a c a.L q'→c q=c q':=fun q q' hq ca e=>(Da.uW.1 ((nA q q' hq ca).1 e)).1
  have jc:nz (jl a c a.L) a.n:=by
   have h1:=h.l1
   obtain ⟨m,hm⟩: ∃m,a.L=m+1:=⟨a.L-1,by omega⟩
   rw[hm]
   exact Ml _ _
  by_cases he: ∀q,q<a.n→jl a c a.L q=c q
  ·right
   refine ⟨_,?_,c,rfl,⟨hp.Vb h fun q q' hq ca e=>(nA q q' hq ca).1 (by rw[he q hq,he q' ca,e]),ho⟩,hc⟩
   simp only[BG,BF,un]
   refine bs (V8 h hc) ?_
   refine bs (V6 (by omega)) ?_
   refine bT (by simpa using he) ?_
   rfl
  ·left
   refine ⟨cV a.n (jl a c a.L),?_,⟨jl a c a.L,rfl,nA.part h hp,jc,hb⟩,?_⟩
   ·simp only[BG,BF,un]
    refine bs (V8 h hc) ?_
    refine bs (V6 (by omega)) ?_
    refine bF (by rw[V.bU,V.j5];exact decide_eq_false he) ?_
    rfl
   ·have ec: ∀d:Nat→Nat,(aL (fun q=>((cV a.n d).getD q (nV 0)).toInt) a.n).length=(aL d a.n).length:=fun d=>by
     have key: ∀m,m≤a.n→aL (fun q=>((cV a.n d).getD q (nV 0)).toInt) m=(aL d m).map fun n:Nat=>(n:Int):=by
      intro m
      induction m with
      | zero=>intro _;rfl
      | succ m ih=>
       intro hm
       have e:((cV a.n d).getD m (nV 0)).toInt=(d m:Int):=by unfold cV;rw[w6 (by omega)];rfl
       rw[aL,aL,ih (by omega),e]
       unfold cT
       by_cases hx:d m∈aL d m
       ·rw[if_pos hx,if_pos (List.mem_map.2 ⟨d m,hx,rfl⟩)]
       ·rw[if_neg hx,if_neg]
        ·simp
        ·intro h2
         obtain ⟨y,h3,h4⟩:=List.mem_map.1 h2
         exact hx ((show y=d m by omega)▸h3)
     rw[key a.n (Nat.le_refl _),List.length_map]
    simp only[ec]
    have afs:=Va u0
    have hle:=rh (jl a c a.L) a.n
    have bO:(aL c a.n).length≠(aL (jl a c a.L) a.n).length:=by
     intro e
     have bP:=Mm u0 (by omega)
     refine he fun q hq=> ?_
     have h1:=afb (f:=jl a c a.L) (c:=c) (fun s s' hs si=>⟨u0 s s' hs si,bP s s' hs si⟩) q hq
     have own: ∀(d:Nat→Nat),nz d a.n→cp d a.n q=d q:=fun d hd=>by
      have h2:d q∈aL d a.n:=iR.2 ⟨q,hq,rfl⟩
      unfold cp
      rw[hd a.n (Nat.le_refl _)] at h2⊢
      have h3:=List.mem_range.1 h2
      have h4:=(List.nodup_range (n:=(aL d a.n).length)).idxOf_getElem (d q) (by rw[List.length_range];exact h3)
      rwa [List.getElem_range] at h4
     rw[own _ jc,own _ ho] at h1
     exact h1
    omega
theorem V9: ∃p,CC EW (dc a)=some [.list bf (cV a.n p)]∧a.uX p∧∀q,q<a.n→p q<a.n:=by
 have hm:=h.eD
 have hf0: ∀q,q<a.n→(if a.fin q=true then 1 else 0)≤1000000000:=fun q _=>by split<;>omega
 have hb: ∀q,q<a.n→cp (fun q=>if a.fin q=true then 1 else 0) a.n q<a.n:=fun q hq=>by
  have h1:=A0 (g:=fun q=>if a.fin q=true then 1 else 0) hq
  have h2:=rh (fun q=>if a.fin q=true then 1 else 0) a.n
  omega
 obtain ⟨p,h1,h2,h3⟩:=agX h (c0:=cp (fun q=>if a.fin q=true then 1 else 0) a.n)
  ⟨fun q q' hq ca he=>(A1 hq ca).2 (by have:=he [] WL.nil;rw[Da.nt,Da.nt] at this;rw[this]),
   fun q q' hq ca he=>by
   have h1:=(A1 hq ca).1 he
   revert h1
   cases a.fin q<;>cases a.fin q'<;>simp⟩ (Ml _ _) hb (k2:=(a.st:Int)) (l2:=a.cU)
 refine ⟨p,agP ?_,h2,h3⟩
 unfold V0
 rw[Da.nw]
 refine bT (mw (by omega) (by omega)) ?_
 rw[Int.toNat_natCast,nv,dY]
 refine bs (eK a.n (fun i=>((i:Int),(tab a.n fun j=>if j<i then nV (if a.fin j=true then 1 else 0) else nV 0))) ((a.n:Int),false,cV a.n fun q=>if a.fin q=true then 1 else 0) (fun q hq=> ?_) ?_) ?_
 ·simp only[MG,BB,un]
  refine bT (dx hq) ?_
  refine bs (Da.sK hq) ?_
  rw[cA (by omega),V.j5]
  cases hf:a.fin q with
  | true=>
   refine bT rfl ?_
   refine (dM hq).trans ?_
   rw[Int.toNat_natCast]
   exact congrArg (fun x=>some (Sum.inl (((q+1:Nat):Int),x))) (GY (f:=fun j=>nV (if a.fin j=true then 1 else 0)) (by rw[hf];rfl))
  | false=>
   refine bF rfl ?_
   refine congrArg (fun x=>some (Sum.inl (((q+1:Nat):Int),x))) (eF fun j _=> ?_)
   by_cases hj:j=q
   ·rw[if_neg (show¬j<q by omega),if_pos (show j<q+1 by omega),hj,hf];rfl
   ·by_cases b6:j<q
    ·rw[if_pos b6,if_pos (show j<q+1 by omega)]
    ·rw[if_neg b6,if_neg (show¬j<q+1 by omega)]
 ·simp only[MG,BB,un]
  refine bF (bt (Nat.le_refl _)) ?_
  rw[bt (Nat.le_refl _)]
  exact congrArg (fun x=>some (Sum.inr ((a.n:Int),false,x))) (MJ (f:=fun j=>nV (if a.fin j=true then 1 else 0)))
 ·simp only[un]
  refine bs (V5 (by omega) hf0) ?_
  refine bs h1 ?_
  rfl
theorem agY {p:Nat→Nat} {q:Nat} (hq:q<a.n) {k1 k2 k3 k4 k5 k6 k7 k8 k9 Mv:Int} {l1 l2 l3 l4 l5 l6 l7:List V}:
  Loop (GW CC (cV a.n p) k1 k2 l1 k3 k4 (tab a.L fun x=>iV (a.nx q x)) ((tab a.L fun x=>iV (a.nx q x)).length:Int) k5 k6 l2 l3 k7 k8 k9 Mv l4 l5 l6 l7) (0,([]:List V))=
   some ((a.L:Int),false,(tab a.L fun x=>nV (p (a.nx q x)))):=by
 have h6:=h.l6
 rw[dY]
 refine (eK a.L (fun t=>((t:Int),(tab t fun x=>nV (p (a.nx q x))))) _ (fun t ht=> ?_) ?_)
 ·simp only[GW,BH,un]
  refine bT (dx ht) ?_
  refine bs (oN ht) ?_
  refine bs (rp (h.eE hq ht)) ?_
  refine bT (cap (by rw[dY];simp;omega) (by omega)) ?_
  rw[cA (by omega),kN]
  rfl
 ·simp only[GW,BH,un]
  refine bF (bt (Nat.le_refl _)) ?_
  rw[bt (Nat.le_refl _)]
theorem agZ {p:Nat→Nat} (ho:nz p a.n) {k2 k3 k4 k5 k6:Int} {l4 l5:List V}:
  Loop (GX CC (cV a.n p) (cV a.n p) ((cV a.n p).length:Int) (a.L:Int) k2 a.cU a.cB k3 k4 k5 k6 l4 l5) (0,0,([]:List V),([]:List V))=
   some (((Da.dN p a.n).length:Int),(a.n:Int),false,qF a p a.n,qN a p a.n):=by
 have h6:=h.l6
 have hm:=h.eD
 rw[u7]
 refine (eK a.n (fun i=>(((Da.dN p i).length:Int),(i:Int),qF a p i,qN a p i)) _ (fun q hq=> ?_) ?_)
 ·have hle:=Mu p q
  have hF:(qF a p q).length=(Da.dN p q).length:=by simp[qF]
  have hN:(qN a p q).length=(Da.dN p q).length:=by simp[qN]
  simp only[GX,BI,un]
  refine bT (dx hq) ?_
  refine bs (rp hq) ?_
  rw[cA (by omega)]
  simp only[nV,V.toInt_int]
  by_cases hx:p q∈aL p q
  ·have:=(Mt ho hq).1 hx
   refine bT (by simp;omega) ?_
   unfold qF qN
   rw[Da.dN,if_pos hx]
  ·have e:p q=(Da.dN p q).length:=by
    have h1:=ho (q+1) (by omega)
    rw[Gg hx,List.length_append,List.length_singleton,List.range_succ] at h1
    rw[Da.xf]
    exact List.singleton_inj.1 (List.append_inj_right h1 (by simp))
   refine bF (by rw[e];simp) ?_
   refine bs (Da.my hq) ?_
   simp only[ny]
   refine bs (agY h hq) ?_
   refine bT (cap (by rw[hN];simp;omega) (by omega)) ?_
   refine bs (Da.sK hq) ?_
   refine bT (cap (by rw[hF];simp;omega) (by omega)) ?_
   unfold qF qN
   rw[Da.dN,if_neg hx,List.map_append,List.map_append,List.length_append,cA (by omega)]
   rfl
 ·simp only[GX,BI,un]
  refine bF (bt (Nat.le_refl _)) ?_
  rw[bt (Nat.le_refl _)]
theorem MK:CC sy (dc a)=some (dc (minD a)):=by
 obtain ⟨p,c1,c2,c3⟩:=V9 h
 have hq:=Da.Gj h c2
 obtain ⟨q1,q2⟩:=Vp (a:=a) (p:=p)
 rw[←xn h (Da.Mn h c2)]
 refine agS ?_
 unfold V4
 refine bs c1 ?_
 refine bs (rp h.s) ?_
 refine bs (agZ h c2.2) ?_
 simp only[un]
 rw[←q1,←q2]
 have wm:=agx hq
 refine bs wm ?_
 rfl
end
end Go.AM
set_option maxRecDepth 100000
namespace Go.AM
open Go.Proofs Go.Sort
section
variable {α:Type} {enc:α→V}
def pM (enc:α→V) (d:Array α):List V:=d.toList.map enc
theorem gb (d:Array α):(pM enc d).length=d.size:=by simp[pM]
theorem gd (d:Array α) (i:Nat) (x:α):(pM enc d).set i (enc x)=pM enc (d.setIfInBounds i x):=by
 unfold pM;rw[Array.toList_setIfInBounds,List.map_set]
variable [Inhabited α]
theorem gf {d:Array α} {i:Nat} (h:i<d.size):(pM enc d)[i]? =some (enc d[i]!):=by
 unfold pM;rw[List.getElem?_map,Array.getElem?_toList,Array.getElem?_eq_getElem h,getElem!_pos d i h];rfl
theorem iw {d:Array α} {i j:Nat} {x:α} (h:i<d.size):(pM enc (d.setIfInBounds j x))[i]? =some (enc (d.setIfInBounds j x)[i]!):=gf (by rw[Array.size_setIfInBounds];exact h)
theorem gg (a b:Nat):(a:Int)+(b:Int)=((a+b:Nat):Int):=(Int.natCast_add a b).symm
theorem dO (a:Nat):(a:Int)+1=((a+1:Nat):Int):=rfl
theorem sQ (a:Nat):((a+1:Nat):Int)-1=(a:Int):=by omega
theorem BJ (a:Nat):(a:Int)*2=((a*2:Nat):Int):=by omega
theorem mD {a b:Nat} (h:b≤a):(a:Int)-(b:Int)=((a-b:Nat):Int):=by omega
theorem jH {a:Nat} (h:1≤a):(a:Int)-1=((a-1:Nat):Int):=by omega
theorem divC (a b:Nat):Int.tdiv (a:Int) (b:Int)=((a/b:Nat):Int):=by rw[Int.tdiv_eq_ediv_of_nonneg (by omega)];rfl
theorem nC {p:Prop} [Decidable p] (h:p):decide p=true:=decide_eq_true h
theorem rq {p:Prop} [Decidable p] (h: ¬p):decide p=false:=decide_eq_false h
variable {lt:α→α→Bool}
theorem Wa (a j:Nat) (d:Array α):insInner lt a (j+1) d=if j+1>a&&lt d[j+1]! d[j]! then insInner lt a j (swp d (j+1) j) else d:=rfl
theorem ML {a:Nat}: ∀(j:Nat) (d:Array α),(insInner lt a j d).size=d.size
 | 0,d=>rfl
 | j+1,d=>by
  rw[Wa]
  split
  ·rw[ML j,size_swp]
  ·rfl
theorem BK (hi first:Nat): ∀(n root:Nat) (d:Array α),hi-root≤n→(siftDown lt hi first root d).size=d.size:=by
 intro n
 induction n with
 | zero=>intro root d h;rw[siftDown,dif_pos (by omega)]
 | succ n ih=>
  intro root d h
  rw[siftDown]
  split
  ·rfl
  ·split
   ·split
    ·rfl
    ·split
     ·rw[ih _ _ (by omega),size_swp]
     ·rfl
   ·split
    ·rfl
    ·rw[ih _ _ (by omega),size_swp]
theorem MM (hi first:Nat): ∀(k:Nat) (d:Array α),(heapBuild lt hi first k d).size=d.size
 | 0,d=>rfl
 | k+1,d=>by rw[heapBuild,MM,BK _ _ _ _ _ (Nat.le_refl _)]
end
end Go.AM
set_option maxRecDepth 100000
namespace Go.AM
open Go.Proofs
noncomputable abbrev GZ:Code:=cI Tryd.prog (ar.aW 92)
noncomputable def BL (C:ae) (t7:List V) (t8 t9:Int) (outs:List V) (MN MO MP k':Int) {β:Type} (kn:Int→Option β) (kr:(Int × Bool)→Option β):Option β:=
 bif decide ((k':Int)>0) then
  bif (decide (0≤(IntKind.wrap .i64 (k'-1))))&&(decide ((IntKind.wrap .i64 (k'-1))<(outs.length:Int))) then
  (outs[(IntKind.wrap .i64 (k'-1):Int).toNat]?).bind fun x2=>
  (C zU [.int .i64 MN,.int .i64 MO,.int .i64 MP,.int .i64 ((x2.cell 0).toInt),.int .i64 ((x2.cell 1).toInt),.int .i64 ((x2.cell 2).toInt)]).bind fun r3=>
  bif (V.nth r3 0).toBool then
   kn (IntKind.wrap .i64 (k'-1))
  else
   kr (k',(V.nth r3 0).toBool)
  else none
 else
  kr (k',false)
noncomputable def BM (C:ae) (t7:List V) (t8 t9:Int) (outs:List V) (MN MO MP:Int):(Int)→Option ((Int) ⊕ (Int × Bool)):=fun k'=>BL C t7 t8 t9 outs MN MO MP k' (fun y=>some (.inl y)) (fun r=>some (.inr r))
noncomputable def BN (C:ae) (t7:List V) (t8 t9:Int) (outs:List V) {β:Type} (kn:(Int × (List V))→Option β) (kr:(Int × Bool × (List V))→Option β):Option β:=
 bif decide ((t9:Int)<t8) then
  (idx t7 t9).bind fun x1=>
  (Loop (BM C t7 t8 t9 outs ((x1.cell 0).toInt) ((x1.cell 1).toInt) ((x1.cell 2).toInt)) (outs.length:Int)).bind (un fun (fi:Int) (mo:Bool)=>
   bif (fi:Int)==0 then
   bif (decide (0≤fi))&&(decide (fi≤(outs.length:Int))) then
    bif Nat.ble ((([]:List V).length+((outs.drop 0).take (((fi:Int).toNat)-0)).length)*24) bC then
    bif Nat.ble (((([]:List V)++((outs.drop 0).take (((fi:Int).toNat)-0))).length+([.agg [.int .i64 ((x1.cell 0).toInt),.int .i64 ((x1.cell 1).toInt),.int .i64 ((x1.cell 2).toInt)]]:List V).length)*24) bC then
     bif (decide (0≤fi))&&(decide (fi≤(outs.length:Int))) then
     bif Nat.ble ((((([]:List V)++((outs.drop 0).take (((fi:Int).toNat)-0)))++([.agg [.int .i64 ((x1.cell 0).toInt),.int .i64 ((x1.cell 1).toInt),.int .i64 ((x1.cell 2).toInt)]]:List V)).length+((outs.drop ((fi:Int).toNat)).take (outs.length-((fi:Int).toNat))).length)*24) bC then
      kn (IntKind.wrap .i64 (t9+1),((([]:List V)++((outs.drop 0).take (((fi:Int).toNat)-0)))++([.agg [.int .i64 ((x1.cell 0).toInt),.int .i64 ((x1.cell 1).toInt),.int .i64 ((x1.cell 2).toInt)]]:List V))++((outs.drop ((fi:Int).toNat)).take (outs.length-((fi:Int).toNat))))
     else none
     else none
    else none
    else none
   else none
   else
   bif (decide (0≤(IntKind.wrap .i64 (fi-1))))&&(decide ((IntKind.wrap .i64 (fi-1))<(outs.length:Int))) then
    (outs[(IntKind.wrap .i64 (fi-1):Int).toNat]?).bind fun x6=>
    bif !(((((x6.cell 0).toInt):Int)==((x1.cell 0).toInt))&&(((((x6.cell 1).toInt):Int)==((x1.cell 1).toInt))&&(((((x6.cell 2).toInt):Int)==((x1.cell 2).toInt))&&true))) then
    bif (decide (0≤fi))&&(decide (fi≤(outs.length:Int))) then
     bif Nat.ble ((([]:List V).length+((outs.drop 0).take (((fi:Int).toNat)-0)).length)*24) bC then
     bif Nat.ble (((([]:List V)++((outs.drop 0).take (((fi:Int).toNat)-0))).length+([.agg [.int .i64 ((x1.cell 0).toInt),.int .i64 ((x1.cell 1).toInt),.int .i64 ((x1.cell 2).toInt)]]:List V).length)*24) bC then
      bif (decide (0≤fi))&&(decide (fi≤(outs.length:Int))) then
      bif Nat.ble ((((([]:List V)++((outs.drop 0).take (((fi:Int).toNat)-0)))++([.agg [.int .i64 ((x1.cell 0).toInt),.int .i64 ((x1.cell 1).toInt),.int .i64 ((x1.cell 2).toInt)]]:List V)).length+((outs.drop ((fi:Int).toNat)).take (outs.length-((fi:Int).toNat))).length)*24) bC then
       kn (IntKind.wrap .i64 (t9+1),((([]:List V)++((outs.drop 0).take (((fi:Int).toNat)-0)))++([.agg [.int .i64 ((x1.cell 0).toInt),.int .i64 ((x1.cell 1).toInt),.int .i64 ((x1.cell 2).toInt)]]:List V))++((outs.drop ((fi:Int).toNat)).take (outs.length-((fi:Int).toNat))))
      else none
      else none
     else none
     else none
    else none
    else
    kn (IntKind.wrap .i64 (t9+1),outs)
   else none)
 else
  kr (t9,decide ((t9:Int)<t8),outs)
noncomputable def BO (C:ae) (t7:List V) (t8:Int):(Int × (List V))→Option ((Int × (List V)) ⊕ (Int × Bool × (List V))):=un fun t9 outs=>BN C t7 t8 t9 outs (fun y=>some (.inl y)) (fun r=>some (.inr r))
noncomputable def Wb (C:ae):cy:=fun β n ds k=>
 bif Nat.beq n 97 then bu KL [true,false,false,false,false,false,false,false] [[0,2,3,4,0,5,6,7,8]] (@BL C) ds k else
 bif Nat.beq n 49 then bu KM [false,false,true,true] [[1,2,0,0,0]] (@BN C) ds k else
 none
abbrev Wc (C:ae) (b:ct):Prop:=cu Tryd.prog ar C (Wb C) 92 (cP Tryd.prog (ar.aW 92)) (ar.sin 92).a8.length b
theorem ag0 (C:ae):Wc C (.loop (ak [1,1,0,1,0,0,1,1,0,0,1,1,0,0,0] GZ)):=
 bz KL [true,false,false,false,false,false,false,false] [[0,2,3,4,0,5,6,7,8]] (@BL C) (by kernel_rfl) (aS (bs:=[]) (by kernel_rfl) ao) (fun ds=>by kernel_rfl) (fun i x=>by kernel_rfl) (fun i x β k=>by kernel_rfl) (fun β ds k=>by kernel_rfl)
theorem ag1 (C:ae):Wc C (.loop (ak [1,1,0,1,0,0] GZ)):=
 bz KM [false,false,true,true] [[1,2,0,0,0]] (@BN C) (by kernel_rfl) (aS (bs:=[.loop (ak [1,1,0,1,0,0,1,1,0,0,1,1,0,0,0] GZ)]) (by kernel_rfl) (bd (ag0 C) ao)) (fun ds=>by kernel_rfl) (fun i x=>by kernel_rfl) (fun i x β k=>by kernel_rfl) (fun β ds k=>by kernel_rfl)
noncomputable def Wd (C:ae) (l:List V):Option (List V):=
 (Loop (BO C l (l.length:Int)) (0,([]:List V))).bind (un fun (np:Int)=>un fun (qV:Bool) (ag2:List V)=>
  some [.list aq ag2])
theorem ag3 {l:List V} {r:Option (List V)} (h:Wd CC l=r):CC E0 [.list aq l]=r:=
 bn (key:=92) (L:=Wb CC) (bs:=[.loop (ak [1,1,0,1,0,0] GZ)]) (by kernel_rfl) (bd (ag1 CC) ao) (Eq.trans (by kernel_rfl) h)
end Go.AM
set_option maxRecDepth 100000
set_option maxHeartbeats 1000000
namespace Go.AM
open Go.Proofs
theorem Ed.lt_irrefl (a:Ed): ¬a.lt a:=by unfold Ed.lt;omega
theorem Ed.lt_trans {a b c:Ed}:a.lt b→b.lt c→a.lt c:=by unfold Ed.lt;omega
theorem Ed.lt_asymm {a b:Ed}:a.lt b→¬b.lt a:=by unfold Ed.lt;omega
theorem Ed.We {a b:Ed} (h1: ¬a.lt b) (h2: ¬b.lt a):a=b:=by
 cases a;cases b
 simp only[Ed.lt,Ed.mk.injEq] at*
 omega
abbrev nD (E:List Ed):Prop:=E.Pairwise Ed.lt
def Ed.key (e:Ed):Nat:=(e.f.toNat*6+e.l.toNat)*64+e.t.toNat
theorem Ed.ag4 {a b:Ed} {L S:Int} (hL:L≤6) (hS:S≤64) (ha:a.In L S) (hb:b.In L S) (h:a.lt b):a.key<b.key:=by
 unfold Ed.In at ha hb
 unfold Ed.lt at h
 unfold Ed.key
 omega
theorem ag5 {L S:Int} (hL:L≤6) (hS:S≤64): ∀(E:List Ed),nD E→(∀e∈E,e.In L S)→∀i (hi:i<E.length),i≤E[i].key:=by
 intro E h hE i
 induction i with
 | zero=>intro hi;omega
 | succ i ih=>
  intro hi
  have h1:=ih (by omega)
  have h2:=(List.pairwise_iff_getElem.1 h) i (i+1) (by omega) hi (by omega)
  have:=Ed.ag4 hL hS (hE _ (List.getElem_mem _)) (hE _ (List.getElem_mem _)) h2
  omega
theorem ag6 {L S:Int} (hL:L≤6) (hS:S≤64) {E:List Ed} (h:nD E) (hE: ∀e∈E,e.In L S):E.length≤24576:=by
 by_cases h0:E.length=0
 ·omega
 ·have h1:=ag5 hL hS E h hE (E.length-1) (by omega)
  have h2:=hE E[E.length-1] (List.getElem_mem _)
  unfold Ed.In at h2
  unfold Ed.key at h1
  omega
theorem Wf: ∀{A B:List Ed},nD A→nD B→(∀x,x∈A↔x∈B)→A=B
 | [],[],_,_,_=>rfl
 | [],b::B,_,_,h=>by have:=(h b).2 (by simp);cases this
 | a::A,[],_,_,h=>by have:=(h a).1 (by simp);cases this
 | a::A,b::B,hA,hB,h=>by
  have a1:=List.pairwise_cons.1 hA
  have b1:=List.pairwise_cons.1 hB
  have fU:a=b:=by
   have ha:=(h a).1 (by simp)
   have hb:=(h b).2 (by simp)
   rcases List.mem_cons.1 ha with e|e
   ·exact e
   ·rcases List.mem_cons.1 hb with e'|e'
    ·exact e'.symm
    ·exact absurd (a1.1 b e') (Ed.lt_asymm (b1.1 a e))
  subst fU
  rw[Wf a1.2 b1.2 fun x=> ?_]
  constructor
  ·intro hx
   rcases List.mem_cons.1 ((h x).1 (by simp[hx])) with e|e
   ·subst e;exact absurd (a1.1 x hx) (Ed.lt_irrefl x)
   ·exact e
  ·intro hx
   rcases List.mem_cons.1 ((h x).2 (by simp[hx])) with e|e
   ·subst e;exact absurd (b1.1 x hx) (Ed.lt_irrefl x)
   ·exact e
def iy (out:List Ed) (e:Ed):Nat→Nat
 | 0=>0
 | k+1=>if e.lt (out.getD k default) then iy out e k else k+1
def nE (out:List Ed) (e:Ed):List Ed:=
 if iy out e out.length=0∨¬out.getD (iy out e out.length-1) default=e then out.take (iy out e out.length)++[e]++out.drop (iy out e out.length) else out
def pN (l:List Ed):List Ed:=l.foldl nE []
theorem BP (out:List Ed) (e:Ed): ∀k,iy out e k≤k
 | 0=>Nat.le_refl _
 | k+1=>by unfold iy;split;exact Nat.le_succ_of_le (BP out e k);exact Nat.le_refl _
theorem Wg (out:List Ed) (e:Ed): ∀k i,iy out e k≤i→i<k→e.lt (out.getD i default)
 | 0,i,_,h=>by omega
 | k+1,i,h1,h2=>by
  unfold iy at h1
  split at h1
  ·rename_i h3
   by_cases hi:i=k
   ·subst hi;exact h3
   ·exact Wg out e k i h1 (by omega)
  ·omega
theorem Wh (out:List Ed) (e:Ed): ∀k,iy out e k≠0→¬e.lt (out.getD (iy out e k-1) default)
 | 0,h=>by simp[iy] at h
 | k+1,h=>by
  unfold iy at h⊢
  split
  ·rename_i h3
   rw[if_pos h3] at h
   exact Wh out e k h
  ·rename_i h3
   simpa using h3
theorem ag7 {out:List Ed} {e x:Ed} (hk:iy out e out.length≤out.length):x∈nE out e↔x=e∨x∈out:=by
 unfold nE
 split
 ·rename_i h
  have:=List.take_append_drop (iy out e out.length) out
  constructor
  ·intro hx
   simp only[List.append_assoc,List.mem_append,List.mem_singleton] at hx
   rcases hx with hx|hx|hx
   ·exact .inr (List.mem_of_mem_take hx)
   ·exact .inl hx
   ·exact .inr (List.mem_of_mem_drop hx)
  ·rintro (rfl|hx)
   ·simp
   ·rw[←this] at hx
    simp only[List.mem_append] at hx
    simp only[List.append_assoc,List.mem_append,List.mem_singleton]
    rcases hx with hx|hx
    ·exact .inl hx
    ·exact .inr (.inr hx)
 ·rename_i h
  simp only[not_or,Classical.not_not] at h
  constructor
  ·exact .inr
  ·rintro (rfl|hx)
   ·have h1:=h.2
    have h2:iy out x out.length-1<out.length:=by omega
    rw[←h1]
    simp[h2]
   ·exact hx
theorem ag8 {out:List Ed} {e:Ed} (h:nD out):nD (nE out e):=by
 have hk:=BP out e out.length
 have up:=Wg out e out.length
 have dn:=Wh out e out.length
 unfold nE
 generalize hq:iy out e out.length=k at*
 split
 ·rename_i hc
  have g:=List.pairwise_iff_getElem.1 h
  have iM: ∀x∈out.take k,x.lt e:=by
   intro x hx
   obtain ⟨i,hi,rfl⟩:=List.getElem_of_mem hx
   have ej:i<k:=by rw[List.length_take] at hi;omega
   have qv:i<out.length:=by omega
   rw[List.getElem_take]
   have BQ:k≠0:=by omega
   have h1:=dn BQ
   have h2: ¬out.getD (k-1) default=e:=by
    rcases hc with hc|hc
    ·exact absurd hc BQ
    ·exact hc
   have lh:k-1<out.length:=by omega
   have e1:out.getD (k-1) default=out[k-1]:=by simp[lh]
   rw[e1] at h1 h2
   have h3:out[k-1].lt e:=by
    by_cases h4:out[k-1].lt e
    ·exact h4
    ·exact absurd (Ed.We h4 h1) h2
   by_cases hik:i=k-1
   ·subst hik;exact h3
   ·exact Ed.lt_trans (g i (k-1) qv lh (by omega)) h3
  have gP: ∀y∈out.drop k,e.lt y:=by
   intro y hy
   obtain ⟨i,hi,rfl⟩:=List.getElem_of_mem hy
   rw[List.length_drop] at hi
   rw[List.getElem_drop]
   have:=up (k+i) (by omega) (by omega)
   have e1:out.getD (k+i) default=out[k+i]:=by simp[show k+i<out.length by omega]
   rwa [e1] at this
  rw[nD,List.append_assoc,List.pairwise_append]
  refine ⟨h.sublist (List.take_sublist _ _),?_,?_⟩
  ·rw[List.singleton_append,List.pairwise_cons]
   exact ⟨gP,h.sublist (List.drop_sublist _ _)⟩
  ·intro x hx y hy
   rw[List.singleton_append,List.mem_cons] at hy
   rcases hy with rfl|hy
   ·exact iM x hx
   ·exact Ed.lt_trans (iM x hx) (gP y hy)
 ·exact h
theorem MQ: ∀(l out:List Ed),nD out→nD (l.foldl nE out)∧∀x,x∈l.foldl nE out↔x∈l∨x∈out
 | [],out,h=>⟨h,by simp⟩
 | e::l,out,h=>by
  obtain ⟨h1,h2⟩:=MQ l (nE out e) (ag8 h)
  refine ⟨h1,fun x=> ?_⟩
  rw[List.foldl_cons,h2,ag7 (BP _ _ _)]
  simp only[List.mem_cons]
  constructor
  ·rintro (h|h|h)
   ·exact .inl (.inr h)
   ·exact .inl (.inl h)
   ·exact .inr h
  ·rintro ((h|h)|h)
   ·exact .inr (.inl h)
   ·exact .inl h
   ·exact .inr (.inr h)
theorem MR (l:List Ed):nD (pN l):=(MQ l [] List.Pairwise.nil).1
theorem xt {l:List Ed} {x:Ed}:x∈pN l↔x∈l:=by
 have:=(MQ l [] List.Pairwise.nil).2 x
 simpa[pN] using this
theorem ag9 (out:List Ed) (e:Ed):(nE out e).length≤out.length+1:=by
 unfold nE
 have:=BP out e out.length
 split
 ·simp only[List.length_append,List.length_take,List.length_drop,List.length_cons,List.length_nil];omega
 ·omega
theorem Wi {out:List Ed} {e:Ed} {t7:List V} {t8 t9:Int}: ∀k,k≤out.length→out.length<1152921504606846976→∃t,Loop (BM CC t7 t8 t9 (out.map Ed.enc) e.f e.l e.t) (k:Int)=some (((iy out e k:Nat):Int),t)
 | 0,_,_=>⟨false,bZ (by
   simp (disch:=omega) only[BM,BL,az,if_neg]
   rfl)⟩
 | k+1,hk,hs=>by
  obtain ⟨t,ih⟩:=Wi (out:=out) (e:=e) (t7:=t7) (t8:=t8) (t9:=t9) k (by omega) hs
  have e1:BM CC t7 t8 t9 (out.map Ed.enc) e.f e.l e.t ((k+1:Nat):Int)=bif decide (e.lt (out.getD k default)) then some (.inl (k:Int)) else some (.inr (((k+1:Nat):Int),decide (e.lt (out.getD k default)))):=by
   simp only[BM,BL]
   rw[az,if_pos (by omega),sQ,wrap64 (by omega) (by omega),dB,az,if_pos (by omega),az,if_pos (by rw[List.length_map];omega),Int.toNat_natCast]
   have hg:(out.map Ed.enc)[k]? =some (out.getD k default).enc:=by
    rw[List.getElem?_map,List.getElem?_eq_getElem (by omega)];simp[show k<out.length by omega]
   rw[hg]
   simp only[Option.bind_some,Ed.dr,Ed.dt,Ed.dv,Ts,V.bU,V.j5]
  unfold iy
  by_cases h:e.lt (out.getD k default)
  ·rw[if_pos h]
   rw[decide_eq_true h,cond_true] at e1
   exact ⟨t,(ee e1).trans ih⟩
  ·rw[if_neg h]
   rw[decide_eq_false h,cond_false] at e1
   exact ⟨_,bZ e1⟩
theorem BR (a b:Ed):((a.f==b.f)&&((a.l==b.l)&&((a.t==b.t)&&true)))=decide (a=b):=by
 cases a;cases b
 rw[Bool.eq_iff_iff]
 simp
theorem aha (out:List Ed) (k:Nat) (e:Ed):((([]:List V)++(((out.map Ed.enc).drop 0).take (k-0)))++([e.enc]:List V))++(((out.map Ed.enc).drop k).take ((out.map Ed.enc).length-k))=(out.take k++[e]++out.drop k).map Ed.enc:=by
 simp
 rw[List.take_of_length_le (by simp)]
theorem ahb {l:List Ed} (hl:l.length≤1000000000):CC E0 [.list aq (l.map Ed.enc)]=some [.list aq ((pN l).map Ed.enc)]:=by
 refine ag3 ?_
 unfold Wd
 have:=LL (step:=BO CC (l.map Ed.enc) ((l.map Ed.enc).length:Int)) l (fun i (out:List Ed)=>((i:Int),out.map Ed.enc)) nE (fun out=>((l.length:Int),false,out.map Ed.enc)) (fun i out=>out.length≤i) ?_ ?_ [] (Nat.le_refl _)
 ·rw[show Loop (BO CC (l.map Ed.enc) ((l.map Ed.enc).length:Int)) (0,([]:List V))=_ from this.1]
  rfl
 ·intro i out hi ho
  refine ⟨?_,Nat.le_trans (ag9 _ _) (by omega)⟩
  obtain ⟨t,h1⟩:=Wi (out:=out) (e:=l[i]) (t7:=l.map Ed.enc) (t8:=((l.map Ed.enc).length:Int)) (t9:=(i:Int)) out.length (Nat.le_refl _) (by omega)
  have hk:=BP out l[i] out.length
  simp only[BO,BN,un]
  rw[az,if_pos (by rw[List.length_map];omega),uI hi,LR hi]
  simp only[Option.bind_some,Ed.dr,Ed.dt,Ed.dv]
  rw[show ((out.map Ed.enc).length:Int)=((out.length:Nat):Int) by simp,h1]
  simp only[Option.bind_some,un,Ed.re]
  unfold nE
  generalize iy out l[i] out.length=k at*
  have Wj: ∀X:Option (((Int × List V)) ⊕ (Int × Bool × List V)),X=some (.inl (IntKind.wrap .i64 ((i:Int)+1),((([]:List V)++(((out.map Ed.enc).drop 0).take (((k:Int).toNat)-0)))++([l[i].enc]:List V))++(((out.map Ed.enc).drop ((k:Int).toNat)).take ((out.map Ed.enc).length-((k:Int).toNat)))))→
    X=some (.inl (((i+1:Nat):Int),(out.take k++[l[i]]++out.drop k).map Ed.enc)):=by
   intro X hX
   rw[hX,Int.toNat_natCast,aha,dO,wrap64 (by omega) (by omega)]
  have lens:(([]:List V).length+(((out.map Ed.enc).drop 0).take (((k:Int).toNat)-0)).length)*24≤bC∧
    ((([]:List V)++(((out.map Ed.enc).drop 0).take (((k:Int).toNat)-0))).length+([l[i].enc]:List V).length)*24≤bC∧
    (((([]:List V)++(((out.map Ed.enc).drop 0).take (((k:Int).toNat)-0)))++([l[i].enc]:List V)).length+(((out.map Ed.enc).drop ((k:Int).toNat)).take ((out.map Ed.enc).length-((k:Int).toNat))).length)*24≤bC:=by
   rw[wW]
   simp only[Int.toNat_natCast,List.length_append,List.length_take,List.length_drop,List.length_map,List.length_nil,List.length_cons]
   omega
  by_cases BQ:k=0
  ·rw[if_pos (Or.inl BQ),nd,if_pos (by omega)]
   refine Wj _ ?_
   rw[dB,az,if_pos (by omega),az,if_pos (by omega),qJ,if_pos lens.1,qJ,if_pos lens.2.1,dB,az,if_pos (by omega),az,if_pos (by omega),qJ,if_pos lens.2.2]
  ·rw[nd,if_neg (by omega),jH (by omega),wrap64 (x:=((k-1:Nat):Int)) (by omega) (by omega),dB,az,if_pos (by omega),az,if_pos (by omega),Int.toNat_natCast]
   have hg:(out.map Ed.enc)[k-1]? =some (out.getD (k-1) default).enc:=by
    rw[List.getElem?_map,List.getElem?_eq_getElem (by omega)];simp[show k-1<out.length by omega]
   rw[hg]
   simp only[Option.bind_some,Ed.dr,Ed.dt,Ed.dv,BR]
   by_cases hc:out.getD (k-1) default=l[i]
   ·rw[if_neg (fun hx=>hx.elim BQ (fun h=>h hc)),decide_eq_true hc]
    simp only[Bool.not_true,cond_false]
    rw[dO,wrap64 (by omega) (by omega)]
   ·rw[if_pos (Or.inr hc),decide_eq_false hc]
    simp only[Bool.not_false,cond_true]
    refine Wj _ ?_
    rw[dB,az,if_pos (by omega),az,if_pos (by omega),qJ,if_pos lens.1,qJ,if_pos lens.2.1,dB,az,if_pos (by omega),az,if_pos (by omega),qJ,if_pos lens.2.2]
 ·intro out ho
  simp only[BO,BN,un]
  rw[List.length_map,rq (by omega),cond_false]
end Go.AM
set_option maxRecDepth 100000
namespace Go.AM
open Go.Proofs
noncomputable abbrev G0:Code:=cI Tryd.prog (ar.aW 91)
noncomputable def xu (C:ae) (BT u9:Nat) (k' kh:Int) (ss:List V) {β:Type} (kn:(Int × Int × (List V))→Option β) (kr:(Int × Int × Bool × (List V))→Option β):Option β:=
 bif decide ((kh:Int)<(u9:Int)) then
  bif (decide (0≤kh))&&(decide (kh<(u9:Int))) then
  (ss[BT+((kh:Int).toNat)]?).bind fun x3=>
  bif (decide (0≤(IntKind.wrap .i64 (kh-1))))&&(decide ((IntKind.wrap .i64 (kh-1))<(u9:Int))) then
   (ss[BT+((IntKind.wrap .i64 (kh-1):Int).toNat)]?).bind fun x4=>
   bif !(((((x3.cell 0).toInt):Int)==((x4.cell 0).toInt))&&(((((x3.cell 1).toInt):Int)==((x4.cell 1).toInt))&&(((((x3.cell 2).toInt):Int)==((x4.cell 2).toInt))&&true))) then
   bif (decide (0≤kh))&&(decide (kh<(u9:Int))) then
    (ss[BT+((kh:Int).toNat)]?).bind fun x5=>
    bif (decide (0≤k'))&&(decide (k'<(ss.length:Int))) then
    (ss[(k':Int).toNat]?).bind fun x6=>
    kn (IntKind.wrap .i64 (k'+1),IntKind.wrap .i64 (kh+1),ss.set ((k':Int).toNat) (.agg [.int .i64 ((x5.cell 0).toInt),.int .i64 ((x5.cell 1).toInt),.int .i64 ((x5.cell 2).toInt)]))
    else none
   else none
   else
   kn (k',IntKind.wrap .i64 (kh+1),ss)
  else none
  else none
 else
  kr (k',kh,decide ((kh:Int)<(u9:Int)),ss)
noncomputable def va (C:ae) (BT u9:Nat):(Int × Int × (List V))→Option ((Int × Int × (List V)) ⊕ (Int × Int × Bool × (List V))):=un fun k'=>un fun kh ss=>xu C BT u9 k' kh ss (fun y=>some (.inl y)) (fun r=>some (.inr r))
noncomputable def xw (C:ae) (ss:List V) (k':Int) {β:Type} (kn:Int→Option β) (kr:((List V) ⊕ (Int × Bool))→Option β):Option β:=
 bif decide ((k':Int)<(ss.length:Int)) then
  bif (decide (0≤k'))&&(decide (k'<(ss.length:Int))) then
  (ss[(k':Int).toNat]?).bind fun x1=>
  bif (decide (0≤(IntKind.wrap .i64 (k'-1))))&&(decide ((IntKind.wrap .i64 (k'-1))<(ss.length:Int))) then
   (ss[(IntKind.wrap .i64 (k'-1):Int).toNat]?).bind fun x2=>
   bif ((((x1.cell 0).toInt):Int)==((x2.cell 0).toInt))&&(((((x1.cell 1).toInt):Int)==((x2.cell 1).toInt))&&(((((x1.cell 2).toInt):Int)==((x2.cell 2).toInt))&&true)) then
   bif (decide (0≤k'))&&(decide (k'≤(ss.length:Int))) then
    (Loop (va C ((k':Int).toNat) (ss.length-((k':Int).toNat))) (k',1,ss)).bind (un fun (mE:Int)=>un fun (k_8:Int)=>un fun (q0:Bool) (rr:List V)=>
     bif (decide (0≤mE))&&(decide (mE≤(rr.length:Int))) then
     bif (decide (0≤mE))&&(decide (mE≤((rr.take ((mE:Int).toNat)++(List.replicate (rr.length-((mE:Int).toNat)) (V.agg [.int .i64 0,.int .i64 0,.int .i64 0])++rr.drop (((mE:Int).toNat)+(rr.length-((mE:Int).toNat))))).length:Int))) then
      kr (.inl ((rr.take ((mE:Int).toNat)++(List.replicate (rr.length-((mE:Int).toNat)) (V.agg [.int .i64 0,.int .i64 0,.int .i64 0])++rr.drop (((mE:Int).toNat)+(rr.length-((mE:Int).toNat))))).take ((mE:Int).toNat)))
     else none
     else none)
   else none
   else
   kn (IntKind.wrap .i64 (k'+1))
  else none
  else none
 else
  kr (.inr (k',decide ((k':Int)<(ss.length:Int))))
noncomputable def vb (C:ae) (ss:List V):(Int)→Option ((Int) ⊕ ((List V) ⊕ (Int × Bool))):=fun k'=>xw C ss k' (fun y=>some (.inl y)) (fun r=>some (.inr r))
noncomputable def Wk (C:ae):cy:=fun β n ds k=>
 bif Nat.beq n 145 then bu KJ [true,false,false,true,true] [[0,2,3,0,0,0]] (@xu C) ds k else
 bif Nat.beq n 65 then bu KK [true,false] [[0],[0,0,2]] (@xw C) ds k else
 none
abbrev Wl (C:ae) (b:ct):Prop:=cu Tryd.prog ar C (Wk C) 91 (cP Tryd.prog (ar.aW 91)) (ar.sin 91).a8.length b
theorem ahc (C:ae):Wl C (.loop (ak [1,1,0,1,0,0,1,0,0,1,0,1,0,1,0,0] G0)):=
 bz KJ [true,false,false,true,true] [[0,2,3,0,0,0]] (@xu C) (by kernel_rfl) (aS (bs:=[]) (by kernel_rfl) ao) (fun ds=>by kernel_rfl) (fun i x=>by kernel_rfl) (fun i x β k=>by kernel_rfl) (fun β ds k=>by kernel_rfl)
theorem ahd (C:ae):Wl C (.loop (ak [1,1,0,1,0,0] G0)):=
 bz KK [true,false] [[0],[0,0,2]] (@xw C) (by kernel_rfl) (aS (bs:=[.loop (ak [1,1,0,1,0,0,1,0,0,1,0,1,0,1,0,0] G0)]) (by kernel_rfl) (bd (ahc C) ao)) (fun ds=>by kernel_rfl) (fun i x=>by kernel_rfl) (fun i x β k=>by kernel_rfl) (fun β ds k=>by kernel_rfl)
noncomputable def G1 (C:ae) (ss:List V):Option (List V):=
 bif decide (((ss.length:Int):Int)<2) then
  some [V.bool true,.list aq ss]
 else
  (Loop (vb C ss) 1).bind (di (fun (ahe:List V)=>
   some [V.bool false,.list aq ahe]) (un fun (ak7:Int) (nq:Bool)=>
   some [V.bool true,.list aq ss]))
theorem MS {ss:List V} {r:Option (List V)} (h:G1 CC ss=r):CC EZ [.list aq ss]=r:=
 bn (key:=91) (L:=Wk CC) (bs:=[.loop (ak [1,1,0,1,0,0] G0)]) (by kernel_rfl) (bd (ahd CC) ao) (Eq.trans (by kernel_rfl) h)
def nF (prev:Ed):List Ed→List Ed
 | []=>[]
 | x::l=>if x=prev then nF x l else x::nF x l
def iz:List Ed→List Ed
 | []=>[]
 | x::l=>x::nF x l
theorem MT {l:List Ed} {j:Nat} (h:j<l.length):l.take (j+1)=l.take j++[l.getD j default]:=by
 rw[List.take_succ_eq_append_getElem h];simp[h]
theorem Wm {l ss:List Ed} {j:Nat} (hl:ss.length=l.length) (h:ss.drop j=l.drop j) (hj:j<l.length):ss.getD j default=l.getD j default:=by
 have h1:=congrArg (fun x:List Ed=>x.getD 0 default) h
 simpa[hj,hl] using h1
theorem BU {l:List Ed} {i:Nat} (h:i<l.length):(l.map Ed.enc)[i]? =some (l.getD i default).enc:=by simp[h]
theorem ahf (ss:List Ed) (m:Nat) (z:V) (hm:m≤ss.length):((((ss.map Ed.enc).take m++(List.replicate ((ss.map Ed.enc).length-m) z++(ss.map Ed.enc).drop (m+((ss.map Ed.enc).length-m)))).take m)=(ss.take m).map Ed.enc):=by
 rw[List.take_append_of_le_length (by simp;omega),List.take_of_length_le (by simp;omega),List.map_take]
theorem Wn: ∀(m:List Ed) (prev x:Ed),nF prev (m++[x])=nF prev m++(if x=(prev::m).getD m.length default then [] else [x])
 | [],prev,x=>by simp only[List.nil_append,nF,List.length_nil,List.getD_cons_zero]
 | y::m,prev,x=>by
  have ih:=Wn m y x
  simp only[List.cons_append,nF,List.length_cons,List.getD_cons_succ]
  split
  ·exact ih
  ·rw[ih];rfl
theorem Wo {l:List Ed} {p:Nat} (h1:1≤p) (h2:p<l.length):iz (l.take (p+1))=iz (l.take p)++(if l.getD p default=l.getD (p-1) default then [] else [l.getD p default]):=by
 match l,p,h1,h2 with
 | y::l,p+1,_,h2=>
  simp only[List.length_cons] at h2
  rw[List.take_succ_cons,List.take_succ_cons,iz,iz,MT (by omega),Wn]
  simp only[List.getD_cons_succ,List.length_take,Nat.add_sub_cancel]
  rw[show min p l.length=p by omega]
  have:(y::l.take p).getD p default=(y::l).getD p default:=by
   match p with
   | 0=>rfl
   | q+1=>simp only[List.getD_cons_succ];rw[List.getD_eq_getElem?_getD,List.getD_eq_getElem?_getD,List.getElem?_take_of_lt (by omega)]
  rw[this];rfl
theorem Wp: ∀(m:List Ed) (prev:Ed),(prev::m).Pairwise (fun x y=> ¬y.lt x)→nD (prev::nF prev m)∧∀x,x∈prev::nF prev m↔x∈prev::m
 | [],prev,_=>⟨by simp[nF],by simp[nF]⟩
 | y::m,prev,h=>by
  have h1:=List.pairwise_cons.1 h
  obtain ⟨i1,i2⟩:=Wp m y h1.2
  rw[nF]
  by_cases hc:y=prev
  ·rw[if_pos hc]
   subst hc
   refine ⟨i1,fun x=> ?_⟩
   rw[i2 x];simp
  ·rw[if_neg hc]
   have aR:prev.lt y:=by
    by_cases h2:prev.lt y
    ·exact h2
    ·exact absurd (Ed.We h2 (h1.1 y (by simp))) fun e=>hc e.symm
   refine ⟨List.pairwise_cons.2 ⟨fun x hx=> ?_,i1⟩,fun x=> ?_⟩
   ·rcases List.mem_cons.1 hx with rfl|hx
    ·exact aR
    ·exact Ed.lt_trans aR ((List.pairwise_cons.1 i1).1 x hx)
   ·rw[List.mem_cons,i2 x,←List.mem_cons]
theorem ahg {l:List Ed} (h:l.Pairwise (fun x y=> ¬y.lt x)):nD (iz l)∧∀x,x∈iz l↔x∈l:=by
 match l,h with
 | [],_=>exact ⟨List.Pairwise.nil,fun _=>Iff.rfl⟩
 | y::l,h=>exact Wp l y h
section
variable {l:List Ed} (hn:l.length≤1000000)
include hn
theorem ahh {k:Nat}: ∀(d k2 i:Nat) (ss:List Ed),k+k2+d=l.length→1≤k2→i+1≤k+k2→ss.length=l.length→ss.take i=iz (l.take (k+k2))→ss.drop (k+k2-1)=l.drop (k+k2-1)→
  ∃t u xx,Loop (va CC k (l.length-k)) ((i:Int),(k2:Int),ss.map Ed.enc)=some (((iz l).length:Int),u,t,List.map Ed.enc xx)∧xx.take (iz l).length=iz l∧xx.length=l.length:=by
 intro d
 induction d with
 | zero=>
  intro k2 i ss hj su hi hl ht hd
  have e0:l.take (k+k2)=l:=List.take_of_length_le (by omega)
  rw[e0] at ht
  have jf:i=(iz l).length:=by rw[←ht,List.length_take];omega
  refine ⟨false,(k2:Int),ss,bZ ?_,by rw[←jf];exact ht,hl⟩
  simp only[va,xu,un,List.length_map,az]
  rw[if_neg (by omega),decide_eq_false (by omega),jf]
 | succ d ih=>
  intro k2 i ss hj su hi hl ht hd
  have hp:k+k2<l.length:=by omega
  have mU:ss.drop (k+k2)=l.drop (k+k2):=by
   have h:=congrArg (List.drop 1) hd
   rw[List.drop_drop,List.drop_drop] at h
   rwa [show k+k2-1+1=k+k2 by omega] at h
  have g1:=Wm hl mU hp
  have g0:=Wm hl hd (show k+k2-1<l.length by omega)
  have x1:(ss.map Ed.enc)[k+k2]? =some (l.getD (k+k2) default).enc:=by rw[BU (by omega),g1]
  have x0:(ss.map Ed.enc)[k+(k2-1)]? =some (l.getD (k+k2-1) default).enc:=by rw[show k+(k2-1)=k+k2-1 by omega,BU (by omega),g0]
  have w1:IntKind.wrap .i64 ((k2:Int)-1)=((k2-1:Nat):Int):=by rw[wrap64 (by omega) (by omega)];omega
  have t1:((k2:Nat):Int)<((l.length-k:Nat):Int):=by omega
  have t2:(0:Int)≤((k2:Nat):Int):=by omega
  have t3:(0:Int)≤((k2-1:Nat):Int):=by omega
  have t4:((k2-1:Nat):Int)<((l.length-k:Nat):Int):=by omega
  have t5:((i:Nat):Int)<(ss.length:Int):=by omega
  have t6:(0:Int)≤((i:Nat):Int):=by omega
  have y6: ∃y,(ss.map Ed.enc)[i]? =some y:=⟨_,BU (by omega)⟩
  obtain ⟨y,hy⟩:=y6
  have cs:=Wo (l:=l) (p:=k+k2) (by omega) hp
  by_cases he:l.getD (k+k2) default=l.getD (k+k2-1) default
  ·have bP:va CC k (l.length-k) ((i:Int),(k2:Int),ss.map Ed.enc)=some (.inl ((i:Int),((k2+1:Nat):Int),ss.map Ed.enc)):=by
    simp only[va,xu,un]
    refine bT (decide_eq_true t1) ?_
    refine bT (Bool.and_eq_true_iff.2 ⟨decide_eq_true t2,decide_eq_true t1⟩) ?_
    rw[Int.toNat_natCast]
    refine bs x1 ?_
    rw[w1]
    refine bT (Bool.and_eq_true_iff.2 ⟨decide_eq_true t3,decide_eq_true t4⟩) ?_
    rw[Int.toNat_natCast]
    refine bs x0 ?_
    simp only[Ed.dr,Ed.dt,Ed.dv,BR]
    rw[decide_eq_true he]
    refine bF rfl ?_
    rw[wrap64 (by omega) (by omega)]
    rfl
   rw[ee bP]
   refine ih (k2+1) i ss (by omega) (by omega) (by omega) hl ?_ (by rw[show k+(k2+1)-1=k+k2 by omega];exact mU)
   rw[show k+(k2+1)=k+k2+1 by omega,cs,if_pos he,List.append_nil,ht]
  ·have bP:va CC k (l.length-k) ((i:Int),(k2:Int),ss.map Ed.enc)=some (.inl (((i+1:Nat):Int),((k2+1:Nat):Int),(ss.set i (l.getD (k+k2) default)).map Ed.enc)):=by
    simp only[va,xu,un]
    refine bT (decide_eq_true t1) ?_
    refine bT (Bool.and_eq_true_iff.2 ⟨decide_eq_true t2,decide_eq_true t1⟩) ?_
    rw[Int.toNat_natCast]
    refine bs x1 ?_
    rw[w1]
    refine bT (Bool.and_eq_true_iff.2 ⟨decide_eq_true t3,decide_eq_true t4⟩) ?_
    rw[Int.toNat_natCast]
    refine bs x0 ?_
    simp only[Ed.dr,Ed.dt,Ed.dv,BR]
    rw[decide_eq_false he]
    refine bT rfl ?_
    refine bT (Bool.and_eq_true_iff.2 ⟨decide_eq_true t2,decide_eq_true t1⟩) ?_
    refine bs x1 ?_
    refine bT (by rw[List.length_map];exact Bool.and_eq_true_iff.2 ⟨decide_eq_true t6,decide_eq_true t5⟩) ?_
    rw[Int.toNat_natCast]
    refine bs hy ?_
    simp only[Ed.dr,Ed.dt,Ed.dv,Ed.re]
    rw[wrap64 (by omega) (by omega),wrap64 (by omega) (by omega),List.map_set]
    rfl
   rw[ee bP]
   refine ih (k2+1) (i+1) (ss.set i (l.getD (k+k2) default)) (by omega) (by omega) (by omega) (by simpa using hl) ?_ ?_
   ·rw[MT (by rw[List.length_set];omega),List.take_set_of_le (Nat.le_refl i),ht,show k+(k2+1)=k+k2+1 by omega,cs,if_neg he]
    simp[show i<ss.length by omega]
   ·rw[show k+(k2+1)-1=k+k2 by omega,List.drop_set_of_lt (by omega),mU]
theorem ahi: ∀(d p:Nat),p+d=l.length→1≤p→iz (l.take p)=l.take p→
  (iz l=l∧∃t,Loop (vb CC (l.map Ed.enc)) (p:Int)=some (.inr t))∨Loop (vb CC (l.map Ed.enc)) (p:Int)=some (.inl ((iz l).map Ed.enc)):=by
 intro d
 induction d with
 | zero=>
  intro p hp h1 hc
  obtain rfl:p=l.length:=by omega
  rw[List.take_length] at hc
  refine .inl ⟨hc,((l.length:Int),false),bZ ?_⟩
  simp only[vb,xw,List.length_map,az]
  rw[if_neg (by omega),decide_eq_false (by omega)]
 | succ d ih=>
  intro p hp h1 hc
  have fa:p<l.length:=by omega
  have cs:=Wo (l:=l) h1 fa
  have x1:(l.map Ed.enc)[p]? =some (l.getD p default).enc:=BU fa
  have x0:(l.map Ed.enc)[p-1]? =some (l.getD (p-1) default).enc:=BU (by omega)
  have w1:IntKind.wrap .i64 ((p:Int)-1)=((p-1:Nat):Int):=by rw[wrap64 (by omega) (by omega)];omega
  have t1:((p:Nat):Int)<(l.length:Int):=by omega
  have t2:(0:Int)≤((p:Nat):Int):=by omega
  have t3:(0:Int)≤((p-1:Nat):Int):=by omega
  have t4:((p-1:Nat):Int)<(l.length:Int):=by omega
  have t5:((p:Nat):Int)≤(l.length:Int):=by omega
  by_cases he:l.getD p default=l.getD (p-1) default
  ·refine .inr (bZ ?_)
   obtain ⟨t,u,xx,e1,e2,e3⟩:=ahh hn (k:=p) (l.length-(p+1)) 1 p l (by omega) (by omega) (by omega) rfl (by rw[cs,if_pos he,List.append_nil,hc]) rfl
   have hm:(iz l).length≤xx.length:=by
    have:=congrArg List.length e2
    rw[List.length_take] at this
    omega
   have m1:(0:Int)≤(((iz l).length:Nat):Int):=by omega
   have m2:(((iz l).length:Nat):Int)≤((xx.map Ed.enc).length:Int):=by rw[List.length_map];omega
   simp only[vb,xw,List.length_map]
   refine bT (decide_eq_true t1) ?_
   refine bT (Bool.and_eq_true_iff.2 ⟨decide_eq_true t2,decide_eq_true t1⟩) ?_
   rw[Int.toNat_natCast]
   refine bs x1 ?_
   rw[w1]
   refine bT (Bool.and_eq_true_iff.2 ⟨decide_eq_true t3,decide_eq_true t4⟩) ?_
   rw[Int.toNat_natCast]
   refine bs x0 ?_
   simp only[Ed.dr,Ed.dt,Ed.dv,BR]
   rw[decide_eq_true he]
   refine bT rfl ?_
   refine bT (Bool.and_eq_true_iff.2 ⟨decide_eq_true t2,decide_eq_true t5⟩) ?_
   refine (congrArg (fun o=>Option.bind o _) e1).trans ?_
   simp only[Option.bind_some,un,dB,az,Int.toNat_natCast]
   rw[if_pos m1,if_pos m2,if_pos m1,if_pos (by simp only[List.length_append,List.length_take,List.length_replicate,List.length_drop,List.length_map];omega),ahf _ _ _ hm,e2]
  ·have bP:vb CC (l.map Ed.enc) (p:Int)=some (.inl ((p+1:Nat):Int)):=by
    simp only[vb,xw,List.length_map]
    refine bT (decide_eq_true t1) ?_
    refine bT (Bool.and_eq_true_iff.2 ⟨decide_eq_true t2,decide_eq_true t1⟩) ?_
    rw[Int.toNat_natCast]
    refine bs x1 ?_
    rw[w1]
    refine bT (Bool.and_eq_true_iff.2 ⟨decide_eq_true t3,decide_eq_true t4⟩) ?_
    rw[Int.toNat_natCast]
    refine bs x0 ?_
    simp only[Ed.dr,Ed.dt,Ed.dv,BR]
    rw[decide_eq_false he]
    refine bF rfl ?_
    rw[wrap64 (by omega) (by omega)]
    rfl
   rw[ee bP]
   exact ih (p+1) (by omega) (by omega) (by rw[cs,if_neg he,hc,←MT fa])
theorem Wq: ∃b,CC EZ [.list aq (l.map Ed.enc)]=some [.bool b,.list aq ((iz l).map Ed.enc)]:=by
 by_cases h2:l.length<2
 ·refine ⟨true,MS ?_⟩
  unfold G1
  rw[List.length_map,az,if_pos (by omega)]
  match l,h2 with
  | [],_=>rfl
  | [k],_=>rfl
 ·rcases ahi hn (l.length-1) 1 (by omega) (by omega) (by
   match l,h2 with
   | k::l,_=>rfl) with ⟨h3,t,h4⟩|h4
  ·refine ⟨true,MS ?_⟩
   unfold G1
   rw[List.length_map,az,if_neg (by omega)]
   refine (congrArg (fun o=>Option.bind o _) h4).trans ?_
   rw[h3];rfl
  ·refine ⟨false,MS ?_⟩
   unfold G1
   rw[List.length_map,az,if_neg (by omega)]
   refine (congrArg (fun o=>Option.bind o _) h4).trans ?_
   rfl
end
noncomputable def Wr (C:ae) (lp lq lr qW qX qY:Int):Option (List V):=
 (C qO [.int .i64 lp,.int .i64 qW]).bind fun r1=>
 (C qO [.int .i64 lq,.int .i64 qX]).bind fun r2=>
 (C qO [.int .i64 lr,.int .i64 qY]).bind fun r3=>
 (C zO [.list bf ([.int .i64 ((V.nth r1 0).toInt),.int .i64 ((V.nth r2 0).toInt),.int .i64 ((V.nth r3 0).toInt)]:List V)]).bind fun r4=>
 some [.int .i64 ((V.nth r4 0).toInt)]
theorem ahj {lp lq lr qW qX qY:Int} {r:Option (List V)} (h:Wr CC lp lq lr qW qX qY=r):CC bw [.int .i64 lp,.int .i64 lq,.int .i64 lr,.int .i64 qW,.int .i64 qX,.int .i64 qY]=r:=
 bn (key:=88) (L:=db) (bs:=[]) (by kernel_rfl) ao (Eq.trans (by kernel_rfl) h)
theorem gH (a b:Ed):CC bw [.int .i64 a.f,.int .i64 a.l,.int .i64 a.t,.int .i64 b.f,.int .i64 b.l,.int .i64 b.t]=some [.int .i64 (bQ a b)]:=by
 refine ahj ?_
 unfold Wr
 refine bs (wX _ _) ?_
 refine bs (wX _ _) ?_
 refine bs (wX _ _) ?_
 refine bs (Tr _ _ _) ?_
 rfl
noncomputable abbrev G2:Code:=cI Tryd.prog (ar.aW 170)
noncomputable def xy (C:ae) (a b' i j:Int) (af:List V) {β:Type} (kn:(Int × (List V))→Option β) (kr:(Int × Bool × (List V))→Option β):Option β:=
 bif decide ((j:Int)>a) then
  bif (decide (0≤j))&&(decide (j<(af.length:Int))) then
  (af[(j:Int).toNat]?).bind fun x1=>
  bif (decide (0≤(IntKind.wrap .i64 (j-1))))&&(decide ((IntKind.wrap .i64 (j-1))<(af.length:Int))) then
   (af[(IntKind.wrap .i64 (j-1):Int).toNat]?).bind fun x2=>
   (C bw [.int .i64 ((x1.cell 0).toInt),.int .i64 ((x1.cell 1).toInt),.int .i64 ((x1.cell 2).toInt),.int .i64 ((x2.cell 0).toInt),.int .i64 ((x2.cell 1).toInt),.int .i64 ((x2.cell 2).toInt)]).bind fun r3=>
   bif decide ((((V.nth r3 0).toInt):Int)<0) then
   bif (decide (0≤(IntKind.wrap .i64 (j-1))))&&(decide ((IntKind.wrap .i64 (j-1))<(af.length:Int))) then
    (af[(IntKind.wrap .i64 (j-1):Int).toNat]?).bind fun x4=>
    bif (decide (0≤j))&&(decide (j<(af.length:Int))) then
    (af[(j:Int).toNat]?).bind fun x5=>
    bif (decide (0≤j))&&(decide (j<(af.length:Int))) then
     (af[(j:Int).toNat]?).bind fun x6=>
     bif (decide (0≤(IntKind.wrap .i64 (j-1))))&&(decide ((IntKind.wrap .i64 (j-1))<((af.set ((j:Int).toNat) (.agg [.int .i64 ((x4.cell 0).toInt),.int .i64 ((x4.cell 1).toInt),.int .i64 ((x4.cell 2).toInt)])).length:Int))) then
     ((af.set ((j:Int).toNat) (.agg [.int .i64 ((x4.cell 0).toInt),.int .i64 ((x4.cell 1).toInt),.int .i64 ((x4.cell 2).toInt)]))[(IntKind.wrap .i64 (j-1):Int).toNat]?).bind fun x7=>
     kn (IntKind.wrap .i64 (j-1),(af.set ((j:Int).toNat) (.agg [.int .i64 ((x4.cell 0).toInt),.int .i64 ((x4.cell 1).toInt),.int .i64 ((x4.cell 2).toInt)])).set ((IntKind.wrap .i64 (j-1):Int).toNat) (.agg [.int .i64 ((x5.cell 0).toInt),.int .i64 ((x5.cell 1).toInt),.int .i64 ((x5.cell 2).toInt)]))
     else none
    else none
    else none
   else none
   else
   kr (j,decide ((((V.nth r3 0).toInt):Int)<0),af)
  else none
  else none
 else
  kr (j,false,af)
noncomputable def xz (C:ae) (a b' i:Int):(Int × (List V))→Option ((Int × (List V)) ⊕ (Int × Bool × (List V))):=un fun j af=>xy C a b' i j af (fun y=>some (.inl y)) (fun r=>some (.inr r))
noncomputable def BV (C:ae) (a b' i:Int) (af:List V) {β:Type} (kn:(Int × (List V))→Option β) (kr:(Int × Bool × (List V))→Option β):Option β:=
 bif decide ((i:Int)<b') then
  (Loop (xz C a b' i) (i,af)).bind (un fun (j_8:Int)=>un fun (q0:Bool) (oS:List V)=>
   kn (IntKind.wrap .i64 (i+1),oS))
 else
  kr (i,decide ((i:Int)<b'),af)
noncomputable def G3 (C:ae) (a b':Int):(Int × (List V))→Option ((Int × (List V)) ⊕ (Int × Bool × (List V))):=un fun i af=>BV C a b' i af (fun y=>some (.inl y)) (fun r=>some (.inr r))
noncomputable def Ws (C:ae):cy:=fun β n ds k=>
 bif Nat.beq n 65 then bu Lk [false,false,false,true,true] [[1,2,3,0,0,0]] (@xy C) ds k else
 bif Nat.beq n 17 then bu Ll [false,false,true,true] [[1,2,0,0,0]] (@BV C) ds k else
 none
abbrev Wt (C:ae) (b:ct):Prop:=cu Tryd.prog ar C (Ws C) 170 (cP Tryd.prog (ar.aW 170)) (ar.sin 170).a8.length b
theorem ahk (C:ae):Wt C (.loop (ak [1,0,0,1,0,0,1,0,0] G2)):=
 bz Lk [false,false,false,true,true] [[1,2,3,0,0,0]] (@xy C) (by kernel_rfl) (aS (bs:=[]) (by kernel_rfl) ao) (fun ds=>by kernel_rfl) (fun i x=>by kernel_rfl) (fun i x β k=>by kernel_rfl) (fun β ds k=>by kernel_rfl)
theorem ahl (C:ae):Wt C (.loop (ak [1,0,0] G2)):=
 bz Ll [false,false,true,true] [[1,2,0,0,0]] (@BV C) (by kernel_rfl) (aS (bs:=[.loop (ak [1,0,0,1,0,0,1,0,0] G2)]) (by kernel_rfl) (bd (ahk C) ao)) (fun ds=>by kernel_rfl) (fun i x=>by kernel_rfl) (fun i x β k=>by kernel_rfl) (fun β ds k=>by kernel_rfl)
noncomputable def Wu (C:ae) (a b':Int) (af:List V):Option (List V):=
 (Loop (G3 C a b') (IntKind.wrap .i64 (a+1),af)).bind (un fun (ak8:Int)=>un fun (Bm:Bool) (MU:List V)=>
  some [.list aq MU])
theorem ahm {a b':Int} {af:List V} {r:Option (List V)} (h:Wu CC a b' af=r):CC Fk [.int .i64 a,.int .i64 b',.list aq af]=r:=
 bn (key:=170) (L:=Ws CC) (bs:=[.loop (ak [1,0,0] G2)]) (by kernel_rfl) (bd (ahl CC) ao) (Eq.trans (by kernel_rfl) h)
noncomputable abbrev xA:Code:=cI Tryd.prog (ar.aW 177)
noncomputable def vc (C:ae) (hi first root child:Int) (t40:Bool) (af:List V) {β:Type} (kr:(Int)→Option β):Option β:=
 bif t40 then
  kr (IntKind.wrap .i64 (child+1))
 else
  kr child
noncomputable def sR (C:ae) (hi first root:Int) (af:List V) {β:Type} (kn:(Int × (List V))→Option β) (kr:((Int × Int × Bool × (List V)) ⊕ (Int × Int × Bool × (List V)))→Option β):Option β:=
 bif decide (((IntKind.wrap .i64 ((IntKind.wrap .i64 (root*2))+1)):Int)≥hi) then
  kr (.inl (root,IntKind.wrap .i64 ((IntKind.wrap .i64 (root*2))+1),decide (((IntKind.wrap .i64 ((IntKind.wrap .i64 (root*2))+1)):Int)≥hi),af))
 else
  bif decide (((IntKind.wrap .i64 ((IntKind.wrap .i64 ((IntKind.wrap .i64 (root*2))+1))+1)):Int)<hi) then
  bif (decide (0≤(IntKind.wrap .i64 (first+(IntKind.wrap .i64 ((IntKind.wrap .i64 (root*2))+1))))))&&(decide ((IntKind.wrap .i64 (first+(IntKind.wrap .i64 ((IntKind.wrap .i64 (root*2))+1))))<(af.length:Int))) then
   (af[(IntKind.wrap .i64 (first+(IntKind.wrap .i64 ((IntKind.wrap .i64 (root*2))+1))):Int).toNat]?).bind fun x1=>
   bif (decide (0≤(IntKind.wrap .i64 ((IntKind.wrap .i64 (first+(IntKind.wrap .i64 ((IntKind.wrap .i64 (root*2))+1))))+1))))&&(decide ((IntKind.wrap .i64 ((IntKind.wrap .i64 (first+(IntKind.wrap .i64 ((IntKind.wrap .i64 (root*2))+1))))+1))<(af.length:Int))) then
   (af[(IntKind.wrap .i64 ((IntKind.wrap .i64 (first+(IntKind.wrap .i64 ((IntKind.wrap .i64 (root*2))+1))))+1):Int).toNat]?).bind fun x2=>
   (C bw [.int .i64 ((x1.cell 0).toInt),.int .i64 ((x1.cell 1).toInt),.int .i64 ((x1.cell 2).toInt),.int .i64 ((x2.cell 0).toInt),.int .i64 ((x2.cell 1).toInt),.int .i64 ((x2.cell 2).toInt)]).bind fun r3=>
   vc C hi first root (IntKind.wrap .i64 ((IntKind.wrap .i64 (root*2))+1)) (decide ((((V.nth r3 0).toInt):Int)<0)) af (fun (nG:Int)=>
    bif (decide (0≤(IntKind.wrap .i64 (first+root))))&&(decide ((IntKind.wrap .i64 (first+root))<(af.length:Int))) then
     (af[(IntKind.wrap .i64 (first+root):Int).toNat]?).bind fun x5=>
     bif (decide (0≤(IntKind.wrap .i64 (first+nG))))&&(decide ((IntKind.wrap .i64 (first+nG))<(af.length:Int))) then
     (af[(IntKind.wrap .i64 (first+nG):Int).toNat]?).bind fun x6=>
     (C bw [.int .i64 ((x5.cell 0).toInt),.int .i64 ((x5.cell 1).toInt),.int .i64 ((x5.cell 2).toInt),.int .i64 ((x6.cell 0).toInt),.int .i64 ((x6.cell 1).toInt),.int .i64 ((x6.cell 2).toInt)]).bind fun r7=>
     bif !(decide ((((V.nth r7 0).toInt):Int)<0)) then
      kr (.inr (root,nG,!(decide ((((V.nth r7 0).toInt):Int)<0)),af))
     else
      bif (decide (0≤(IntKind.wrap .i64 (first+nG))))&&(decide ((IntKind.wrap .i64 (first+nG))<(af.length:Int))) then
      (af[(IntKind.wrap .i64 (first+nG):Int).toNat]?).bind fun x8=>
      bif (decide (0≤(IntKind.wrap .i64 (first+root))))&&(decide ((IntKind.wrap .i64 (first+root))<(af.length:Int))) then
       (af[(IntKind.wrap .i64 (first+root):Int).toNat]?).bind fun x9=>
       bif (decide (0≤(IntKind.wrap .i64 (first+root))))&&(decide ((IntKind.wrap .i64 (first+root))<(af.length:Int))) then
       (af[(IntKind.wrap .i64 (first+root):Int).toNat]?).bind fun gu=>
       bif (decide (0≤(IntKind.wrap .i64 (first+nG))))&&(decide ((IntKind.wrap .i64 (first+nG))<((af.set ((IntKind.wrap .i64 (first+root):Int).toNat) (.agg [.int .i64 ((x8.cell 0).toInt),.int .i64 ((x8.cell 1).toInt),.int .i64 ((x8.cell 2).toInt)])).length:Int))) then
        ((af.set ((IntKind.wrap .i64 (first+root):Int).toNat) (.agg [.int .i64 ((x8.cell 0).toInt),.int .i64 ((x8.cell 1).toInt),.int .i64 ((x8.cell 2).toInt)]))[(IntKind.wrap .i64 (first+nG):Int).toNat]?).bind fun eJ=>
        kn (nG,(af.set ((IntKind.wrap .i64 (first+root):Int).toNat) (.agg [.int .i64 ((x8.cell 0).toInt),.int .i64 ((x8.cell 1).toInt),.int .i64 ((x8.cell 2).toInt)])).set ((IntKind.wrap .i64 (first+nG):Int).toNat) (.agg [.int .i64 ((x9.cell 0).toInt),.int .i64 ((x9.cell 1).toInt),.int .i64 ((x9.cell 2).toInt)]))
       else none
       else none
      else none
      else none
     else none
    else none)
   else none
  else none
  else
  vc C hi first root (IntKind.wrap .i64 ((IntKind.wrap .i64 (root*2))+1)) false af (fun (nH:Int)=>
   bif (decide (0≤(IntKind.wrap .i64 (first+root))))&&(decide ((IntKind.wrap .i64 (first+root))<(af.length:Int))) then
    (af[(IntKind.wrap .i64 (first+root):Int).toNat]?).bind fun gV=>
    bif (decide (0≤(IntKind.wrap .i64 (first+nH))))&&(decide ((IntKind.wrap .i64 (first+nH))<(af.length:Int))) then
    (af[(IntKind.wrap .i64 (first+nH):Int).toNat]?).bind fun lN=>
    (C bw [.int .i64 ((gV.cell 0).toInt),.int .i64 ((gV.cell 1).toInt),.int .i64 ((gV.cell 2).toInt),.int .i64 ((lN.cell 0).toInt),.int .i64 ((lN.cell 1).toInt),.int .i64 ((lN.cell 2).toInt)]).bind fun oO=>
    bif !(decide ((((V.nth oO 0).toInt):Int)<0)) then
     kr (.inr (root,nH,!(decide ((((V.nth oO 0).toInt):Int)<0)),af))
    else
     bif (decide (0≤(IntKind.wrap .i64 (first+nH))))&&(decide ((IntKind.wrap .i64 (first+nH))<(af.length:Int))) then
     (af[(IntKind.wrap .i64 (first+nH):Int).toNat]?).bind fun gI=>
     bif (decide (0≤(IntKind.wrap .i64 (first+root))))&&(decide ((IntKind.wrap .i64 (first+root))<(af.length:Int))) then
      (af[(IntKind.wrap .i64 (first+root):Int).toNat]?).bind fun nB=>
      bif (decide (0≤(IntKind.wrap .i64 (first+root))))&&(decide ((IntKind.wrap .i64 (first+root))<(af.length:Int))) then
      (af[(IntKind.wrap .i64 (first+root):Int).toNat]?).bind fun sM=>
      bif (decide (0≤(IntKind.wrap .i64 (first+nH))))&&(decide ((IntKind.wrap .i64 (first+nH))<((af.set ((IntKind.wrap .i64 (first+root):Int).toNat) (.agg [.int .i64 ((gI.cell 0).toInt),.int .i64 ((gI.cell 1).toInt),.int .i64 ((gI.cell 2).toInt)])).length:Int))) then
       ((af.set ((IntKind.wrap .i64 (first+root):Int).toNat) (.agg [.int .i64 ((gI.cell 0).toInt),.int .i64 ((gI.cell 1).toInt),.int .i64 ((gI.cell 2).toInt)]))[(IntKind.wrap .i64 (first+nH):Int).toNat]?).bind fun lE=>
       kn (nH,(af.set ((IntKind.wrap .i64 (first+root):Int).toNat) (.agg [.int .i64 ((gI.cell 0).toInt),.int .i64 ((gI.cell 1).toInt),.int .i64 ((gI.cell 2).toInt)])).set ((IntKind.wrap .i64 (first+nH):Int).toNat) (.agg [.int .i64 ((nB.cell 0).toInt),.int .i64 ((nB.cell 1).toInt),.int .i64 ((nB.cell 2).toInt)]))
      else none
      else none
     else none
     else none
    else none
   else none)
noncomputable def oT (C:ae) (hi first:Int):(Int × (List V))→Option ((Int × (List V)) ⊕ ((Int × Int × Bool × (List V)) ⊕ (Int × Int × Bool × (List V)))):=un fun root af=>sR C hi first root af (fun y=>some (.inl y)) (fun r=>some (.inr r))
noncomputable def Wv (C:ae):cy:=fun β n ds k=>
 bif Nat.beq n 655 then mi Ls [[1,2,3,0,6]] (@vc C) ds k else
 bif Nat.beq n 17 then bu Lt [false,false,true,true] [[1,2,0,0,0,0],[1,2,0,0,0,0]] (@sR C) ds k else
 none
abbrev Ww (C:ae) (b:ct):Prop:=cu Tryd.prog ar C (Wv C) 177 (cP Tryd.prog (ar.aW 177)) (ar.sin 177).a8.length b
theorem ahn (C:ae):Ww C (.cond 40 (ak [1,0,0,0,1,1,0,1,0] xA) (ak [1,0,0,0,1,1,0,1,1] xA)):=
 ng Ls [[1,2,3,0,6]] (@vc C) (by kernel_rfl) (aS (bs:=[]) (by kernel_rfl) ao) (aS (bs:=[]) (by kernel_rfl) ao) (fun ds=>by kernel_rfl) (fun i β k=>by kernel_rfl) (fun β ds k=>by kernel_rfl)
theorem aho (C:ae):Ww C (.loop (ak [1,0,0] xA)):=
 bz Lt [false,false,true,true] [[1,2,0,0,0,0],[1,2,0,0,0,0]] (@sR C) (by kernel_rfl) (aS (bs:=[.cond 40 (ak [1,0,0,0,1,1,0,1,0] xA) (ak [1,0,0,0,1,1,0,1,1] xA)]) (by kernel_rfl) (bd (ahn C) ao)) (fun ds=>by kernel_rfl) (fun i x=>by kernel_rfl) (fun i x β k=>by kernel_rfl) (fun β ds k=>by kernel_rfl)
noncomputable def Wx (C:ae) (lo hi first:Int) (af:List V):Option (List V):=
 (Loop (oT C hi first) (lo,af)).bind (di (un fun (ak9:Int)=>un fun (ala:Int)=>un fun (afx:Bool) (ahp:List V)=>
  some [.list aq ahp]) (un fun (alb:Int)=>un fun (alc:Int)=>un fun (afT:Bool) (ru:List V)=>
  some [.list aq ru]))
theorem ahq {lo hi first:Int} {af:List V} {r:Option (List V)} (h:Wx CC lo hi first af=r):CC Fp [.int .i64 lo,.int .i64 hi,.int .i64 first,.list aq af]=r:=
 bn (key:=177) (L:=Wv CC) (bs:=[.loop (ak [1,0,0] xA)]) (by kernel_rfl) (bd (aho CC) ao) (Eq.trans (by kernel_rfl) h)
noncomputable abbrev G4:Code:=cI Tryd.prog (ar.aW 171)
noncomputable def BW (C:ae) (first lo hi i:Int) (af:List V) {β:Type} (kn:(Int × (List V))→Option β) (kr:(Int × Bool × (List V))→Option β):Option β:=
 bif decide ((i:Int)≥0) then
  (C Fp [.int .i64 i,.int .i64 hi,.int .i64 first,.list aq af]).bind fun r1=>
  kn (IntKind.wrap .i64 (i-1),(V.nth r1 0).toList)
 else
  kr (i,decide ((i:Int)≥0),af)
noncomputable def G5 (C:ae) (first lo hi:Int):(Int × (List V))→Option ((Int × (List V)) ⊕ (Int × Bool × (List V))):=un fun i af=>BW C first lo hi i af (fun y=>some (.inl y)) (fun r=>some (.inr r))
noncomputable def BX (C:ae) (first lo i:Int) (af:List V) {β:Type} (kn:(Int × (List V))→Option β) (kr:(Int × Bool × (List V))→Option β):Option β:=
 bif decide ((i:Int)≥0) then
  bif (decide (0≤(IntKind.wrap .i64 (first+i))))&&(decide ((IntKind.wrap .i64 (first+i))<(af.length:Int))) then
  (af[(IntKind.wrap .i64 (first+i):Int).toNat]?).bind fun x5=>
  bif (decide (0≤first))&&(decide (first<(af.length:Int))) then
   (af[(first:Int).toNat]?).bind fun x6=>
   bif (decide (0≤first))&&(decide (first<(af.length:Int))) then
   (af[(first:Int).toNat]?).bind fun x7=>
   bif (decide (0≤(IntKind.wrap .i64 (first+i))))&&(decide ((IntKind.wrap .i64 (first+i))<((af.set ((first:Int).toNat) (.agg [.int .i64 ((x5.cell 0).toInt),.int .i64 ((x5.cell 1).toInt),.int .i64 ((x5.cell 2).toInt)])).length:Int))) then
    ((af.set ((first:Int).toNat) (.agg [.int .i64 ((x5.cell 0).toInt),.int .i64 ((x5.cell 1).toInt),.int .i64 ((x5.cell 2).toInt)]))[(IntKind.wrap .i64 (first+i):Int).toNat]?).bind fun x8=>
    (C Fp [.int .i64 lo,.int .i64 i,.int .i64 first,.list aq ((af.set ((first:Int).toNat) (.agg [.int .i64 ((x5.cell 0).toInt),.int .i64 ((x5.cell 1).toInt),.int .i64 ((x5.cell 2).toInt)])).set ((IntKind.wrap .i64 (first+i):Int).toNat) (.agg [.int .i64 ((x6.cell 0).toInt),.int .i64 ((x6.cell 1).toInt),.int .i64 ((x6.cell 2).toInt)]))]).bind fun r9=>
    kn (IntKind.wrap .i64 (i-1),(V.nth r9 0).toList)
   else none
   else none
  else none
  else none
 else
  kr (i,decide ((i:Int)≥0),af)
noncomputable def G6 (C:ae) (first lo:Int):(Int × (List V))→Option ((Int × (List V)) ⊕ (Int × Bool × (List V))):=un fun i af=>BX C first lo i af (fun y=>some (.inl y)) (fun r=>some (.inr r))
noncomputable def Wy (C:ae):cy:=fun β n ds k=>
 bif Nat.beq n 65 then bu Lm [false,false,false,true,true] [[1,2,3,0,0,0]] (@BW C) ds k else
 bif Nat.beq n 129 then bu Ln [false,false,true,true] [[1,2,0,0,0]] (@BX C) ds k else
 none
abbrev Wz (C:ae) (b:ct):Prop:=cu Tryd.prog ar C (Wy C) 171 (cP Tryd.prog (ar.aW 171)) (ar.sin 171).a8.length b
theorem ahr (C:ae):Wz C (.loop (ak [1,1,1,0,1,0,0] G4)):=
 bz Lm [false,false,false,true,true] [[1,2,3,0,0,0]] (@BW C) (by kernel_rfl) (aS (bs:=[]) (by kernel_rfl) ao) (fun ds=>by kernel_rfl) (fun i x=>by kernel_rfl) (fun i x β k=>by kernel_rfl) (fun β ds k=>by kernel_rfl)
theorem ahs (C:ae):Wz C (.loop (ak [1,1,1,1,1,0,0] G4)):=
 bz Ln [false,false,true,true] [[1,2,0,0,0]] (@BX C) (by kernel_rfl) (aS (bs:=[]) (by kernel_rfl) ao) (fun ds=>by kernel_rfl) (fun i x=>by kernel_rfl) (fun i x β k=>by kernel_rfl) (fun β ds k=>by kernel_rfl)
noncomputable def WA (C:ae) (a b':Int) (af:List V):Option (List V):=
 (Loop (G5 C a 0 (IntKind.wrap .i64 (b'-a))) (IntKind.wrap .i64 (Int.tdiv (IntKind.wrap .i64 ((IntKind.wrap .i64 (b'-a))-1)) 2),af)).bind (un fun (i_2:Int)=>un fun (ka:Bool) (aht:List V)=>
  (Loop (G6 C a 0) (IntKind.wrap .i64 ((IntKind.wrap .i64 (b'-a))-1),aht)).bind (un fun (ald:Int)=>un fun (MH:Bool) (mF:List V)=>
   some [.list aq mF]))
theorem ahu {a b':Int} {af:List V} {r:Option (List V)} (h:WA CC a b' af=r):CC Fl [.int .i64 a,.int .i64 b',.list aq af]=r:=
 bn (key:=171) (L:=Wy CC) (bs:=[.loop (ak [1,1,1,0,1,0,0] G4),.loop (ak [1,1,1,1,1,0,0] G4)]) (by kernel_rfl) (bd (ahr CC) (bd (ahs CC) ao)) (Eq.trans (by kernel_rfl) h)
noncomputable abbrev WB:Code:=cI Tryd.prog (ar.aW 179)
noncomputable def xB (C:ae) (i j:Int) (af:List V) {β:Type} (kn:(Int × Int × (List V))→Option β) (kr:(Int × Int × Bool × (List V))→Option β):Option β:=
 bif decide ((i:Int)<j) then
  bif (decide (0≤j))&&(decide (j<(af.length:Int))) then
  (af[(j:Int).toNat]?).bind fun x1=>
  bif (decide (0≤i))&&(decide (i<(af.length:Int))) then
   (af[(i:Int).toNat]?).bind fun x2=>
   bif (decide (0≤i))&&(decide (i<(af.length:Int))) then
   (af[(i:Int).toNat]?).bind fun x3=>
   bif (decide (0≤j))&&(decide (j<((af.set ((i:Int).toNat) (.agg [.int .i64 ((x1.cell 0).toInt),.int .i64 ((x1.cell 1).toInt),.int .i64 ((x1.cell 2).toInt)])).length:Int))) then
    ((af.set ((i:Int).toNat) (.agg [.int .i64 ((x1.cell 0).toInt),.int .i64 ((x1.cell 1).toInt),.int .i64 ((x1.cell 2).toInt)]))[(j:Int).toNat]?).bind fun x4=>
    kn (IntKind.wrap .i64 (i+1),IntKind.wrap .i64 (j-1),(af.set ((i:Int).toNat) (.agg [.int .i64 ((x1.cell 0).toInt),.int .i64 ((x1.cell 1).toInt),.int .i64 ((x1.cell 2).toInt)])).set ((j:Int).toNat) (.agg [.int .i64 ((x2.cell 0).toInt),.int .i64 ((x2.cell 1).toInt),.int .i64 ((x2.cell 2).toInt)]))
   else none
   else none
  else none
  else none
 else
  kr (i,j,decide ((i:Int)<j),af)
noncomputable def BY (C:ae):(Int × Int × (List V))→Option ((Int × Int × (List V)) ⊕ (Int × Int × Bool × (List V))):=un fun i=>un fun j af=>xB C i j af (fun y=>some (.inl y)) (fun r=>some (.inr r))
noncomputable def WC (C:ae):cy:=fun β n ds k=>
 bif Nat.beq n 33 then bu Lu [true,true,true] [[0,0,0,0]] (@xB C) ds k else
 none
abbrev ahv (C:ae) (b:ct):Prop:=cu Tryd.prog ar C (WC C) 179 (cP Tryd.prog (ar.aW 179)) (ar.sin 179).a8.length b
theorem ahw (C:ae):ahv C (.loop (ak [1,1,0,0] WB)):=
 bz Lu [true,true,true] [[0,0,0,0]] (@xB C) (by kernel_rfl) (aS (bs:=[]) (by kernel_rfl) ao) (fun ds=>by kernel_rfl) (fun i x=>by kernel_rfl) (fun i x β k=>by kernel_rfl) (fun β ds k=>by kernel_rfl)
noncomputable def WD (C:ae) (a b':Int) (af:List V):Option (List V):=
 (Loop (BY C) (a,IntKind.wrap .i64 (b'-1),af)).bind (un fun (i_5:Int)=>un fun (j_6:Int)=>un fun (np:Bool) (ahx:List V)=>
  some [.list aq ahx])
theorem ahy {a b':Int} {af:List V} {r:Option (List V)} (h:WD CC a b' af=r):CC JT [.int .i64 a,.int .i64 b',.list aq af]=r:=
 bn (key:=179) (L:=WC CC) (bs:=[.loop (ak [1,1,0,0] WB)]) (by kernel_rfl) (bd (ahw CC) ao) (Eq.trans (by kernel_rfl) h)
end Go.AM
set_option maxRecDepth 100000
set_option maxHeartbeats 4000000
namespace Go.AM.SL
open Go.AM Go.Proofs Go.Sort
def av (a b:Ed):Bool:=decide (bQ a b<0)
theorem sU (a b:Ed):(av a b=true)=(bQ a b<0):=by unfold av;rw[decide_eq_true_eq]
theorem rv (a b:Ed):((!av a b)=true)= ¬(bQ a b<0):=by unfold av;simp
abbrev eA (d:Array Ed):List V:=pM Ed.enc d
theorem ahz (a j:Nat) (d:Array Ed):insInner av a (j+1) d=if j+1>a then (if bQ d[j+1]! d[j]! <0 then insInner av a j (swp d (j+1) j) else d) else d:=by
 rw[Wa]
 by_cases h1:j+1>a
 ·rw[if_pos h1];simp only[h1,decide_true,Bool.true_and,sU]
 ·rw[if_neg h1,if_neg (by simp[h1])]
theorem MV (hi first root:Nat) (d:Array Ed):siftDown av hi first root d=
  if 2*root+1≥hi then d else
   if 2*root+2<hi then
    (if bQ d[first+(2*root+1)]! d[first+(2*root+2)]! <0 then
     (if bQ d[first+root]! d[first+(2*root+2)]! <0 then siftDown av hi first (2*root+2) (swp d (first+root) (first+(2*root+2))) else d)
    else (if bQ d[first+root]! d[first+(2*root+1)]! <0 then siftDown av hi first (2*root+1) (swp d (first+root) (first+(2*root+1))) else d))
   else (if bQ d[first+root]! d[first+(2*root+1)]! <0 then siftDown av hi first (2*root+1) (swp d (first+root) (first+(2*root+1))) else d):=by
 rw[siftDown]
 by_cases h1:2*root+1≥hi
 ·rw[dif_pos h1,if_pos h1]
 rw[dif_neg h1,if_neg h1]
 by_cases h2:2*root+2<hi
 ·rw[if_pos h2]
  by_cases h3:bQ d[first+(2*root+1)]! d[first+(2*root+2)]! <0
  ·rw[if_pos h3,if_pos (by simp only[Bool.and_eq_true,decide_eq_true_eq,sU];exact ⟨h2,h3⟩)]
   simp only[rv]
   by_cases h4:bQ d[first+root]! d[first+(2*root+2)]! <0
   ·rw[if_neg (not_not_intro h4),dif_pos h2,if_pos h4]
   ·rw[if_pos h4,if_neg h4]
  ·rw[if_neg h3,if_neg (by simp only[Bool.and_eq_true,decide_eq_true_eq,sU];exact fun h=>h3 h.2)]
   simp only[rv]
   by_cases h4:bQ d[first+root]! d[first+(2*root+1)]! <0
   ·rw[if_neg (not_not_intro h4),if_pos h4]
   ·rw[if_pos h4,if_neg h4]
 ·rw[if_neg h2,if_neg (by simp only[Bool.and_eq_true,decide_eq_true_eq,sU];exact fun h=>h2 h.1)]
  simp only[rv]
  by_cases h4:bQ d[first+root]! d[first+(2*root+1)]! <0
  ·rw[if_neg (not_not_intro h4),if_pos h4]
  ·rw[if_pos h4,if_neg h4]
theorem WE {a b i:Nat}: ∀(j:Nat) (d:Array Ed),j<d.size→d.size<1152921504606846976→
  ∃j' t,Loop (xz CC a b i) ((j:Int),eA d)=some (j',t,eA (insInner av a j d))
 | 0,d,hj,hs=>⟨(0:Nat),false,bZ (by
   simp (disch:=omega) only[xz,xy,un,az,if_neg]
   rfl)⟩
 | j+1,d,hj,hs=>by
  obtain ⟨j',t,ih⟩:=WE (a:=a) (b:=b) (i:=i) j (swp d (j+1) j) (by rw[size_swp];omega) (by rw[size_swp];omega)
  rw[ahz]
  by_cases h1:j+1>a
  ·rw[if_pos h1]
   have e:xz CC a b i (((j+1:Nat):Int),eA d)=if bQ d[j+1]! d[j]! <0 then some (.inl ((j:Int),eA (swp d (j+1) j))) else some (.inr (((j+1:Nat):Int),decide (bQ d[j+1]! d[j]! <0),eA d)):=by
    simp (disch:=omega) only[xz,xy,un,az,dB,gr,if_pos,if_neg,wrap64,dO,gg,Int.toNat_natCast,Option.bind_some,gb,gf,Ed.dr,Ed.dt,Ed.dv,Ed.re,gd,iw,Array.size_setIfInBounds,gH,V.bU,V.toInt_int,cond_true,cond_false,sQ]
    rfl
   by_cases h2:bQ d[j+1]! d[j]! <0
   ·rw[if_pos h2] at e⊢
    exact ⟨j',t,(ee e).trans ih⟩
   ·rw[if_neg h2] at e⊢
    exact ⟨_,_,bZ e⟩
  ·rw[if_neg h1]
   exact ⟨((j+1:Nat):Int),false,bZ (by
    simp (disch:=omega) only[xz,xy,un,az,if_neg])⟩
theorem ahA {a b:Nat}: ∀(n i:Nat) (d:Array Ed),b-i=n→b≤d.size→d.size<1152921504606846976→
  ∃j' t,Loop (G3 CC a b) ((i:Int),eA d)=some (j',t,eA (insOuter av a b i d)):=by
 intro n
 induction n with
 | zero=>
  intro i d hn hb hs
  rw[insOuter,if_neg (by omega)]
  exact ⟨(i:Int),false,bZ (by
   simp (disch:=omega) only[G3,BV,un,rq,cond_false])⟩
 | succ n ih=>
  intro i d hn hb hs
  obtain ⟨j1,t1,h1⟩:=WE (a:=a) (b:=b) (i:=i) i d (by omega) hs
  obtain ⟨j',t,h2⟩:=ih (i+1) (insInner av a i d) (by omega) (by rw[ML];omega) (by rw[ML];omega)
  rw[insOuter,if_pos (by omega)]
  refine ⟨j',t,(ee ?_).trans h2⟩
  simp (disch:=omega) only[G3,BV,un,az,if_pos,h1,Option.bind_some,dO,wrap64]
theorem WG {a b:Nat} {d:Array Ed} (hb:b≤d.size) (hs:d.size<1152921504606846976) (ha:a<1152921504606846976):
  CC Fk [.int .i64 (a:Int),.int .i64 (b:Int),.list aq (eA d)]=some [.list aq (eA (insertionSort av d a b))]:=by
 refine ahm ?_
 unfold Wu
 obtain ⟨j',t,h⟩:=ahA (a:=a) (b:=b) _ (a+1) d rfl hb hs
 simp (disch:=omega) only[dO,wrap64]
 rw[h]
 rfl
theorem ahB (hi first:Nat): ∀(n root:Nat) (d:Array Ed),hi-root≤n→root<1152921504606846976→first+hi≤d.size→d.size<1152921504606846976→
  (∃x y z,Loop (oT CC hi first) ((root:Int),eA d)=some (.inl (x,y,z,eA (siftDown av hi first root d))))∨
  (∃x y z,Loop (oT CC hi first) ((root:Int),eA d)=some (.inr (x,y,z,eA (siftDown av hi first root d)))):=by
 intro n
 induction n with
 | zero=>
  intro root d hn hr hb hs
  rw[MV,if_pos (by omega)]
  exact .inl ⟨(root:Int),((root*2+1:Nat):Int),true,bZ (by
   simp (disch:=omega) only[oT,sR,un,BJ,dO,wrap64];rw[nC (by omega)];rfl)⟩
 | succ n ih=>
  intro root d hn hr hb hs
  by_cases h1:2*root+1≥hi
  ·rw[MV,if_pos h1]
   exact .inl ⟨(root:Int),((root*2+1:Nat):Int),true,bZ (by
    simp (disch:=omega) only[oT,sR,un,BJ,dO,wrap64];rw[nC (by omega)];rfl)⟩
  ·have go: ∀c:Nat,c<hi→root<c→(oT CC hi first ((root:Int),eA d)=
      if bQ d[first+root]! d[first+c]! <0 then some (.inl ((c:Int),eA (swp d (first+root) (first+c)))) else some (.inr (.inr ((root:Int),(c:Int),true,eA d))))→
     siftDown av hi first root d=(if bQ d[first+root]! d[first+c]! <0 then siftDown av hi first c (swp d (first+root) (first+c)) else d)→
     ((∃x y z,Loop (oT CC hi first) ((root:Int),eA d)=some (.inl (x,y,z,eA (siftDown av hi first root d))))∨
     (∃x y z,Loop (oT CC hi first) ((root:Int),eA d)=some (.inr (x,y,z,eA (siftDown av hi first root d))))):=by
    intro c hc hrc e1 e2
    rw[e2]
    by_cases h3:bQ d[first+root]! d[first+c]! <0
    ·rw[if_pos h3] at e1
     rw[if_pos h3,ee e1]
     exact ih c _ (by omega) (by omega) (by rw[size_swp];omega) (by rw[size_swp];omega)
    ·rw[if_neg h3] at e1
     rw[if_neg h3,bZ e1]
     exact .inr ⟨_,_,_,rfl⟩
   have e0:=MV hi first root d
   rw[if_neg h1] at e0
   by_cases h2:2*root+2<hi
   ·rw[if_pos h2] at e0
    by_cases h3:bQ d[first+(2*root+1)]! d[first+(2*root+2)]! <0
    ·rw[if_pos h3] at e0
     refine go (2*root+2) (by omega) (by omega) ?_ e0
     rw[Nat.mul_comm 2 root] at h3
     simp (disch:=omega) only[oT,sR,un,BJ,dO,gg,wrap64]
     rw[az,if_neg (by omega),az,if_pos (by omega)]
     simp (disch:=omega) only[vc,az,dB,gr,if_pos,if_neg,wrap64,dO,gg,Int.toNat_natCast,Option.bind_some,gb,gf,Ed.dr,Ed.dt,Ed.dv,Ed.re,gd,iw,Array.size_setIfInBounds,gH,V.bU,V.toInt_int,cond_true,cond_false,Nat.mul_comm 2 root,nC]
     by_cases h4:bQ d[first+root]! d[first+(root*2+2)]! <0
     ·simp only[h4,if_true];rfl
     ·simp only[h4,if_false];rfl
    ·rw[if_neg h3] at e0
     refine go (2*root+1) (by omega) (by omega) ?_ e0
     rw[Nat.mul_comm 2 root] at h3
     simp (disch:=omega) only[oT,sR,un,BJ,dO,gg,wrap64]
     rw[az,if_neg (by omega),az,if_pos (by omega)]
     simp (disch:=omega) only[vc,az,dB,gr,if_pos,if_neg,wrap64,dO,gg,Int.toNat_natCast,Option.bind_some,gb,gf,Ed.dr,Ed.dt,Ed.dv,Ed.re,gd,iw,Array.size_setIfInBounds,gH,V.bU,V.toInt_int,cond_true,cond_false,Nat.mul_comm 2 root,rq]
     by_cases h4:bQ d[first+root]! d[first+(root*2+1)]! <0
     ·simp only[h4,if_true];rfl
     ·simp only[h4,if_false];rfl
   ·rw[if_neg h2] at e0
    refine go (2*root+1) (by omega) (by omega) ?_ e0
    simp (disch:=omega) only[oT,sR,un,BJ,dO,gg,wrap64]
    rw[az,if_neg (by omega),az,if_neg (by omega)]
    simp (disch:=omega) only[vc,az,dB,gr,if_pos,if_neg,wrap64,dO,gg,Int.toNat_natCast,Option.bind_some,gb,gf,Ed.dr,Ed.dt,Ed.dv,Ed.re,gd,iw,Array.size_setIfInBounds,gH,V.bU,V.toInt_int,cond_true,cond_false,Nat.mul_comm 2 root]
    by_cases h4:bQ d[first+root]! d[first+(root*2+1)]! <0
    ·simp only[h4,if_true];rfl
    ·simp only[h4,if_false];rfl
theorem WH {lo hi first:Nat} {d:Array Ed} (hl:lo<1152921504606846976) (hb:first+hi≤d.size) (hs:d.size<1152921504606846976):
  CC Fp [.int .i64 (lo:Int),.int .i64 (hi:Int),.int .i64 (first:Int),.list aq (eA d)]=some [.list aq (eA (siftDown av hi first lo d))]:=by
 refine ahq ?_
 unfold Wx
 rcases ahB hi first _ lo d (Nat.le_refl _) hl hb hs with ⟨x,y,z,h⟩|⟨x,y,z,h⟩
 ·rw[h];rfl
 ·rw[h];rfl
theorem WI {hi first:Nat}: ∀(k:Nat) (d:Array Ed),k<1152921504606846976→first+hi≤d.size→d.size<1152921504606846976→
  ∃x y,Loop (G5 CC first 0 hi) ((k:Int)-1,eA d)=some (x,y,eA (heapBuild av hi first k d))
 | 0,d,hk,hb,hs=>⟨-1,false,bZ (by
   simp (disch:=omega) only[G5,BW,un,az,if_neg]
   rfl)⟩
 | k+1,d,hk,hb,hs=>by
  obtain ⟨x,y,ih⟩:=WI (hi:=hi) (first:=first) k (siftDown av hi first k d) (by omega) (by rw[BK _ _ _ _ _ (Nat.le_refl _)];omega) (by rw[BK _ _ _ _ _ (Nat.le_refl _)];omega)
  refine ⟨x,y,(ee ?_).trans ih⟩
  simp (disch:=omega) only[G5,BW,un,az,if_pos,sQ,WH,Option.bind_some,V.bU,V.nc,wrap64]
theorem WJ {first:Nat}: ∀(k:Nat) (d:Array Ed),k<1152921504606846976→first+k≤d.size→d.size<1152921504606846976→
  ∃x y,Loop (G6 CC first 0) ((k:Int)-1,eA d)=some (x,y,eA (heapPop av first k d))
 | 0,d,hk,hb,hs=>⟨-1,false,bZ (by
   simp (disch:=omega) only[G6,BX,un,az,if_neg]
   rfl)⟩
 | k+1,d,hk,hb,hs=>by
  obtain ⟨x,y,ih⟩:=WJ (first:=first) k (siftDown av k first 0 (swp d first (first+k))) (by omega) (by rw[BK _ _ _ _ _ (Nat.le_refl _),size_swp];omega) (by rw[BK _ _ _ _ _ (Nat.le_refl _),size_swp];omega)
  refine ⟨x,y,(ee ?_).trans ih⟩
  have kE:=WH (lo:=0) (hi:=k) (first:=first) (d:=swp d first (first+k)) (by omega) (by rw[size_swp];omega) (by rw[size_swp];omega)
  unfold swp at kE⊢
  rw[show ((0:Nat):Int)=0 from rfl] at kE
  simp (disch:=omega) only[G6,BX,un,sQ,az,dB,gr,if_pos,if_neg,wrap64,dO,gg,Int.toNat_natCast,Option.bind_some,gb,gf,Ed.dr,Ed.dt,Ed.dv,Ed.re,gd,iw,Array.size_setIfInBounds,gH,V.bU,V.toInt_int,cond_true,cond_false]
  rw[kE]
  simp (disch:=omega) only[Option.bind_some,V.bU,V.nc,wrap64]
theorem ahC {a b:Nat} {d:Array Ed} (fU:a<b) (hb:b≤d.size) (hs:d.size<1152921504606846976):
  CC Fl [.int .i64 (a:Int),.int .i64 (b:Int),.list aq (eA d)]=some [.list aq (eA (heapSort av d a b))]:=by
 refine ahu ?_
 unfold WA
 obtain ⟨x,y,h1⟩:=WI (hi:=b-a) (first:=a) ((b-a-1)/2+1) d (by omega) (by omega) hs
 obtain ⟨x2,y2,h2⟩:=WJ (first:=a) (b-a) (heapBuild av (b-a) a ((b-a-1)/2+1) d) (by omega) (by rw[MM];omega) (by rw[MM];omega)
 have e1:((((b-a-1)/2+1:Nat):Int)-1)=Int.tdiv (((b-a:Nat):Int)-1) 2:=by
  rw[Int.tdiv_eq_ediv_of_nonneg (by omega)]
  omega
 rw[e1] at h1
 simp (disch:=omega) only[mD,wrap64]
 rw[h1]
 simp only[Option.bind_some,un]
 rw[h2]
 rfl
theorem ahD: ∀(n i j:Nat) (d:Array Ed),j-i≤n→j<d.size→d.size<1152921504606846976→
  ∃x y z,Loop (BY CC) ((i:Int),(j:Int),eA d)=some (x,y,z,eA (reverseLoop i j d)):=by
 intro n
 induction n with
 | zero=>
  intro i j d hn hj hs
  rw[reverseLoop,if_neg (by omega)]
  exact ⟨(i:Int),(j:Int),false,bZ (by
   simp (disch:=omega) only[BY,xB,un,rq,cond_false])⟩
 | succ n ih=>
  intro i j d hn hj hs
  rw[reverseLoop]
  by_cases h:i<j
  ·rw[if_pos h]
   obtain ⟨x,y,z,h2⟩:=ih (i+1) (j-1) (swp d i j) (by omega) (by rw[size_swp];omega) (by rw[size_swp];omega)
   refine ⟨x,y,z,(ee ?_).trans h2⟩
   simp (disch:=omega) only[BY,xB,un,az,dB,gr,if_pos,if_neg,wrap64,dO,gg,Int.toNat_natCast,Option.bind_some,gb,gf,Ed.dr,Ed.dt,Ed.dv,Ed.re,gd,iw,Array.size_setIfInBounds,gH,V.bU,V.toInt_int,cond_true,cond_false,jH]
   rfl
  ·rw[if_neg h]
   exact ⟨(i:Int),(j:Int),false,bZ (by
    simp (disch:=omega) only[BY,xB,un,rq,cond_false])⟩
theorem ahE {a b:Nat} {d:Array Ed} (fU:a<b) (hb:b≤d.size) (hs:d.size<1152921504606846976):
  CC JT [.int .i64 (a:Int),.int .i64 (b:Int),.list aq (eA d)]=some [.list aq (eA (reverseRange d a b))]:=by
 refine ahy ?_
 unfold WD
 obtain ⟨x,y,z,h⟩:=ahD _ a (b-1) d (Nat.le_refl _) (by omega) hs
 simp (disch:=omega) only[jH,wrap64]
 rw[h]
 rfl
end Go.AM.SL
