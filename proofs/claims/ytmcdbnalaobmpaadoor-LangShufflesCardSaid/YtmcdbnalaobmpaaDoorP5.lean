/-
  Functions of uC program, lifted to plain data.
-/
import Derived.Sort.AssemblyPlain
import Derived.Test.YtmcdbnalaobmpaaDoorP4
set_option linter.unusedVariables false
set_option linter.unusedSimpArgs false
set_option maxRecDepth 100000
set_option linter.unusedSimpArgs false
namespace Go.AM
open Go.Proofs
abbrev iV (n:Int):V:= .int .i64 n
def kj (r:List Int):V:= .list ah (r.map iV)
@[simp] theorem RE (r:List Int):(kj r).toList=r.map iV:=by simp[kj]
structure Df where
 L:Int
 st:Int
 F:List Bool
 N:List (List Int)
def iX (d:Df) (l:List V):List V:= .int .i64 d.L:: .int .i64 d.st:: .list ab (d.F.map V.bool):: .list aa (d.N.map kj)::l
namespace Df
structure Ok (d:Df):Prop where
 L1: -9223372036854775808≤d.L
 L2:d.L≤9223372036854775807
 s1: -9223372036854775808≤d.st
 s2:d.st≤9223372036854775807
 F:d.F.length≤maxLen
 N:d.N.length≤maxLen
 row: ∀r∈d.N,r.length≤maxLen∧∀q∈r,-9223372036854775808≤q∧q≤9223372036854775807
def gG (d:Df) (r:List Int) (i:Nat):Prop:=0≤r.getD i 0∧r.getD i 0<d.F.length
instance (d:Df) (r:List Int):DecidablePred (d.gG r):=fun i=>by unfold gG;infer_instance
def km (d:Df) (q:Nat):Prop:=((d.N.getD q []).length:Int)=d.L∧∀i,i<(d.N.getD q []).length→d.gG (d.N.getD q []) i
instance (d:Df):DecidablePred d.km:=fun i=>by unfold km;infer_instance
def val (d:Df):Int:=
 if d.L<1∨6<d.L then 1
 else if 512<d.F.length then 3
 else if d.N.length≠d.F.length∨d.st<0∨(d.F.length:Int)≤d.st then 4
 else if∀q,q<d.N.length→d.km q then 0 else 4
end Df
theorem EO {α:Type} {f:α→V} {l:List α} {i:Nat} {z:α} (h:i<l.length):idx (l.map f) (i:Int)=some (f (l.getD i z)):=by
 rw[Zo rfl h];simp[h]
section
variable {d:Df} (hd:d.Ok)
include hd
theorem RF {q:Nat} (h:q<d.N.length):(d.N.getD q []).length≤maxLen:=by
 rw[show d.N.getD q []=d.N[q] by simp[h]]
 exact (hd.row _ (List.getElem_mem h)).1
theorem abz {q:Nat} (hq:q<d.N.length) {t38:List V} {t39:Int} {a b:Int} {l1 l2:List V}:
  Loop (EJ CC (d.F.length:Int) t38 t39 (q:Int) ((d.N.getD q []).map iV) (((d.N.getD q []).map iV).length:Int) a b l1 l2) 0=
   some (if∀i,i<(d.N.getD q []).length→d.gG (d.N.getD q []) i then .inr (((d.N.getD q []).length:Int),false) else .inl 4):=by
 have hl:=RF hd hq
 have hm:=rM
 generalize d.N.getD q []=r at*
 refine rN (d.gG r) r.length (fun i=>(i:Int)) (.inl 4:Int ⊕ (Int × Bool)) (.inr ((r.length:Int),false)) (fun i hi=> ?_) ?_
 ·simp only[EJ,zG,List.length_map,aA]
  rw[if_pos (by omega),EO (z:=0) hi]
  simp only[Option.bind_some,V.toInt_int]
  by_cases h1:r.getD i 0<0
  ·rw[if_pos h1,if_neg (show¬d.gG r i from fun h=>by unfold Df.gG at h;omega)]
  ·rw[if_neg h1]
   by_cases h2:r.getD i 0≥(d.F.length:Int)
   ·rw[if_pos h2,if_neg (show¬d.gG r i from fun h=>by unfold Df.gG at h;omega)]
   ·rw[if_neg h2,if_pos (show d.gG r i from ⟨by omega,by omega⟩),wrap64 (by omega) (by omega)];rfl
 ·simp only[EJ,zG,List.length_map,aA]
  rw[if_neg (by omega),decide_eq_false (by omega)]
theorem abA {a b:Int} {l1 l2:List V}:
  Loop (EK CC (d.F.length:Int) (d.N.map kj) ((d.N.map kj).length:Int) d.L b l1 l2) 0=
   some (if∀q,q<d.N.length→d.km q then .inr ((d.N.length:Int),false) else .inl 4):=by
 have hm:=rM
 have hN:=hd.N
 refine rN d.km d.N.length (fun i=>(i:Int)) (.inl 4:Int ⊕ (Int × Bool)) (.inr ((d.N.length:Int),false)) (fun q hq=> ?_) ?_
 ·simp only[EK,zH,List.length_map,aA]
  rw[if_pos (by omega),EO (z:=[]) hq]
  simp only[Option.bind_some,RE,List.length_map,oU]
  have:=abz hd hq (t38:=d.N.map kj) (t39:=(d.N.length:Int)) (a:=d.L) (b:=b) (l1:=l1) (l2:=l2)
  rw[List.length_map] at this
  by_cases h1:((d.N.getD q []).length:Int)=d.L
  ·rw[if_pos h1]
   refine bs this ?_
   by_cases h2: ∀i,i<(d.N.getD q []).length→d.gG (d.N.getD q []) i
   ·rw[if_pos h2,if_pos (show d.km q from ⟨h1,h2⟩)]
    simp only[cZ,un]
    rw[wrap64 (by omega) (by omega)];rfl
   ·rw[if_neg h2,if_neg (show¬d.km q from fun h=>h2 h.2)];rfl
  ·rw[if_neg h1,if_neg (show¬d.km q from fun h=>h1 h.1)]
 ·simp only[EK,zH,List.length_map,aA]
  rw[if_neg (by omega),decide_eq_false (by omega)]
theorem KG:CC nX (iX d [])=some [.int .i64 d.val]:=by
 refine abv ?_
 unfold RA Df.val
 simp only[List.length_map,aA,oU]
 have h:=abA hd (a:=0) (b:=d.st) (l1:=d.F.map V.bool) (l2:=d.N.map kj)
 rw[List.length_map] at h
 by_cases h1:d.L<1
 ·rw[if_pos h1,if_pos (.inl h1)]
 rw[if_neg h1]
 by_cases h2:d.L>6
 ·rw[if_pos h2,if_pos (.inr h2)]
 rw[if_neg h2,if_neg (show¬(d.L<1∨6<d.L) by omega)]
 by_cases h3:512<d.F.length
 ·rw[if_pos (show (d.F.length:Int)>512 by omega),if_pos h3]
 rw[if_neg (show¬(d.F.length:Int)>512 by omega),if_neg h3]
 by_cases h4:d.N.length=d.F.length
 ·rw[if_pos (show (d.N.length:Int)=(d.F.length:Int) by omega)]
  by_cases h5:d.st<0
  ·rw[if_pos h5,if_pos (.inr (.inl h5))]
  rw[if_neg h5]
  by_cases h6:d.st≥(d.F.length:Int)
  ·rw[if_pos h6,if_pos (.inr (.inr h6))]
  rw[if_neg h6,if_neg (show¬(d.N.length≠d.F.length∨d.st<0∨(d.F.length:Int)≤d.st) by omega)]
  refine bs h ?_
  split<;>rfl
 ·rw[if_neg (show¬(d.N.length:Int)=(d.F.length:Int) by omega),if_pos (.inl h4)]
theorem abB {q:Nat} (hq:q<d.N.length) {t38:List V} {t39:Int} {a b:Int} {l1 l2:List V}:
  Loop (EM CC (d.F.length:Int) t38 t39 (q:Int) ((d.N.getD q []).map iV) (((d.N.getD q []).map iV).length:Int) a b l1 l2) 0=
   some (if∀i,i<(d.N.getD q []).length→d.gG (d.N.getD q []) i then .inr (((d.N.getD q []).length:Int),false) else .inl 4):=by
 have hl:=RF hd hq
 have hm:=rM
 generalize d.N.getD q []=r at*
 refine rN (d.gG r) r.length (fun i=>(i:Int)) (.inl 4:Int ⊕ (Int × Bool)) (.inr ((r.length:Int),false)) (fun i hi=> ?_) ?_
 ·simp only[EM,zI,List.length_map,aA]
  rw[if_pos (by omega),EO (z:=0) hi]
  simp only[Option.bind_some,V.toInt_int]
  by_cases h1:r.getD i 0<0
  ·rw[if_pos h1,if_neg (show¬d.gG r i from fun h=>by unfold Df.gG at h;omega)]
  ·rw[if_neg h1]
   by_cases h2:r.getD i 0≥(d.F.length:Int)
   ·rw[if_pos h2,if_neg (show¬d.gG r i from fun h=>by unfold Df.gG at h;omega)]
   ·rw[if_neg h2,if_pos (show d.gG r i from ⟨by omega,by omega⟩),wrap64 (by omega) (by omega)];rfl
 ·simp only[EM,zI,List.length_map,aA]
  rw[if_neg (by omega),decide_eq_false (by omega)]
theorem abC {b:Int} {l1 l2:List V}:
  Loop (EN CC (d.F.length:Int) (d.N.map kj) ((d.N.map kj).length:Int) d.L b l1 l2) 0=
   some (if∀q,q<d.N.length→d.km q then .inr ((d.N.length:Int),false) else .inl 4):=by
 have hm:=rM
 have hN:=hd.N
 refine rN d.km d.N.length (fun i=>(i:Int)) (.inl 4:Int ⊕ (Int × Bool)) (.inr ((d.N.length:Int),false)) (fun q hq=> ?_) ?_
 ·simp only[EN,zJ,List.length_map,aA]
  rw[if_pos (by omega),EO (z:=[]) hq]
  simp only[Option.bind_some,RE,List.length_map,oU]
  have:=abB hd hq (t38:=d.N.map kj) (t39:=(d.N.length:Int)) (a:=d.L) (b:=b) (l1:=l1) (l2:=l2)
  rw[List.length_map] at this
  by_cases h1:((d.N.getD q []).length:Int)=d.L
  ·rw[if_pos h1]
   refine bs this ?_
   by_cases h2: ∀i,i<(d.N.getD q []).length→d.gG (d.N.getD q []) i
   ·rw[if_pos h2,if_pos (show d.km q from ⟨h1,h2⟩)]
    simp only[cZ,un]
    rw[wrap64 (by omega) (by omega)];rfl
   ·rw[if_neg h2,if_neg (show¬d.km q from fun h=>h2 h.2)];rfl
  ·rw[if_neg h1,if_neg (show¬d.km q from fun h=>h1 h.1)]
 ·simp only[EN,zJ,List.length_map,aA]
  rw[if_neg (by omega),decide_eq_false (by omega)]
theorem RG:CC yJ (iX d [])=some [.int .i64 d.val]:=by
 refine aby ?_
 unfold RD Df.val
 refine bs (Qq d.L) ?_
 simp only[List.length_map,aA,oU,mI,V.bQ,V.jL,gb]
 have h:=abC hd (b:=d.st) (l1:=d.F.map V.bool) (l2:=d.N.map kj)
 rw[List.length_map] at h
 by_cases h1:d.L<1∨6<d.L
 ·rw[if_pos h1,if_neg (show¬(1≤d.L∧d.L≤6) by omega)]
 rw[if_neg h1,if_pos (show 1≤d.L∧d.L≤6 by omega)]
 by_cases h3:512<d.F.length
 ·rw[if_pos (show (d.F.length:Int)>512 by omega),if_pos h3]
 rw[if_neg (show¬(d.F.length:Int)>512 by omega),if_neg h3]
 by_cases h0:d.F.length=0
 ·rw[if_pos (show (d.F.length:Int)=0 by omega),if_pos (by omega)]
 rw[if_neg (show¬(d.F.length:Int)=0 by omega)]
 by_cases h4:d.N.length=d.F.length
 ·rw[if_pos (show (d.N.length:Int)=(d.F.length:Int) by omega)]
  by_cases h5:d.st<0
  ·rw[if_pos h5,if_pos (.inr (.inl h5))]
  rw[if_neg h5]
  by_cases h6:d.st≥(d.F.length:Int)
  ·rw[if_pos h6,if_pos (.inr (.inr h6))]
  rw[if_neg h6,if_neg (show¬(d.N.length≠d.F.length∨d.st<0∨(d.F.length:Int)≤d.st) by omega)]
  refine bs h ?_
  split<;>rfl
 ·rw[if_neg (show¬(d.N.length:Int)=(d.F.length:Int) by omega),if_pos (.inl h4)]
end
def n8 (r:List Nat):List Int:=r.map fun q:Nat=>(q:Int)
theorem RH (r:List Nat) (i:Nat):(n8 r).getD i 0=((r.getD i 0:Nat):Int):=by
 unfold n8
 by_cases h:i<r.length
 ·rw[fL h,fL (by simpa using h)];simp
 ·simp[List.getElem?_eq_none (Nat.le_of_not_lt h)]
def Da.df (a:Da):Df:=⟨a.L,a.st,a.F,a.N.map n8⟩
theorem RI {d:Df} (h:d.val=0): ∃a:Da,a.Ok∧d=a.df:=by
 unfold Df.val at h
 split at h
 ·omega
 rename_i h1
 split at h
 ·omega
 rename_i h2
 split at h
 ·omega
 rename_i h3
 split at h
 case isFalse=>omega
 rename_i h4
 have hr: ∀r∈d.N,(r.length:Int)=d.L∧∀q∈r,0≤q∧q<d.F.length:=fun r hr=>by
  obtain ⟨i,hi,rfl⟩:=List.getElem_of_mem hr
  have:=h4 i hi
  unfold Df.km at this
  rw[show d.N.getD i []=d.N[i] by simp[hi]] at this
  refine ⟨this.1,fun q hq=> ?_⟩
  obtain ⟨j,hj,rfl⟩:=List.getElem_of_mem hq
  have h5:=this.2 j hj
  unfold Df.gG at h5
  rwa [show d.N[i].getD j 0=d.N[i][j] by simp[hj]] at h5
 refine ⟨⟨d.L.toNat,d.st.toNat,d.F,d.N.map fun r=>r.map Int.toNat⟩,⟨by simp only;omega,by simp only;omega,by simp only[Da.n,List.length_map];omega,?_,by simp only[Da.n];omega,by simp only[Da.n];omega⟩,?_⟩
 ·intro r nM
  obtain ⟨r,hr3,rfl⟩:=List.mem_map.1 nM
  have:=hr r hr3
  refine ⟨by simp only[List.length_map];omega,fun q hq=> ?_⟩
  obtain ⟨q,oJ,rfl⟩:=List.mem_map.1 hq
  have:=this.2 q oJ
  simp only[Da.n]
  omega
 ·obtain ⟨L,st,F,N⟩:=d
  simp only[Da.df] at*
  have e1:L=(L.toNat:Int):=by omega
  have e2:st=(st.toNat:Int):=by omega
  rw[←e1,←e2]
  congr 1
  rw[List.map_map]
  calc N=N.map id:=(List.map_id N).symm
   _=_:=List.map_congr_left fun r h=>by
    have:=(hr r h).2
    simp only[Function.comp,n8,List.map_map,id]
    calc r=r.map id:=(List.map_id r).symm
     _=_:=List.map_congr_left fun q hq=>by
      have:=this q hq
      simp only[Function.comp,id];omega
theorem Da.Ok.abD {a:Da} (h:a.Ok):a.df.Ok:=by
 have h1:=h.l6
 have h2:=h.s
 have h3:=h.eh
 have h4:=h.nN
 unfold Da.n at*
 refine ⟨by simp only[Da.df];omega,by simp only[Da.df];omega,by simp only[Da.df];omega,by simp only[Da.df];omega,by simp only[Da.df];unfold maxLen;omega,by simp only[Da.df,List.length_map];unfold maxLen;omega,fun r hr=> ?_⟩
 obtain ⟨r,nM,rfl⟩:=List.mem_map.1 hr
 have:=h.row r nM
 refine ⟨by simp only[n8,List.length_map];unfold maxLen;omega,fun q hq=> ?_⟩
 obtain ⟨q,oJ,rfl⟩:=List.mem_map.1 hq
 have:=this.2 q oJ
 unfold Da.n at this
 omega
theorem Da.Ok.val {a:Da} (h:a.Ok):a.df.val=0:=by
 have h0:=h.l1
 have h1:=h.l6
 have h2:=h.s
 have h3:=h.eh
 have h4:=h.nN
 unfold Da.n at*
 unfold Df.val
 rw[if_neg (by simp only[Da.df];omega),if_neg (by simp only[Da.df];omega),if_neg (by simp only[Da.df,List.length_map];omega),if_pos]
 intro q hq
 simp only[Da.df,List.length_map] at hq
 have e:a.df.N.getD q []=n8 (a.N.getD q []):=by simp[Da.df,hq]
 have hr:=h.row (a.N.getD q []) (by rw[show a.N.getD q []=a.N[q] by simp[hq]];exact List.getElem_mem hq)
 unfold Df.km
 rw[e]
 refine ⟨by simp only[n8,List.length_map,Da.df];omega,fun i hi=> ?_⟩
 rw[n8,List.length_map] at hi
 have:=hr.2 ((a.N.getD q [])[i]) (List.getElem_mem hi)
 unfold Df.gG
 rw[RH,fL hi]
 simp only[Da.df]
 unfold Da.n at this
 omega
end Go.AM
set_option maxRecDepth 100000
set_option linter.unusedSimpArgs false
namespace Go.AM
open Go.Proofs
def tab {α:Type} (n:Nat) (g:Nat→α):List α:=(List.range n).map g
section
variable {α β:Type} {n i:Nat} {g h:Nat→α}
@[simp] theorem dQ:(tab n g).length=n:=by simp[tab]
theorem KH (hi:i<n):(tab n g)[i]? =some (g i):=by simp[tab,hi]
theorem vW (hi:i<n) {z:α}:(tab n g).getD i z=g i:=by simp[tab,hi]
theorem KI (hi:i<(tab n g).length):(tab n g)[i]=g i:=by simp[tab]
theorem eo (e: ∀j,j<n→g j=h j):tab n g=tab n h:=List.map_congr_left fun j hj=>e j (List.mem_range.1 hj)
theorem mQ {v:α}:(tab n g).set i v=tab n fun j=>if j=i then v else g j:=by
 refine List.ext_getElem (by simp) fun j h1 h2=> ?_
 rw[List.getElem_set,KI,KI]
 simp only[eq_comm]
theorem abE:tab n g++[g n]=tab (n+1) g:=by simp[tab,List.range_succ]
theorem ko:tab (n+1) g=tab n g++[g n]:=abE.symm
theorem RJ:tab 0 g=[]:=rfl
theorem mR {v:α}:List.replicate n v=tab n fun _=>v:=by simp[tab,List.map_const']
theorem abF {f:α→β}:(tab n g).map f=tab n fun i=>f (g i):=by simp[tab,Function.comp]
theorem abG (l:List α) (z:α):l=tab l.length fun i=>l.getD i z:=by
 refine List.ext_getElem (by simp) fun j h1 h2=> ?_
 rw[KI];simp[h1]
theorem zK (l:List α) (z:α) {f:α→β}:l.map f=tab l.length fun i=>f (l.getD i z):=by
 rw[←abF,←abG]
theorem zL {a:α}:a∈tab n g↔∃i,i<n∧g i=a:=by simp[tab]
end
section
variable {γ:Type} {n i:Nat} {g:Nat→V}
theorem n9 (hi:i<n):idx (tab n g) (i:Int)=some (g i):=by rw[Ip rfl,KH hi]
theorem dE (hi:i<n) {K:V→Option γ}:(bif (decide (0≤(i:Int)))&&(decide ((i:Int)<((tab n g).length:Int))) then ((tab n g)[((i:Int)).toNat]?).bind K else none)=K (g i):=by
 rw[Int.toNat_natCast,KH hi,Bool.and_eq_true_iff.2 ⟨decide_eq_true (by omega),decide_eq_true (by rw[dQ];omega)⟩]
 rfl
theorem oa {es:List V} {v:V} (hi:es[i]? =some v) {K:V→Option γ}:(bif (decide (0≤(i:Int)))&&(decide ((i:Int)<(es.length:Int))) then (es[((i:Int)).toNat]?).bind K else none)=K v:=by
 have hl:i<es.length:=by
  rcases Nat.lt_or_ge i es.length with h|h
  ·exact h
  ·rw[List.getElem?_eq_none h] at hi;cases hi
 rw[Int.toNat_natCast,hi,Bool.and_eq_true_iff.2 ⟨decide_eq_true (by omega),decide_eq_true (by omega)⟩]
 rfl
theorem abH {m:Nat} (hi:i<m):((decide (0≤(i:Int)))&&(decide ((i:Int)<(m:Int))))=true:=Bool.and_eq_true_iff.2 ⟨decide_eq_true (by omega),decide_eq_true (by omega)⟩
end
theorem cap {a b m:Nat} (h:a+b≤10000000) (hm:m≤1000):Nat.ble ((a+b)*m) bB=true:=by
 rw[Nat.ble_eq,vQ]
 have:=Nat.mul_le_mul h hm
 omega
theorem lT {n m:Nat} (h:n≤10000000) (hm:m≤1000):((decide (0≤(n:Int)))&&((decide ((n:Int)≤(n:Int)))&&(Nat.ble (((n:Int).toNat)*m) bB)))=true:=by
 have h2:=Nat.mul_le_mul h hm
 rw[Int.toNat_natCast]
 refine Bool.and_eq_true_iff.2 ⟨decide_eq_true (by omega),Bool.and_eq_true_iff.2 ⟨decide_eq_true (by omega),?_⟩⟩
 rw[Nat.ble_eq,vQ]
 omega
theorem cu {i:Nat} (h:i≤1000000000):IntKind.wrap .i64 ((i:Int)+1)=((i+1:Nat):Int):=by rw[wrap64 (by omega) (by omega)];omega
theorem dp {i n:Nat} (h:i<n):decide ((i:Int)<(n:Int))=true:=decide_eq_true (by omega)
theorem bt {i n:Nat} (h:n≤i):decide ((i:Int)<(n:Int))=false:=decide_eq_false (by omega)
section
variable {X R:Type} {step:X→Option (X ⊕ R)}
theorem ez (n:Nat) (s:Nat→X) (r:R) (h: ∀i,i<n→step (s i)=some (.inl (s (i+1)))) (he:step (s n)=some (.inr r)):Loop step (s 0)=some r:=yF s n h he
theorem zM (P:Nat→X→Prop) (Q:R→Prop): ∀(n k:Nat) (x:X),(∀i,k≤i→i<k+n→∀x,P i x→∃y,step x=some (.inl y)∧P (i+1) y)→(∀x,P (k+n) x→∃r,step x=some (.inr r)∧Q r)→P k x→∃r,Loop step x=some r∧Q r
 | 0,k,x,_,he,hx=>by
  obtain ⟨r,h1,h2⟩:=he x hx
  exact ⟨r,bS h1,h2⟩
 | n+1,k,x,h,he,hx=>by
  obtain ⟨y,h1,h2⟩:=h k (Nat.le_refl _) (by omega) x hx
  obtain ⟨r,h3,h4⟩:=zM P Q n (k+1) y (fun i hi hn=>h i (by omega) (by omega)) (by rw[show k+1+n=k+(n+1) by omega];exact he) h2
  exact ⟨r,(dV h1).trans h3,h4⟩
end
end Go.AM
set_option maxRecDepth 100000
namespace Go.AM
open Go.Proofs
noncomputable abbrev RK:Code:=cC Tryd.prog (aw.aW 57)
noncomputable def zN (C:af) (w:List UInt8) (bR t18 t19:Int) {β:Type} (kn:Int→Option β) (kr:((Bool) ⊕ (Int × Bool))→Option β):Option β:=
 bif decide ((t19:Int)<t18) then
  (bif decide (0≤t19) then (w[(t19:Int).toNat]?).map fun b=>V.int .u8 b.toNat else none).bind fun x1=>
  bif decide ((x1.toInt:Int)<97) then
  kr (.inl false)
  else
  (bif decide (0≤t19) then (w[(t19:Int).toNat]?).map fun b=>V.int .u8 b.toNat else none).bind fun x2=>
  bif decide (((IntKind.wrap .i64 (IntKind.wrap .u8 (x2.toInt-97))):Int)≥bR) then
   kr (.inl false)
  else
   kn (IntKind.wrap .i64 (t19+1))
 else
  kr (.inr (t19,decide ((t19:Int)<t18)))
noncomputable def EP (C:af) (w:List UInt8) (bR t18:Int):(Int)→Option ((Int) ⊕ ((Bool) ⊕ (Int × Bool))):=fun t19=>zN C w bR t18 t19 (fun y=>some (.inl y)) (fun r=>some (.inr r))
noncomputable def RL (C:af):cq:=fun β n ds k=>
 bif Nat.beq n 65 then bu I6 [false,false,false,true] [[0],[1,2,3,0,0]] (@zN C) ds k else
 none
abbrev abI (C:af) (b:ch):Prop:=cj Tryd.prog aw C (RL C) 57 (cJ Tryd.prog (aw.aW 57)) (aw.sin 57).a8.length b
theorem abJ (C:af):abI C (.loop (ar [1,1,0,1,0,0] RK)):=
 bz I6 [false,false,false,true] [[0],[1,2,3,0,0]] (@zN C) (by kernel_rfl) (aS (bs:=[]) (by kernel_rfl) av) (fun ds=>by kernel_rfl) (fun i x=>by kernel_rfl) (fun i x β k=>by kernel_rfl) (fun β ds k=>by kernel_rfl)
noncomputable def RM (C:af) (w:List UInt8) (bR:Int):Option (List V):=
 bif decide ((bR:Int)<1) then
  some [.bool false]
 else
  bif decide ((bR:Int)>6) then
  some [.bool false]
  else
  bif decide (((w.length:Int):Int)>2048) then
   some [.bool false]
  else
   (Loop (EP C w bR (w.length:Int)) 0).bind (cZ (fun (jO:Bool)=>
    some [.bool jO]) (un fun (jP:Int) (lP:Bool)=>
    some [.bool true]))
theorem abK {w:List UInt8} {bR:Int} {r:Option (List V)} (h:RM CC w bR=r):CC DR [.str w,.int .i64 bR]=r:=
 bn (key:=57) (L:=RL CC) (bs:=[.loop (ar [1,1,0,1,0,0] RK)]) (by kernel_rfl) (bf (abJ CC) av) (Eq.trans (by kernel_rfl) h)
end Go.AM
set_option maxRecDepth 100000
set_option linter.unusedSimpArgs false
namespace Go.AM
open Go.Proofs
def gZ (w:List UInt8) (i:Nat):Int:=((w.getD i 0).toNat:Int)-97
def oc (w:List UInt8) (L:Int):Prop:=1≤L∧L≤6∧w.length≤2048∧∀i,i<w.length→0≤gZ w i∧gZ w i<L
instance (w:List UInt8) (L:Int):Decidable (oc w L):=by unfold oc;infer_instance
theorem RN {w:List UInt8} {i:Nat} (h:i<w.length):(bif decide (0≤(i:Int)) then (w[((i:Nat):Int).toNat]?).map (fun b=>V.int .u8 b.toNat) else none)=some (.int .u8 ((w.getD i 0).toNat:Int)):=by
 rw[aA,if_pos (by omega),Int.toNat_natCast]
 simp[h]
theorem RO (b:UInt8):b.toNat<256:=b.toNat_lt
theorem RP {w:List UInt8} {i:Nat} (h:0≤gZ w i):IntKind.wrap .u8 (((w.getD i 0).toNat:Int)-97)=gZ w i:=by
 have:=RO (w.getD i 0)
 unfold gZ at*
 exact Io h (by omega)
theorem abL {w:List UInt8} {i:Nat}:gZ w i<256:=by
 have:=RO (w.getD i 0)
 unfold gZ
 omega
theorem abM {w:List UInt8} {L:Int} (hl:w.length≤2048):Loop (EP CC w L (w.length:Int)) 0=some (if∀i,i<w.length→0≤gZ w i∧gZ w i<L then .inr ((w.length:Int),false) else .inl false):=by
 refine rN (good:=fun i=>0≤gZ w i∧gZ w i<L) w.length (fun i=>(i:Int)) (Sum.inl false:Bool ⊕ (Int × Bool)) (Sum.inr ((w.length:Int),false)) (fun i hi=> ?_) ?_
 ·simp only[EP,zN,un]
  rw[aA,if_pos (by omega),RN hi]
  simp only[Option.bind_some,V.toInt_int,aA]
  by_cases h1:0≤gZ w i
  ·have kG:=h1
   unfold gZ at kG
   rw[if_neg (by omega),RP h1,wrap64 (by omega) (by have:= @abL w i;omega)]
   by_cases h2:gZ w i<L
   ·rw[if_neg (by omega),if_pos ⟨h1,h2⟩,wrap64 (by omega) (by omega)]
    simp
   ·rw[if_pos (by omega),if_neg (fun h=>h2 h.2)]
  ·have kG:=h1
   unfold gZ at kG
   rw[if_pos (by omega),if_neg (fun h=>h1 h.1)]
 ·simp only[EP,zN,un]
  rw[aA,if_neg (by omega)]
  simp
theorem abN (w:List UInt8) (L:Int):CC DR [.str w,.int .i64 L]=some [.bool (decide (oc w L))]:=by
 refine abK ?_
 unfold RM
 simp only[aA]
 by_cases h1:L<1
 ·rw[if_pos h1,decide_eq_false (fun h=>by have:=h.1;omega)]
 rw[if_neg h1]
 by_cases h2:L>6
 ·rw[if_pos h2,decide_eq_false (fun h=>by have:=h.2.1;omega)]
 rw[if_neg h2]
 by_cases h3:(w.length:Int)>2048
 ·rw[if_pos h3,decide_eq_false (fun h=>by have:=h.2.2.1;omega)]
 rw[if_neg h3,abM (by omega)]
 by_cases h4: ∀i,i<w.length→0≤gZ w i∧gZ w i<L
 ·rw[if_pos h4,decide_eq_true (show oc w L from ⟨by omega,by omega,by omega,h4⟩)]
  simp[cZ,un]
 ·rw[if_neg h4,decide_eq_false (fun h=>h4 h.2.2.2)]
  simp[cZ,un]
end Go.AM
set_option maxRecDepth 100000
namespace Go.AM
open Go.Proofs
noncomputable abbrev RQ:Code:=cC Tryd.prog (aw.aW 58)
noncomputable def zO (C:af) (w:List UInt8) (t30 aQ ba:Int) (bp bj:List V) (state t31:Int) {β:Type} (kn:(Int × Int)→Option β) (kr:(Int × Int × Bool)→Option β):Option β:=
 bif decide ((t31:Int)<t30) then
  (idx bj state).bind fun x3=>
  (bif decide (0≤t31) then (w[(t31:Int).toNat]?).map fun b=>V.int .u8 b.toNat else none).bind fun x4=>
  (idx x3.toList (IntKind.wrap .u8 (x4.toInt-97))).bind fun x5=>
  kn (x5.toInt,IntKind.wrap .i64 (t31+1))
 else
  kr (state,t31,decide ((t31:Int)<t30))
noncomputable def ER (C:af) (w:List UInt8) (t30 aQ ba:Int) (bp bj:List V):(Int × Int)→Option ((Int × Int) ⊕ (Int × Int × Bool)):=un fun state t31=>zO C w t30 aQ ba bp bj state t31 (fun y=>some (.inl y)) (fun r=>some (.inr r))
noncomputable def RR (C:af):cq:=fun β n ds k=>
 bif Nat.beq n 65 then bu I7 [true,false,false,true,false,false,false,false] [[0,2,3,0,0,5,6,7,8]] (@zO C) ds k else
 none
abbrev abO (C:af) (b:ch):Prop:=cj Tryd.prog aw C (RR C) 58 (cJ Tryd.prog (aw.aW 58)) (aw.sin 58).a8.length b
theorem abP (C:af):abO C (.loop (ar [1,1,0,1,0,0] RQ)):=
 bz I7 [true,false,false,true,false,false,false,false] [[0,2,3,0,0,5,6,7,8]] (@zO C) (by kernel_rfl) (aS (bs:=[]) (by kernel_rfl) av) (fun ds=>by kernel_rfl) (fun i x=>by kernel_rfl) (fun i x β k=>by kernel_rfl) (fun β ds k=>by kernel_rfl)
noncomputable def RS (C:af) (aX aY:Int) (aG bc:List V) (state:Int) (w:List UInt8):Option (List V):=
 (C nX [.int .i64 aX,.int .i64 aY,.list ab aG,.list aa bc]).bind fun r1=>
 bif (((V.nth r1 0).toInt):Int) != 0 then
  some [.int .i64 (-1)]
 else
  bif decide ((state:Int)<0) then
  some [.int .i64 (-1)]
  else
  bif decide ((state:Int)≥(aG.length:Int)) then
   some [.int .i64 (-1)]
  else
   (C DR [.str w,.int .i64 aX]).bind fun r2=>
   bif !((V.nth r2 0).toBool) then
   some [.int .i64 (-1)]
   else
   (Loop (ER C w (w.length:Int) aX aY aG bc) (state,0)).bind (un fun (abQ:Int)=>un fun (mM:Int) (qk:Bool)=>
    some [.int .i64 abQ])
theorem abR {aX aY:Int} {aG bc:List V} {state:Int} {w:List UInt8} {r:Option (List V)} (h:RS CC aX aY aG bc state w=r):CC DS [.int .i64 aX,.int .i64 aY,.list ab aG,.list aa bc,.int .i64 state,.str w]=r:=
 bn (key:=58) (L:=RR CC) (bs:=[.loop (ar [1,1,0,1,0,0] RQ)]) (by kernel_rfl) (bf (abP CC) av) (Eq.trans (by kernel_rfl) h)
end Go.AM
set_option maxRecDepth 100000
namespace Go.AM
open Go.Proofs
noncomputable def RT (C:af) (aX aY:Int) (aG bc:List V) (w:List UInt8):Option (List V):=
 (C DS [.int .i64 aX,.int .i64 aY,.list ab aG,.list aa bc,.int .i64 aY,.str w]).bind fun r1=>
 bif decide ((((V.nth r1 0).toInt):Int)≥0) then
  (idx aG ((V.nth r1 0).toInt)).bind fun x2=>
  some [.bool x2.toBool]
 else
  some [.bool false]
theorem abS {aX aY:Int} {aG bc:List V} {w:List UInt8} {r:Option (List V)} (h:RT CC aX aY aG bc w=r):CC yN [.int .i64 aX,.int .i64 aY,.list ab aG,.list aa bc,.str w]=r:=
 bn (key:=44) (L:=cT) (bs:=[]) (by kernel_rfl) av (Eq.trans (by kernel_rfl) h)
end Go.AM
set_option maxRecDepth 100000
set_option linter.unusedSimpArgs false
namespace Go.AM
open Go.Proofs
def fi (L:Nat) (f:Nat→Nat):V:= .list ah (tab L fun x=>iV (f x))
def Da.cN (a:Da):List V:=tab a.n fun q=>V.bool (a.fin q)
def Da.cv (a:Da):List V:=tab a.n fun q=>fi a.L (a.nx q)
@[simp] theorem Da.mT {a:Da}:a.cN.length=a.n:=by simp[Da.cN]
@[simp] theorem Da.RU {a:Da}:a.cv.length=a.n:=by simp[Da.cv]
@[simp] theorem mU {L:Nat} {f:Nat→Nat}:(fi L f).toList=tab L fun x=>iV (f x):=by simp[fi]
def gn (a:Da) (l:List V):List V:= .int .i64 a.L:: .int .i64 a.st:: .list ab a.cN:: .list aa a.cv::l
def cU (a:Da):List V:=gn a []
theorem Da.Ok.leaves {a:Da} (h:a.Ok) (l:List V):iX a.df l=gn a l:=by
 unfold iX gn
 have e1:a.df.F.map V.bool=a.cN:=zK _ false
 have e2:a.df.N.map kj=a.cv:=by
  unfold Da.cv
  rw[zK _ [],show a.df.N.length=a.n by simp[Da.df,h.nN]]
  refine eo fun q hq=> ?_
  have bY:q<a.N.length:=by rw[h.nN];exact hq
  unfold kj fi
  rw[show a.df.N.getD q []=n8 (a.N.getD q []) by simp[Da.df,bY],zK _ 0]
  have hl:(n8 (a.N.getD q [])).length=a.L:=by simp only[n8,List.length_map];exact Da.KB h hq
  rw[hl]
  exact congrArg _ (eo fun x _=>by rw[RH];rfl)
 rw[e1,e2];rfl
theorem Da.rP {a:Da} {q:Nat} (hq:q<a.n):idx a.cN (q:Int)=some (.bool (a.fin q)):=n9 hq
theorem Da.lU {a:Da} {q:Nat} (hq:q<a.n):idx a.cv (q:Int)=some (fi a.L (a.nx q)):=n9 hq
theorem od {L x:Nat} {f:Nat→Nat} (hx:x<L):idx (tab L fun x=>iV (f x)) (x:Int)=some (iV (f x)):=n9 hx
theorem tP {a:Da} (h:a.Ok):CC nX (cU a)=some [.int .i64 0]:=by
 have:=KG h.abD
 rwa [h.val,h.leaves] at this
def lets (w:List UInt8):List Nat:=w.map fun b=>b.toNat-97
theorem vX {w:List UInt8}:(lets w).length=w.length:=by simp[lets]
theorem RV {w:List UInt8} {i:Nat} (hi:i<w.length) (h:0≤gZ w i):(((lets w).getD i 0:Nat):Int)=gZ w i:=by
 unfold lets gZ at*
 rw[fL (by simpa using hi),fL hi] at*
 simp only[List.getElem_map]
 omega
theorem oc.WL {w:List UInt8} {L:Nat} (h:oc w (L:Int)):WL L (lets w):=fun x hx=>by
 obtain ⟨i,hi,rfl⟩:=List.getElem_of_mem hx
 rw[vX] at hi
 obtain ⟨h1,h2⟩:=h.2.2.2 i hi
 have:=RV hi h1
 rw[fL (by rw[vX];exact hi)] at this
 omega
theorem abT {a:Da} {w:List UInt8} {q i:Nat} (hi:i<w.length):a.run q ((lets w).take (i+1))=a.nx (a.run q ((lets w).take i)) ((lets w).getD i 0):=by
 rw[List.take_succ_eq_append_getElem (by rw[vX];exact hi),Da.abk,fL (by rw[vX];exact hi)];rfl
theorem abU {w:List UInt8} {L i:Nat} (hw:oc w (L:Int)) (hi:i<w.length):(lets w).getD i 0<L:=hw.WL _ (by rw[fL (by rw[vX];exact hi)];exact List.getElem_mem _)
section
variable {a:Da} (h:a.Ok) {w:List UInt8} (hw:oc w (a.L:Int)) {q:Nat} (hq:q<a.n)
include h hw hq
theorem abV {i:Nat}:a.run q ((lets w).take i)<a.n:=h.Ky _ hq fun x hx=>hw.WL x (List.mem_of_mem_take hx)
theorem abW {x1 x2:Int} {l2:List V}:Loop (ER CC w (w.length:Int) x1 x2 l2 a.cv) ((q:Int),0)=some ((a.run q (lets w):Int),(w.length:Int),false):=by
 have hl:w.length≤2048:=hw.2.2.1
 have e:lets w=(lets w).take w.length:=by rw[List.take_of_length_le (by rw[vX];omega)]
 refine (ez w.length (fun i=>((a.run q ((lets w).take i):Int),(i:Int))) ((a.run q ((lets w).take w.length):Int),(w.length:Int),false) (fun i hi=> ?_) ?_).trans (by rw[←e])
 ·simp only[ER,zO,un]
  refine bT (dp hi) ?_
  refine bs (Da.lU (abV h hw hq)) ?_
  refine bs (RN hi) ?_
  have h1:=(hw.2.2.2 i hi).1
  simp only[V.toInt_int,RP h1,mU]
  rw[←RV hi h1]
  refine bs (od (abU hw hi)) ?_
  rw[cu (by omega),abT hi];rfl
 ·simp only[ER,zO,un]
  exact bF (bt (Nat.le_refl _)) (by rw[bt (Nat.le_refl _)])
end
theorem abX {a:Da} (h:a.Ok) {q:Nat} (hq:q<a.n) (w:List UInt8):CC DS (gn a [.int .i64 (q:Int),.str w])=some [.int .i64 (if oc w (a.L:Int) then (a.run q (lets w):Int) else-1)]:=by
 refine abR ?_
 unfold RS
 refine bs (tP h) ?_
 refine bF rfl ?_
 refine bF (decide_eq_false (by omega)) ?_
 refine bF (decide_eq_false (by rw[Da.mT];omega)) ?_
 refine bs (abN w a.L) ?_
 by_cases hw:oc w (a.L:Int)
 ·rw[if_pos hw]
  refine bF (by simp[hw]) ?_
  exact bs (abW h hw hq) rfl
 ·rw[if_neg hw]
  exact bT (by simp[hw]) rfl
theorem RW {a:Da} (h:a.Ok) {w:List UInt8} (hw:oc w (a.L:Int)):CC yN (gn a [.str w])=some [.bool (a.acc a.st (lets w))]:=by
 refine abS ?_
 unfold RT
 refine bs (abX h h.s w) ?_
 rw[if_pos hw]
 refine bT (decide_eq_true (by simp only[V.bQ,V.toInt_int];omega)) ?_
 refine bs (Da.rP (h.Ky _ h.s hw.WL)) ?_
 rfl
end Go.AM
set_option maxRecDepth 100000
set_option linter.unusedSimpArgs false
namespace Go.AM
open Go.Proofs
section
variable {α:Type} (ke:α→V)
def fx (i:Nat):List α→List V
 | []=>[]
 | a::S=> .bh [ke a,iV (i:Int)]::fx (i+1) S
where iV (n:Int):V:= .int .i64 n
end
theorem vY {α:Type} {ke:α→V}: ∀(S:List α) (i:Nat),(fx ke i S).length=S.length
 | [],_=>rfl
 | a::S,i=>by simp[fx,vY S (i+1)]
section
variable {α:Type} [DecidableEq α] {ke:α→V}
variable (hk: ∀a b,iG (ke a) (ke b)=decide (a=b))
include hk
theorem tQ (x:α): ∀(S:List α) (i:Nat),fo (ke x) (fx ke i S)=decide (x∈S)
 | [],_=>by simp[fx,fo]
 | a::S,i=>by
  have c: ∀(p q:V),(V.bh [p,q]).comp 0=p:=fun p q=>rfl
  rw[fx,fo,c,hk,tQ x S (i+1)]
  rw[Bool.eq_iff_iff]
  simp
theorem vZ (x:α) (z:V): ∀(S:List α) (i:Nat),x∈S→gK (ke x) (fx ke i S) z= .int .i64 ((i+S.idxOf x:Nat):Int)
 | [],_,h=>by cases h
 | a::S,i,h=>by
  have c: ∀(p q:V),(V.bh [p,q]).comp 0=p:=fun p q=>rfl
  have c1: ∀(p q:V),(V.bh [p,q]).comp 1=q:=fun p q=>rfl
  rw[fx,gK,c,c1,hk]
  by_cases e:x=a
  ·subst e
   rw[decide_eq_true rfl]
   simp[fx.iV]
  ·rw[decide_eq_false e,cond_false,vZ x z S (i+1) ((List.mem_cons.1 h).resolve_left e),show (a::S).idxOf x=S.idxOf x+1 from by rw[List.idxOf_cons,show (a==x)=false from beq_eq_false_iff_ne.2 fun h=>e h.symm];rfl]
   congr 2
   omega
theorem v5 (x:α): ∀(S:List α) (i:Nat),x∉S→eS (ke x) (.int .i64 ((i+S.length:Nat):Int)) (fx ke i S)=fx ke i (S++[x])
 | [],i,_=>by simp[fx,eS,fx.iV]
 | a::S,i,h=>by
  have c: ∀(p q:V),(V.bh [p,q]).comp 0=p:=fun p q=>rfl
  have e:x≠a:=fun e=>h (by simp[e])
  rw[fx,eS,c,hk,decide_eq_false e,cond_false,List.cons_append,fx]
  congr 1
  have:=v5 x S (i+1) fun hx=>h (by simp[hx])
  rw[←this]
  simp only[List.length_cons]
  congr 3
  omega
end
theorem abY (a b:Nat):iG (.int .i64 (a:Int)) (.int .i64 (b:Int))=decide (a=b):=by
 simp only[iG,V.cells,oy,qX,Bool.and_true]
 rw[Bool.eq_iff_iff]
 simp
 omega
theorem abZ (a b:Nat):iG (.int .u64 (a:Int)) (.int .u64 (b:Int))=decide (a=b):=by
 simp only[iG,V.cells,oy,qX,Bool.and_true]
 rw[Bool.eq_iff_iff]
 simp
 omega
theorem ES {n:Nat} (h:n≤1000000000000):cR .i64 (n:Int)=true:=by
 have e1:IntKind.min .i64= -9223372036854775808:=by decide
 have e2:IntKind.max .i64=9223372036854775807:=by decide
 unfold cR
 rw[e1,e2]
 exact Bool.and_eq_true_iff.2 ⟨decide_eq_true (by omega),decide_eq_true (by omega)⟩
theorem v7 {n:Nat} (h:n<2^64):cR .u64 (n:Int)=true:=by
 have e1:IntKind.min .u64=0:=by decide
 have e2:IntKind.max .u64=18446744073709551615:=by decide
 unfold cR
 rw[e1,e2]
 exact Bool.and_eq_true_iff.2 ⟨decide_eq_true (by omega),decide_eq_true (by omega)⟩
theorem KJ {α:Type} [DecidableEq α] {S:List α} {a:α}:(cM S a).idxOf a=if a∈S then S.idxOf a else S.length:=by
 unfold cM
 split
 ·rfl
 ·rename_i h
  rw[List.idxOf_append,if_neg h]
  simp
end Go.AM
set_option maxRecDepth 100000
namespace Go.AM
open Go.Proofs
noncomputable def RX (C:af) (q x ca cb:Int) (ET zP:List V):Option (List V):=
 (idx zP q).bind fun x1=>
 (idx x1.toList x).bind fun x2=>
 some [.int .i64 x2.toInt,.int .i64 ca,.int .i64 cb,.list ab ET,.list aa zP]
theorem ab0 {q x ca cb:Int} {ET zP:List V} {r:Option (List V)} (h:RX CC q x ca cb ET zP=r):CC qh [.int .i64 q,.int .i64 x,.int .i64 ca,.int .i64 cb,.list ab ET,.list aa zP]=r:=
 bn (key:=123) (L:=cT) (bs:=[]) (by kernel_rfl) av (Eq.trans (by kernel_rfl) h)
end Go.AM
set_option maxRecDepth 100000
namespace Go.AM
open Go.Proofs
noncomputable def RY (C:af) (q qq qs:Int) (o0 o4:List V):Option (List V):=
 (idx o0 q).bind fun x1=>
 some [.bool x1.toBool,.int .i64 qq,.int .i64 qs,.list ab o0,.list aa o4]
theorem ab1 {q qq qs:Int} {o0 o4:List V} {r:Option (List V)} (h:RY CC q qq qs o0 o4=r):CC qi [.int .i64 q,.int .i64 qq,.int .i64 qs,.list ab o0,.list aa o4]=r:=
 bn (key:=124) (L:=cT) (bs:=[]) (by kernel_rfl) av (Eq.trans (by kernel_rfl) h)
end Go.AM
set_option maxRecDepth 100000
namespace Go.AM
open Go.Proofs
noncomputable def RZ (C:af) (x:Int) (bG:List V):Option (List V):=
 bif cR .i64 x&&true then
  bif cR .i64 x&&true then
  bif Nat.ble ((bG.length+([.int .i64 x]:List V).length)*8) bB then
   some [.int .i64 (bG.length:Int),.list ah (bG++([.int .i64 x]:List V)),.list e8 (eS (.int .i64 x) (.int .i64 (bG.length:Int)) ([]:List V))]
  else none
  else none
 else none
theorem ab2 {x:Int} {bG:List V} {r:Option (List V)} (h:RZ CC x bG=r):CC y7 [.int .i64 x,.list ah bG]=r:=
 bn (key:=140) (L:=cT) (bs:=[]) (by kernel_rfl) av (Eq.trans (by kernel_rfl) h)
end Go.AM
set_option maxRecDepth 100000
namespace Go.AM
open Go.Proofs
noncomputable def R0 (C:af) (x:Int) (bG dz:List V):Option (List V):=
 bif cR .i64 x&&true then
  bif !(fo (.int .i64 x) dz) then
  bif cR .i64 x&&true then
   bif Nat.ble ((bG.length+([.int .i64 x]:List V).length)*8) bB then
   some [.int .i64 (bG.length:Int),.list e8 (eS (.int .i64 x) (.int .i64 (bG.length:Int)) dz),.list ah (bG++([.int .i64 x]:List V))]
   else none
  else none
  else
  some [.int .i64 ((gK (.int .i64 x) dz (.int .i64 0)).toInt),.list e8 dz,.list ah bG]
 else none
theorem ab3 {x:Int} {bG dz:List V} {r:Option (List V)} (h:R0 CC x bG dz=r):CC IF [.int .i64 x,.list ah bG,.list e8 dz]=r:=
 bn (key:=167) (L:=cT) (bs:=[]) (by kernel_rfl) av (Eq.trans (by kernel_rfl) h)
end Go.AM
set_option maxRecDepth 100000
namespace Go.AM
open Go.Proofs
noncomputable abbrev EU:Code:=cC Tryd.prog (aw.aW 122)
noncomputable def zQ (C:af) (bR i state t36 lV lW aQ ba:Int) (bP br bK b7:List V) (t37 kX kY:Int) (kZ la rows bd bm:List V) {β:Type} (kn:(Int × Int × Int × (List V) × (List V) × (List V) × (List V) × (List V))→Option β) (kr:(Int × Bool × Int × Int × (List V) × (List V) × (List V) × (List V) × (List V))→Option β):Option β:=
 bif decide ((t37:Int)<t36) then
  (C qh [.int .i64 state,.int .i64 t37,.int .i64 kX,.int .i64 kY,.list ab kZ,.list aa la]).bind fun r3=>
  (C IF [.int .i64 ((V.nth r3 0).toInt),.list ah bd,.list e8 bm]).bind fun r4=>
  bif (decide (0≤t37))&&(decide (t37<(rows.length:Int))) then
  (rows[(t37:Int).toNat]?).bind fun x5=>
  kn (IntKind.wrap .i64 (t37+1),(V.nth (r3.drop 1) 0).toInt,(V.nth ((r3.drop 1).drop 1) 0).toInt,(V.nth (((r3.drop 1).drop 1).drop 1) 0).toList,(V.nth ((((r3.drop 1).drop 1).drop 1).drop 1) 0).toList,rows.set ((t37:Int).toNat) (.int .i64 ((V.nth r4 0).toInt)),(V.nth ((r4.drop 1).drop 1) 0).toList,(V.nth (r4.drop 1) 0).toList)
  else none
 else
  kr (t37,decide ((t37:Int)<t36),kX,kY,kZ,la,rows,bd,bm)
noncomputable def EV (C:af) (bR i state t36 lV lW aQ ba:Int) (bP br bK b7:List V):(Int × Int × Int × (List V) × (List V) × (List V) × (List V) × (List V))→Option ((Int × Int × Int × (List V) × (List V) × (List V) × (List V) × (List V)) ⊕ (Int × Bool × Int × Int × (List V) × (List V) × (List V) × (List V) × (List V))):=un fun t37=>un fun kX=>un fun kY=>un fun kZ=>un fun la=>un fun rows=>un fun bd bm=>zQ C bR i state t36 lV lW aQ ba bP br bK b7 t37 kX kY kZ la rows bd bm (fun y=>some (.inl y)) (fun r=>some (.inr r))
noncomputable def zR (C:af) (bR lV lW aQ ba:Int) (cP bP:List V) (i kX kY:Int) (kZ la br bd bm bK:List V) {β:Type} (kn:(Int × Int × Int × (List V) × (List V) × (List V) × (List V) × (List V) × (List V))→Option β) (kr:((Int × Int × Int × (List V) × (List V) × Int × Int × (List V) × (List V) × (List V)) ⊕ (Int × Bool × Int × Int × (List V) × (List V) × (List V) × (List V) × (List V) × (List V)))→Option β):Option β:=
 bif decide ((i:Int)<(br.length:Int)) then
  bif (decide (0≤i))&&(decide (i<(br.length:Int))) then
  (br[(i:Int).toNat]?).bind fun x2=>
  bif (decide (0≤bR))&&((decide (bR≤bR))&&(Nat.ble (((bR:Int).toNat)*8) bB)) then
   (Loop (EV C bR i x2.toInt ((List.replicate ((bR:Int).toNat) (V.int .i64 0)).length:Int) lV lW aQ ba cP bP bm bK) (0,kX,kY,kZ,la,List.replicate ((bR:Int).toNat) (V.int .i64 0),br,bd)).bind (un fun (nZ:Int)=>un fun (mM:Bool)=>un fun (zS:Int)=>un fun (R3:Int)=>un fun (R4:List V)=>un fun (R5:List V)=>un fun (R6:List V)=>un fun (R7:List V) (qt:List V)=>
    bif decide (((R7.length:Int):Int)>512) then
    kr (.inl (3,zS,R3,R4,R5,0,0,([]:List V),([]:List V),([]:List V)))
    else
    bif Nat.ble ((bK.length+([.list ah R6]:List V).length)*24) bB then
     (C qi [.int .i64 x2.toInt,.int .i64 zS,.int .i64 R3,.list ab R4,.list aa R5]).bind fun oe=>
     bif Nat.ble ((bm.length+([.bool ((V.nth oe 0).toBool)]:List V).length)*1) bB then
     kn (IntKind.wrap .i64 (i+1),(V.nth (oe.drop 1) 0).toInt,(V.nth ((oe.drop 1).drop 1) 0).toInt,(V.nth (((oe.drop 1).drop 1).drop 1) 0).toList,(V.nth ((((oe.drop 1).drop 1).drop 1).drop 1) 0).toList,R7,qt,bm++([.bool ((V.nth oe 0).toBool)]:List V),bK++([.list ah R6]:List V))
     else none
    else none)
  else none
  else none
 else
  kr (.inr (i,decide ((i:Int)<(br.length:Int)),kX,kY,kZ,la,br,bd,bm,bK))
noncomputable def EW (C:af) (bR lV lW aQ ba:Int) (cP bP:List V):(Int × Int × Int × (List V) × (List V) × (List V) × (List V) × (List V) × (List V))→Option ((Int × Int × Int × (List V) × (List V) × (List V) × (List V) × (List V) × (List V)) ⊕ ((Int × Int × Int × (List V) × (List V) × Int × Int × (List V) × (List V) × (List V)) ⊕ (Int × Bool × Int × Int × (List V) × (List V) × (List V) × (List V) × (List V) × (List V)))):=un fun i=>un fun kX=>un fun kY=>un fun kZ=>un fun la=>un fun br=>un fun bd=>un fun bm bK=>zR C bR lV lW aQ ba cP bP i kX kY kZ la br bd bm bK (fun y=>some (.inl y)) (fun r=>some (.inr r))
noncomputable def R8 (C:af):cq:=fun β n ds k=>
 bif Nat.beq n 161 then bu JO [false,false,false,false,true,true,true,true,true,false,false,false,false,true,false,false,true,true,false,false] [[1,2,3,4,0,0,0,0,0,0,10,11,12,13,0,15,16,0,0,19,20]] (@zQ C) ds k else
 bif Nat.beq n 81 then bu JP [false,true,true,true,true,true,false,false,false,false,false,false,true,true,true,true] [[0,0,0,0,0,0,0,0,0,0],[1,0,0,0,0,0,0,7,8,9,10,11,12,0,0,0,0]] (@zR C) ds k else
 none
abbrev R9 (C:af) (b:ch):Prop:=cj Tryd.prog aw C (R8 C) 122 (cJ Tryd.prog (aw.aW 122)) (aw.sin 122).a8.length b
theorem ab4 (C:af):R9 C (.loop (ar [1,1,1,1,0,1,0,0,1,0,0,1,1,0,1,0,0] EU)):=
 bz JO [false,false,false,false,true,true,true,true,true,false,false,false,false,true,false,false,true,true,false,false] [[1,2,3,4,0,0,0,0,0,0,10,11,12,13,0,15,16,0,0,19,20]] (@zQ C) (by kernel_rfl) (aS (bs:=[]) (by kernel_rfl) av) (fun ds=>by kernel_rfl) (fun i x=>by kernel_rfl) (fun i x β k=>by kernel_rfl) (fun β ds k=>by kernel_rfl)
theorem ab5 (C:af):R9 C (.loop (ar [1,1,1,1,0,1,0,0] EU)):=
 bz JP [false,true,true,true,true,true,false,false,false,false,false,false,true,true,true,true] [[0,0,0,0,0,0,0,0,0,0],[1,0,0,0,0,0,0,7,8,9,10,11,12,0,0,0,0]] (@zR C) (by kernel_rfl) (aS (bs:=[.loop (ar [1,1,1,1,0,1,0,0,1,0,0,1,1,0,1,0,0] EU)]) (by kernel_rfl) (bf (ab4 C) av)) (fun ds=>by kernel_rfl) (fun i x=>by kernel_rfl) (fun i x β k=>by kernel_rfl) (fun β ds k=>by kernel_rfl)
noncomputable def Sa (C:af) (bR start kX kY:Int) (kZ la:List V):Option (List V):=
 (C y7 [.int .i64 start,.list ah ([]:List V)]).bind fun r1=>
 (Loop (EW C bR 0 0 bR 0 ([]:List V) ([]:List V)) (0,kX,kY,kZ,la,(V.nth (r1.drop 1) 0).toList,(V.nth ((r1.drop 1).drop 1) 0).toList,([]:List V),([]:List V))).bind (cZ (un fun (zT:Int)=>un fun (tR:Int)=>un fun (tS:Int)=>un fun (KK:List V)=>un fun (ab6:List V)=>un fun (KL:Int)=>un fun (ab7:Int)=>un fun (KM:List V)=>un fun (ab8:List V) (ab9:List V)=>
  some [.int .i64 KL,.int .i64 ab7,.int .i64 zT,.int .i64 tR,.int .i64 tS,.list ab KK,.list aa ab6,.list ab KM,.list aa ab8,.list ah ab9]) (un fun (kp:Int)=>un fun (Sb:Bool)=>un fun (aca:Int)=>un fun (acb:Int)=>un fun (acd:List V)=>un fun (ace:List V)=>un fun (acf:List V)=>un fun (EX:List V)=>un fun (Sd:List V) (zU:List V)=>
  some [.int .i64 bR,.int .i64 0,.int .i64 0,.int .i64 aca,.int .i64 acb,.list ab acd,.list aa ace,.list ab Sd,.list aa zU,.list ah acf]))
theorem acg {bR start kX kY:Int} {kZ la:List V} {r:Option (List V)} (h:Sa CC bR start kX kY kZ la=r):CC Ef [.int .i64 bR,.int .i64 start,.int .i64 kX,.int .i64 kY,.list ab kZ,.list aa la]=r:=
 bn (key:=122) (L:=R8 CC) (bs:=[.loop (ar [1,1,1,1,0,1,0,0] EU)]) (by kernel_rfl) (bf (ab5 CC) av) (Eq.trans (by kernel_rfl) h)
end Go.AM
set_option maxRecDepth 100000
namespace Go.AM
open Go.Proofs
noncomputable abbrev EY:Code:=cC Tryd.prog (aw.aW 108)
noncomputable def zV (C:af) (t31 ca cb zW zX:Int) (dI cP bP br bd:List V) (t32:Int) (numbers:List V) {β:Type} (kn:(Int × (List V))→Option β) (kr:(Int × Bool × (List V))→Option β):Option β:=
 bif decide ((t32:Int)<t31) then
  bif (decide (0≤t32))&&(decide (t32<(numbers.length:Int))) then
  (numbers[(t32:Int).toNat]?).bind fun x3=>
  kn (IntKind.wrap .i64 (t32+1),numbers.set ((t32:Int).toNat) (.int .i64 (-1)))
  else none
 else
  kr (t32,decide ((t32:Int)<t31),numbers)
noncomputable def EZ (C:af) (t31 ca cb zW zX:Int) (dI cP bP br bd:List V):(Int × (List V))→Option ((Int × (List V)) ⊕ (Int × Bool × (List V))):=un fun t32 numbers=>zV C t31 ca cb zW zX dI cP bP br bd t32 numbers (fun y=>some (.inl y)) (fun r=>some (.inr r))
noncomputable def zY (C:af) (t40 ca cb zW zX:Int) (E0 cP bP br bd:List V) (t41:Int) (numbers:List V) {β:Type} (kn:(Int × (List V))→Option β) (kr:(Int × Bool × (List V))→Option β):Option β:=
 bif decide ((t41:Int)<t40) then
  bif (decide (0≤t41))&&(decide (t41<(E0.length:Int))) then
  (E0[(t41:Int).toNat]?).bind fun x7=>
  bif (decide (0≤x7.toInt))&&(decide (x7.toInt<(numbers.length:Int))) then
   (numbers[(x7.toInt:Int).toNat]?).bind fun x8=>
   kn (IntKind.wrap .i64 (t41+1),numbers.set ((x7.toInt:Int).toNat) (.int .i64 t41))
  else none
  else none
 else
  kr (t41,decide ((t41:Int)<t40),numbers)
noncomputable def E1 (C:af) (t40 ca cb zW zX:Int) (E0 cP bP br bd:List V):(Int × (List V))→Option ((Int × (List V)) ⊕ (Int × Bool × (List V))):=un fun t41 numbers=>zY C t40 ca cb zW zX E0 cP bP br bd t41 numbers (fun y=>some (.inl y)) (fun r=>some (.inr r))
noncomputable def Se (C:af):cq:=fun β n ds k=>
 bif Nat.beq n 97 then bu JC [false,true,false,false,false,false,false,true,false,false,false,false] [[1,0,0,3,4,5,6,7,0,9,10,11,12]] (@zV C) ds k else
 bif Nat.beq n 177 then bu JD [false,true,false,false,false,false,true,false,false,false,false,false] [[1,0,0,3,4,5,6,0,8,9,10,11,12]] (@zY C) ds k else
 none
abbrev Sf (C:af) (b:ch):Prop:=cj Tryd.prog aw C (Se C) 108 (cJ Tryd.prog (aw.aW 108)) (aw.sin 108).a8.length b
theorem ach (C:af):Sf C (.loop (ar [1,1,1,1,0,1,0,0] EY)):=
 bz JC [false,true,false,false,false,false,false,true,false,false,false,false] [[1,0,0,3,4,5,6,7,0,9,10,11,12]] (@zV C) (by kernel_rfl) (aS (bs:=[]) (by kernel_rfl) av) (fun ds=>by kernel_rfl) (fun i x=>by kernel_rfl) (fun i x β k=>by kernel_rfl) (fun β ds k=>by kernel_rfl)
theorem aci (C:af):Sf C (.loop (ar [1,1,1,1,1,0,1,0,0] EY)):=
 bz JD [false,true,false,false,false,false,true,false,false,false,false,false] [[1,0,0,3,4,5,6,0,8,9,10,11,12]] (@zY C) (by kernel_rfl) (aS (bs:=[]) (by kernel_rfl) av) (fun ds=>by kernel_rfl) (fun i x=>by kernel_rfl) (fun i x β k=>by kernel_rfl) (fun β ds k=>by kernel_rfl)
noncomputable def Sg (C:af) (aX aY:Int) (aG bc:List V):Option (List V):=
 (C nX [.int .i64 aX,.int .i64 aY,.list ab aG,.list aa bc]).bind fun r1=>
 bif (((V.nth r1 0).toInt):Int) != 0 then
  some [.int .i64 0,.int .i64 0,.list ab ([]:List V),.list aa ([]:List V),.list ah ([]:List V)]
 else
  (C Ef [.int .i64 aX,.int .i64 aY,.int .i64 aX,.int .i64 aY,.list ab aG,.list aa bc]).bind fun r2=>
  bif (decide (0≤(((V.nth (((r2.drop 3).drop 1).drop 1) 0).toList).length:Int)))&&((decide ((((V.nth (((r2.drop 3).drop 1).drop 1) 0).toList).length:Int)≤(((V.nth (((r2.drop 3).drop 1).drop 1) 0).toList).length:Int)))&&(Nat.ble ((((((V.nth (((r2.drop 3).drop 1).drop 1) 0).toList).length:Int):Int).toNat)*8) bB)) then
  (Loop (EZ C ((List.replicate (((((V.nth (((r2.drop 3).drop 1).drop 1) 0).toList).length:Int):Int).toNat) (V.int .i64 0)).length:Int) 0 0 ((V.nth r2 0).toInt) ((V.nth (r2.drop 1) 0).toInt) ((V.nth ((((r2.drop 3).drop 4).drop 1).drop 1) 0).toList) ([]:List V) ([]:List V) ((V.nth ((r2.drop 3).drop 4) 0).toList) ((V.nth (((r2.drop 3).drop 4).drop 1) 0).toList)) (0,List.replicate (((((V.nth (((r2.drop 3).drop 1).drop 1) 0).toList).length:Int):Int).toNat) (V.int .i64 0))).bind (un fun (jP:Int)=>un fun (lP:Bool) (acj:List V)=>
   (Loop (E1 C (((V.nth ((((r2.drop 3).drop 4).drop 1).drop 1) 0).toList).length:Int) 0 0 ((V.nth r2 0).toInt) ((V.nth (r2.drop 1) 0).toInt) ((V.nth ((((r2.drop 3).drop 4).drop 1).drop 1) 0).toList) ([]:List V) ([]:List V) ((V.nth ((r2.drop 3).drop 4) 0).toList) ((V.nth (((r2.drop 3).drop 4).drop 1) 0).toList)) (0,acj)).bind (un fun (qp:Int)=>un fun (Sh:Bool) (ack:List V)=>
    some [.int .i64 ((V.nth r2 0).toInt),.int .i64 ((V.nth (r2.drop 1) 0).toInt),.list ab ((V.nth ((r2.drop 3).drop 4) 0).toList),.list aa ((V.nth (((r2.drop 3).drop 4).drop 1) 0).toList),.list ah ack]))
  else none
theorem acm {aX aY:Int} {aG bc:List V} {r:Option (List V)} (h:Sg CC aX aY aG bc=r):CC vO [.int .i64 aX,.int .i64 aY,.list ab aG,.list aa bc]=r:=
 bn (key:=108) (L:=Se CC) (bs:=[.loop (ar [1,1,1,1,0,1,0,0] EY),.loop (ar [1,1,1,1,1,0,1,0,0] EY)]) (by kernel_rfl) (bf (ach CC) (bf (aci CC) av)) (Eq.trans (by kernel_rfl) h)
end Go.AM
set_option maxRecDepth 100000
set_option linter.unusedSimpArgs false
namespace Go.AM
open Go.Proofs
def nV (q:Nat):V:= .int .i64 (q:Int)
def nS (S:List Nat):List V:=S.map nV
def mS (S:List Nat):List V:=fx nV 0 S
theorem v8 (a b:Nat):iG (nV a) (nV b)=decide (a=b):=abY a b
theorem og {S:List Nat}:(nS S).length=S.length:=by simp[nS]
theorem v9 {S:List Nat} {i:Nat} (h:i<S.length):(nS S)[i]? =some (nV S[i]):=by simp[nS,h]
theorem acn {x:Nat} (hx:x≤1000000):CC y7 [nV x,.list ah []]=some [nV 0,.list ah (nS [x]),.list e8 (mS [x])]:=by
 refine ab2 ?_
 unfold RZ
 rw[ES (by omega)]
 exact bT rfl (bT rfl (bT (cap (by simp) (by omega)) rfl))
theorem aco {S:List Nat} {x:Nat} (hx:x≤1000000) (hl:S.length≤1000000):CC IF [nV x,.list ah (nS S),.list e8 (mS S)]=some [nV ((cM S x).idxOf x),.list e8 (mS (cM S x)),.list ah (nS (cM S x))]:=by
 refine ab3 ?_
 unfold R0
 have e1:=tQ v8 x S 0
 rw[ES (by omega)]
 refine bT rfl ?_
 rw[KJ]
 by_cases h:x∈S
 ·refine bF (by rw[show fo (.int .i64 (x:Int)) (mS S)=true from e1.trans (decide_eq_true h)];rfl) ?_
  have e2:=vZ v8 x (.int .i64 0) S 0 h
  rw[show gK (.int .i64 (x:Int)) (mS S) (.int .i64 0)=_ from e2,if_pos h,Nat.zero_add,show cM S x=S by unfold cM;rw[if_pos h]]
  rfl
 ·refine bT (by rw[show fo (.int .i64 (x:Int)) (mS S)=false from e1.trans (decide_eq_false h)];rfl) ?_
  refine bT rfl ?_
  refine bT (cap (by rw[og];simp;omega) (by omega)) ?_
  have e2:=v5 v8 x S 0 h
  rw[Nat.zero_add] at e2
  rw[og,show eS (.int .i64 (x:Int)) (.int .i64 (S.length:Int)) (mS S)=_ from e2,if_neg h,show cM S x=S++[x] by unfold cM;rw[if_neg h]]
  simp[nS,nV,mS]
theorem acp {a:Da} {q x:Nat} (hq:q<a.n) (hx:x<a.L):CC qh (nV q::nV x::cU a)=some (nV (a.nx q x)::cU a):=by
 refine ab0 ?_
 unfold RX
 refine bs (Da.lU hq) ?_
 rw[mU]
 exact bs (od hx) rfl
theorem acq {a:Da} {q:Nat} (hq:q<a.n):CC qi (nV q::cU a)=some (.bool (a.fin q)::cU a):=by
 refine ab1 ?_
 unfold RY
 exact bs (Da.rP hq) rfl
section
variable {a:Da} (h:a.Ok)
include h
theorem acr {S U:List Nat} {q:Nat} (hq:q<a.n) (hS: ∀s∈S,s<a.n) (hSn:S.length≤1000) (hp:aV a.nx S q a.L <+: U) {i c1 c2:Int} {l1 l2 l3 l4:List V}:
  Loop (EV CC (a.L:Int) i (q:Int) ((List.replicate (((a.L:Nat):Int).toNat) (V.int .i64 0)).length:Int) c1 c2 (a.L:Int) 0 l1 l2 l3 l4) (0,(a.L:Int),(a.st:Int),a.cN,a.cv,List.replicate (((a.L:Nat):Int).toNat) (V.int .i64 0),nS S,mS S)=
   some ((a.L:Int),false,(a.L:Int),(a.st:Int),a.cN,a.cv,(tab a.L fun x=>nV (U.idxOf (a.nx q x))),nS (aV a.nx S q a.L),mS (aV a.nx S q a.L)):=by
 have h6:=h.l6
 rw[Int.toNat_natCast,mR,dQ]
 refine (ez a.L (fun x=>((x:Int),(a.L:Int),(a.st:Int),a.cN,a.cv,(tab a.L fun j=>if j<x then nV (U.idxOf (a.nx q j)) else nV 0),nS (aV a.nx S q x),mS (aV a.nx S q x))) _ (fun x hx=> ?_) ?_)
 ·simp only[EV,zQ,un]
  refine bT (dp hx) ?_
  refine bs (acp hq hx) ?_
  have hT:(aV a.nx S q x).length≤1000000:=by
   have: ∀x,(aV a.nx S q x).length≤S.length+x:=by
    intro x
    induction x with
    | zero=>exact Nat.le_refl _
    | succ x ih=>rw[aV,n7];split<;>omega
   have:=this x
   omega
  refine bs (aco (S:=aV a.nx S q x) (by have:=h.ej hq hx;have:=h.eh;omega) hT) ?_
  refine (dE hx).trans ?_
  rw[cu (by omega),Int.toNat_natCast,mQ]
  have e:(cM (aV a.nx S q x) (a.nx q x)).idxOf (a.nx q x)=U.idxOf (a.nx q x):=(tN ((qo S q (show x+1≤a.L by omega)).trans hp) tK).symm
  show some (Sum.inl _)=some (Sum.inl _)
  refine congrArg (fun x=>some (Sum.inl x)) ?_
  refine Prod.ext rfl (Prod.ext rfl (Prod.ext rfl (Prod.ext rfl (Prod.ext rfl (Prod.ext ?_ (Prod.ext rfl rfl))))))
  refine eo fun j _=> ?_
  by_cases hj:j=x
  ·rw[if_pos hj,if_pos (by omega),hj,←e];rfl
  ·rw[if_neg hj]
   by_cases bU:j<x
   ·rw[if_pos bU,if_pos (by omega)]
   ·rw[if_neg bU,if_neg (by omega)]
 ·simp only[EV,zQ,un]
  refine bF (bt (Nat.le_refl _)) ?_
  rw[bt (Nat.le_refl _)]
  have:(tab a.L fun j=>if j<a.L then nV (U.idxOf (a.nx q j)) else nV 0)=tab a.L fun j=>nV (U.idxOf (a.nx q j)):=eo fun j hj=>if_pos hj
  rw[this]
theorem acs:CC Ef ([nV a.L,nV a.st]++cU a)=some ([nV a.L,nV 0,.int .i64 0]++(cU a++[.list ab a.trim.cN,.list aa a.trim.cv,.list ah (nS (aq a.L a.nx a.st a.n))])):=by
 have h6:=h.l6
 have hm:=h.eh
 have hd:=h.lR a.n
 refine acg ?_
 unfold Sa
 refine bs (acn (by have:=h.s;omega)) ?_
 have key:Loop (EW CC (a.L:Int) 0 0 (a.L:Int) 0 ([]:List V) ([]:List V)) (0,(a.L:Int),(a.st:Int),a.cN,a.cv,nS [a.st],mS [a.st],([]:List V),([]:List V))=
   some (.inr (((aq a.L a.nx a.st a.n).length:Int),false,(a.L:Int),(a.st:Int),a.cN,a.cv,nS (aq a.L a.nx a.st a.n),mS (aq a.L a.nx a.st a.n),a.trim.cN,a.trim.cv)):=by
  refine (ez (aq a.L a.nx a.st a.n).length (fun i=>((i:Int),(a.L:Int),(a.st:Int),a.cN,a.cv,nS (aq a.L a.nx a.st i),mS (aq a.L a.nx a.st i),(tab i fun j=>V.bool (a.trim.fin j)),(tab i fun j=>fi a.L (a.trim.nx j)))) _ (fun i hi=> ?_) ?_)
  ·have ff:=vU hd hi
   have tT:(aq a.L a.nx a.st i)[i]=(aq a.L a.nx a.st a.n)[i]:=(jR (show i≤a.n by omega)).getElem ff
   have hq:(aq a.L a.nx a.st a.n)[i]<a.n:=h.tO _ _ (List.getElem_mem hi)
   have hlen:(aq a.L a.nx a.st i).length≤512:=Nat.le_trans (h.lR i) hm
   have aim:(aq a.L a.nx a.st (i+1)).length≤512:=Nat.le_trans (h.lR (i+1)) hm
   have gT:=vV hd hi
   simp only[EW,zR,un]
   refine bT (decide_eq_true (by rw[og];omega)) ?_
   refine (oa (v9 ff)).trans ?_
   refine bT (lT (by omega) (by omega)) ?_
   rw[tT]
   refine bs (acr h hq (h.tO i) (by omega) (U:=aq a.L a.nx a.st a.n) (by rw[←gT];exact jR (by omega))) ?_
   rw[←gT]
   refine bF (decide_eq_false (by rw[og];omega)) ?_
   refine bT (cap (by rw[dQ];simp;omega) (by omega)) ?_
   refine bs (acq hq) ?_
   refine bT (cap (by rw[dQ];simp;omega) (by omega)) ?_
   rw[cu (by omega),ko,ko]
   have e1:a.trim.fin i=a.fin (aq a.L a.nx a.st a.n)[i]:=zE hi
   have e2:fi a.L (a.trim.nx i)= .list ah (tab a.L fun x=>nV ((aq a.L a.nx a.st a.n).idxOf (a.nx (aq a.L a.nx a.st a.n)[i] x))):=by
    unfold fi
    refine congrArg _ (eo fun x hx=> ?_)
    rw[show a.trim.nx i x=_ from tM hi hx];rfl
   rw[e1,e2]
   rfl
  ·simp only[EW,zR,un]
   rw[zF hd,og]
   refine bF (bt (Nat.le_refl _)) ?_
   rw[bt (Nat.le_refl _)]
   have e3:a.trim.n=(aq a.L a.nx a.st a.n).length:=ki
   unfold Da.cN Da.cv
   rw[e3];rfl
 refine bs key ?_
 rfl
end
def iB (U:List Nat) (n:Nat):List V:=tab n fun q=>if q∈U then nV (U.idxOf q) else .int .i64 (-1)
theorem Si {U:List Nat} {n i:Nat} (hU:U.Nodup) (hi:i<U.length):(tab n fun q=>if q∈U.take i then nV (U.idxOf q) else V.int .i64 (-1)).set U[i] (.int .i64 (i:Int))=tab n fun q=>if q∈U.take (i+1) then nV (U.idxOf q) else V.int .i64 (-1):=by
 rw[mQ]
 refine eo fun q _=> ?_
 have e:q∈U.take (i+1)↔q∈U.take i∨q=U[i]:=by rw[List.take_succ_eq_append_getElem hi,List.mem_append,List.mem_singleton]
 by_cases hq:q=U[i]
 ·rw[if_pos hq,if_pos (e.2 (.inr hq)),hq,hU.idxOf_getElem i hi];rfl
 ·rw[if_neg hq]
  by_cases h2:q∈U.take i
  ·rw[if_pos h2,if_pos (e.2 (.inl h2))]
  ·rw[if_neg h2,if_neg fun h3=>(e.1 h3).elim h2 hq]
theorem Sj {a:Da} (h:a.Ok):CC vO (cU a)=some (cU a.trim++[.list ah (iB (aq a.L a.nx a.st a.n) a.n)]):=by
 have hm:=h.eh
 have hU:=h.tO a.n
 have hle:=h.lR a.n
 refine acm ?_
 unfold Sg
 refine bs (tP h) ?_
 refine bF rfl ?_
 refine bs (acs h) ?_
 have e0:((V.nth (((([nV a.L,nV 0,V.int .i64 0]++(cU a++[V.list ab a.trim.cN,V.list aa a.trim.cv,V.list ah (nS (aq a.L a.nx a.st a.n))])).drop 3).drop 1).drop 1) 0).toList)=a.cN:=rfl
 rw[e0,Da.mT]
 refine bT (lT (by omega) (by omega)) ?_
 rw[Int.toNat_natCast,mR,dQ]
 generalize hUd:aq a.L a.nx a.st a.n=U at*
 have l1: ∀{c1 c2 c3 c4:Int} {s1 s2 s3 s4 s5:List V},Loop (EZ CC (a.n:Int) c1 c2 c3 c4 s1 s2 s3 s4 s5) (0,tab a.n fun _=>V.int .i64 0)=some ((a.n:Int),false,tab a.n fun q=>if q∈U.take 0 then nV (U.idxOf q) else V.int .i64 (-1)):=by
  intro c1 c2 c3 c4 s1 s2 s3 s4 s5
  refine (ez a.n (fun i=>((i:Int),(tab a.n fun j=>if j<i then V.int .i64 (-1) else V.int .i64 0))) _ (fun i hi=> ?_) ?_)
  ·simp only[EZ,zV,un]
   refine bT (dp hi) ?_
   refine (dE hi).trans ?_
   rw[cu (by omega),Int.toNat_natCast,mQ]
   refine congrArg (fun x=>some (Sum.inl (((i+1:Nat):Int),x))) (eo fun j _=> ?_)
   by_cases hj:j=i
   ·rw[if_pos hj,if_pos (by omega)]
   ·rw[if_neg hj]
    by_cases bU:j<i
    ·rw[if_pos bU,if_pos (by omega)]
    ·rw[if_neg bU,if_neg (by omega)]
  ·simp only[EZ,zV,un]
   refine bF (bt (Nat.le_refl _)) ?_
   rw[bt (Nat.le_refl _)]
   refine congrArg (fun x=>some (Sum.inr ((a.n:Int),false,x))) (eo fun j hj=> ?_)
   rw[if_pos hj,List.take_zero,if_neg (by simp)]
 refine bs l1 ?_
 simp only[un]
 have KN:U.Nodup:=by rw[←hUd];exact tL _
 have l2: ∀{c1 c2 c3 c4:Int} {s2 s3 s4 s5:List V},Loop (E1 CC ((nS U).length:Int) c1 c2 c3 c4 (nS U) s2 s3 s4 s5) (0,tab a.n fun q=>if q∈U.take 0 then nV (U.idxOf q) else V.int .i64 (-1))=some ((U.length:Int),false,iB U a.n):=by
  intro c1 c2 c3 c4 s2 s3 s4 s5
  rw[og]
  refine (ez U.length (fun i=>((i:Int),(tab a.n fun q=>if q∈U.take i then nV (U.idxOf q) else V.int .i64 (-1)))) _ (fun i hi=> ?_) ?_)
  ·have hq:=hU U[i] (List.getElem_mem hi)
   simp only[E1,zY,un]
   refine bT (dp hi) ?_
   refine (oa (v9 hi)).trans ?_
   refine (dE (i:=U[i]) hq).trans ?_
   rw[cu (by omega)]
   refine congrArg (fun x=>some (Sum.inl (((i+1:Nat):Int),x))) ?_
   exact Si KN hi
  ·simp only[E1,zY,un]
   refine bF (bt (Nat.le_refl _)) ?_
   rw[bt (Nat.le_refl _),List.take_length]
   rfl
 refine bs l2 ?_
 rfl
end Go.AM
set_option maxRecDepth 100000
set_option linter.unusedSimpArgs false
namespace Go.AM
section
variable {β:Type} [DecidableEq β]
def aM (g:Nat→β):Nat→List β
 | 0=>[]
 | n+1=>cM (aM g n) (g n)
theorem KO (g:Nat→β): ∀n,(aM g n).Nodup
 | 0=>List.nodup_nil
 | n+1=>Rn (KO g n)
theorem iC {g:Nat→β} {v:β}: ∀{n},v∈aM g n↔∃q,q<n∧g q=v
 | 0=>⟨fun h=>(by cases h),fun ⟨q,h,_⟩=>(by omega)⟩
 | n+1=>by
  have ih:=iC (g:=g) (v:=v) (n:=n)
  rw[aM]
  unfold cM
  constructor
  ·intro h
   split at h
   ·obtain ⟨q,h1,h2⟩:=ih.1 h;exact ⟨q,by omega,h2⟩
   ·rcases List.mem_append.1 h with h|h
    ·obtain ⟨q,h1,h2⟩:=ih.1 h;exact ⟨q,by omega,h2⟩
    ·exact ⟨n,by omega,(List.mem_singleton.1 h).symm⟩
  ·rintro ⟨q,h1,h2⟩
   rcases Nat.lt_or_ge q n with c|c
   ·exact (EH (aM g n) (g n)).subset (ih.2 ⟨q,c,h2⟩)
   ·obtain rfl:q=n:=by omega
    rw[←h2];exact tK
theorem acu {g:Nat→β} {m n:Nat} (h:m≤n):aM g m <+: aM g n:=by
 induction n with
 | zero=>rw[Nat.le_zero.1 h];exact List.prefix_refl _
 | succ n ih=>
  rcases Nat.lt_or_ge m (n+1) with c|c
  ·exact (ih (by omega)).trans (EH _ _)
  ·rw[show m=n+1 by omega];exact List.prefix_refl _
theorem qu (g:Nat→β): ∀n,(aM g n).length≤n
 | 0=>Nat.le_refl _
 | n+1=>by
  have:=qu g n
  rw[aM,n7]
  split<;>omega
def cf (g:Nat→β) (n q:Nat):Nat:=(aM g n).idxOf (g q)
theorem zZ {g:Nat→β} {n q:Nat} (h:q<n):cf g n q<(aM g n).length:=List.idxOf_lt_length_of_mem (iC.2 ⟨q,h,rfl⟩)
theorem z0 {g:Nat→β} {n p q:Nat} (hp:p<n) (hq:q<n):cf g n p=cf g n q↔g p=g q:=by
 constructor
 ·intro h
  have h1:=List.getElem_idxOf (zZ (g:=g) hp)
  have h2:=List.getElem_idxOf (zZ (g:=g) hq)
  rw[←h1,←h2]
  exact getElem_congr_idx h
 ·intro h;unfold cf;rw[h]
theorem z5 {g:Nat→β} {m n q:Nat} (h:q<m) (hm:m≤n):cf g n q=cf g m q:=tN (acu hm) (iC.2 ⟨q,h,rfl⟩)
theorem KP {g:Nat→β} {q:Nat} (h:g q∈aM g q):aM g (q+1)=aM g q:=by rw[aM];unfold cM;rw[if_pos h]
theorem E2 {g:Nat→β} {q:Nat} (h:g q∉aM g q):aM g (q+1)=aM g q++[g q]:=by rw[aM];unfold cM;rw[if_neg h]
theorem Sk {g:Nat→β} {n q:Nat} (hq:q<n) (h:g q∈aM g q):cf g n q=(aM g q).idxOf (g q):=by
 rw[z5 (show q<q+1 by omega) (by omega)]
 unfold cf
 rw[KP h]
theorem Sl {g:Nat→β} {n q:Nat} (hq:q<n) (h:g q∉aM g q):cf g n q=(aM g q).length:=by
 rw[z5 (show q<q+1 by omega) (by omega)]
 unfold cf
 rw[E2 h,List.idxOf_append,if_neg h]
 simp
def mV (p:Nat→Nat) (n:Nat):Prop:= ∀m,m≤n→aM p m=List.range (aM p m).length
theorem Sm (g:Nat→β) (n:Nat): ∀m,m≤n→aM (cf g n) m=List.range (aM g m).length:=by
 intro m
 induction m with
 | zero=>intro _;rfl
 | succ m ih=>
  intro hm
  have ih:=ih (by omega)
  have e1:cf g n m=cf g (m+1) m:=z5 (by omega) hm
  have e2:cf g (m+1) m=if g m∈aM g m then (aM g m).idxOf (g m) else (aM g m).length:=by
   unfold cf
   rw[aM]
   unfold cM
   split
   ·rfl
   ·rename_i h
    rw[List.idxOf_append,if_neg h]
    simp
  rw[aM,ih,aM,n7]
  unfold cM
  by_cases h:g m∈aM g m
  ·have:=List.idxOf_lt_length_of_mem h
   rw[if_pos h] at e2
   rw[if_pos h,if_pos (by rw[e1,e2];exact List.mem_range.2 this)]
  ·rw[if_neg h] at e2
   rw[if_neg h,if_neg (by rw[e1,e2];simp),e1,e2,List.range_succ]
theorem KQ (g:Nat→β) (n:Nat):mV (cf g n) n:=fun m hm=>by
 rw[Sm g n m hm,List.length_range]
theorem KR {γ:Type} [DecidableEq γ] {f:Nat→β} {c:Nat→γ} {n:Nat} (hr: ∀q q',q<n→q'<n→f q=f q'→c q=c q') (hl:(aM f n).length≤(aM c n).length):
  ∀q q',q<n→q'<n→c q=c q'→f q=f q':=by
 intro q q' hq bY hc
 refine Decidable.byContradiction fun hf=> ?_
 have rep: ∀v∈aM f n,∃q,q<n∧f q=v:=fun v hv=>iC.1 hv
 have: ∃R:β→Nat,∀v∈aM f n,R v<n∧f (R v)=v:=by
  classical
  refine ⟨fun v=>if h:v∈aM f n then Classical.choose (rep v h) else 0,fun v hv=> ?_⟩
  simp only[hv,dif_pos]
  exact Classical.choose_spec (rep v hv)
 obtain ⟨R,hR⟩:=this
 have gW:aM c n ⊆ ((aM f n).filter fun v=>decide (v≠f q')).map fun v=>c (R v):=by
  intro u hu
  obtain ⟨s,hs,rfl⟩:=iC.1 hu
  by_cases h:f s=f q'
  ·refine List.mem_map.2 ⟨f q,List.mem_filter.2 ⟨iC.2 ⟨q,hq,rfl⟩,decide_eq_true hf⟩,?_⟩
   have h1:=hR (f q) (iC.2 ⟨q,hq,rfl⟩)
   rw[hr _ _ h1.1 hq h1.2,hc,hr _ _ hs bY h]
  ·refine List.mem_map.2 ⟨f s,List.mem_filter.2 ⟨iC.2 ⟨s,hs,rfl⟩,decide_eq_true h⟩,?_⟩
   have h1:=hR (f s) (iC.2 ⟨s,hs,rfl⟩)
   exact hr _ _ h1.1 hs h1.2
 have h1:=List.Nodup.length_le_of_subset (KO c n) gW
 rw[List.length_map] at h1
 have h2:((aM f n).filter fun v=>decide (v≠f q')).length<(aM f n).length:=by
  have hm:f q'∈aM f n:=iC.2 ⟨q',bY,rfl⟩
  have aR:=List.length_filter_lt_length_iff_exists (p:=fun v=>decide (v≠f q')) (l:=aM f n)
  exact aR.2 ⟨f q',hm,by simp⟩
 omega
theorem Sn {γ:Type} [DecidableEq γ] {f:Nat→β} {c:Nat→γ} {n:Nat} (hr: ∀q q',q<n→q'<n→f q=f q'→c q=c q'):(aM c n).length≤(aM f n).length:=by
 rcases Nat.lt_or_ge (aM f n).length (aM c n).length with h|h
 ·have:=KR hr (by omega)
  have rep: ∀v∈aM f n,∃q,q<n∧f q=v:=fun v hv=>iC.1 hv
  have: ∃R:β→Nat,∀v∈aM f n,R v<n∧f (R v)=v:=by
   classical
   refine ⟨fun v=>if h:v∈aM f n then Classical.choose (rep v h) else 0,fun v hv=> ?_⟩
   simp only[hv,dif_pos]
   exact Classical.choose_spec (rep v hv)
  obtain ⟨R,hR⟩:=this
  have gW:aM c n ⊆ (aM f n).map fun v=>c (R v):=by
   intro u hu
   obtain ⟨s,hs,rfl⟩:=iC.1 hu
   have h1:=hR (f s) (iC.2 ⟨s,hs,rfl⟩)
   exact List.mem_map.2 ⟨f s,iC.2 ⟨s,hs,rfl⟩,hr _ _ h1.1 hs h1.2⟩
  have h1:=List.Nodup.length_le_of_subset (KO c n) gW
  rw[List.length_map] at h1
  omega
 ·exact h
theorem acv {γ:Type} [DecidableEq γ] {f:Nat→β} {c:Nat→γ} {n:Nat} (h: ∀q q',q<n→q'<n→(f q=f q'↔c q=c q')): ∀q,q<n→cf f n q=cf c n q:=by
 have key: ∀m,m≤n→(aM f m).length=(aM c m).length∧∀q,q<m→cf f m q=cf c m q:=by
  intro m
  induction m with
  | zero=>intro _;exact ⟨rfl,fun q hq=>by omega⟩
  | succ m ih=>
   intro hm
   obtain ⟨i1,i2⟩:=ih (by omega)
   have j9:f m∈aM f m↔c m∈aM c m:=by
    rw[iC,iC]
    exact ⟨fun ⟨q,h1,h2⟩=>⟨q,h1,(h q m (by omega) (by omega)).1 h2⟩,fun ⟨q,h1,h2⟩=>⟨q,h1,(h q m (by omega) (by omega)).2 h2⟩⟩
   refine ⟨?_,fun q hq=> ?_⟩
   ·rw[aM,aM,n7,n7,i1]
    by_cases hx:f m∈aM f m
    ·rw[if_pos hx,if_pos (j9.1 hx)]
    ·rw[if_neg hx,if_neg fun h=>hx (j9.2 h)]
   ·rcases Nat.lt_or_ge q m with c1|c1
    ·exact (z5 (g:=f) c1 (by omega)).trans ((i2 q c1).trans (z5 (g:=c) c1 (by omega)).symm)
    ·obtain rfl:q=m:=by omega
     unfold cf
     rw[aM,aM]
     by_cases hx:f q∈aM f q
     ·obtain ⟨r,h1,h2⟩:=iC.1 hx
      have h3:=(h r q (by omega) (by omega)).1 h2
      have:=i2 r h1
      unfold cf at this
      unfold cM
      rw[if_pos hx,if_pos (j9.1 hx),←h2,←h3,this]
     ·unfold cM
      rw[if_neg hx,if_neg fun h=>hx (j9.2 h),List.idxOf_append,List.idxOf_append,if_neg hx,if_neg fun h=>hx (j9.2 h)]
      simp[i1]
 exact (key n (Nat.le_refl _)).2
end
namespace Da
structure Part (a:Da) (c:Nat→Nat):Prop where
 coarse: ∀q q',q<a.n→q'<a.n→a.mO q a q'→c q=c q'
 fin: ∀q q',q<a.n→q'<a.n→c q=c q'→a.fin q=a.fin q'
def sig (a:Da) (c:Nat→Nat) (q:Nat):List Nat:=c q::(List.range a.L).map fun x=>c (a.nx q x)
theorem tU {a:Da} {c:Nat→Nat} {q q':Nat}:a.sig c q=a.sig c q'↔c q=c q'∧∀x,x<a.L→c (a.nx q x)=c (a.nx q' x):=by
 unfold sig
 rw[List.cons.injEq]
 refine and_congr Iff.rfl ⟨fun h x hx=> ?_,fun h=>List.map_congr_left fun x hx=>h x (List.mem_range.1 hx)⟩
 have:=congrArg (fun l=>l.getD x 0) h
 simpa[hx] using this
def E3 (a:Da) (c f:Nat→Nat):Prop:= ∀q q',q<a.n→q'<a.n→(f q=f q'↔a.sig c q=a.sig c q')
theorem E3.part {a:Da} {c f:Nat→Nat} (h:a.E3 c f) (ha:a.Ok) (hc:a.Part c):a.Part f where
 coarse q q' hq bY he:=(h q q' hq bY).2 (tU.2 ⟨hc.coarse q q' hq bY he,fun x hx=>hc.coarse _ _ (ha.ej hq hx) (ha.ej bY hx) (he.nx hx)⟩)
 fin q q' hq bY he:=hc.fin q q' hq bY (tU.1 ((h q q' hq bY).1 he)).1
def tW (a:Da) (p:Nat→Nat):Prop:=(∀q q',q<a.n→q'<a.n→(p q=p q'↔a.mO q a q'))∧mV p a.n
theorem Part.So {a:Da} {c:Nat→Nat} (hc:a.Part c) (ha:a.Ok) (hs: ∀q q',q<a.n→q'<a.n→c q=c q'→a.sig c q=a.sig c q'): ∀q q',q<a.n→q'<a.n→(c q=c q'↔a.mO q a q'):=by
 intro q q' hq bY
 refine ⟨fun h w=> ?_,hc.coarse q q' hq bY⟩
 induction w generalizing q q' with
 | nil=>intro _;rw[mP,mP];exact hc.fin q q' hq bY h
 | cons x w ih=>
  intro hw
  rw[EG,EG]
  exact ih _ _ (ha.ej hq hw.head) (ha.ej bY hw.head) ((tU.1 (hs q q' hq bY h)).2 x hw.head) hw.tail
def dF (p:Nat→Nat):Nat→List Nat
 | 0=>[]
 | n+1=>if p n∈aM p n then dF p n else dF p n++[n]
theorem E4 {p:Nat→Nat}: ∀n,(dF p n).map p=aM p n
 | 0=>rfl
 | n+1=>by
  rw[dF,aM]
  unfold cM
  split
  ·exact E4 n
  ·rw[List.map_append,E4 n];rfl
theorem wa {p:Nat→Nat} {n:Nat}:(dF p n).length=(aM p n).length:=by rw[←E4,List.length_map]
theorem tX {p:Nat→Nat}: ∀{n q},q∈dF p n→q<n
 | 0,q,h=>by cases h
 | n+1,q,h=>by
  rw[dF] at h
  split at h
  ·have:=tX h;omega
  ·rcases List.mem_append.1 h with h|h
   ·have:=tX h;omega
   ·rw[List.mem_singleton.1 h];omega
theorem wc {p:Nat→Nat} {n:Nat} (ho:mV p n) {c:Nat} (hc:c<(dF p n).length):p (dF p n)[c]=c:=by
 have h1:=ho n (Nat.le_refl _)
 have h2:((dF p n).map p)[c]? =some c:=by rw[E4,h1,List.getElem?_range (by rw[wa] at hc;exact hc)]
 rw[List.getElem?_map,List.getElem?_eq_getElem hc] at h2
 exact Option.some.inj h2
theorem z6 {p:Nat→Nat} {n q:Nat} (ho:mV p n) (hq:q<n):p q<(dF p n).length:=by
 have h1:p q∈aM p n:=iC.2 ⟨q,hq,rfl⟩
 rw[ho n (Nat.le_refl _),List.mem_range] at h1
 rw[wa];exact h1
def quo (a:Da) (p:Nat→Nat):Da where
 L:=a.L
 st:=p a.st
 F:=(dF p a.n).map a.fin
 N:=(dF p a.n).map fun q=>tab a.L fun x=>p (a.nx q x)
theorem qv {a:Da} {p:Nat→Nat}:(a.quo p).n=(dF p a.n).length:=by simp[quo,n]
theorem Sp {a:Da} {p:Nat→Nat} {c:Nat} (hc:c<(dF p a.n).length):(a.quo p).fin c=a.fin (dF p a.n)[c]:=by
 show ((dF p a.n).map a.fin).getD c false=_
 rw[fL (by simpa using hc),List.getElem_map]
theorem Sq {a:Da} {p:Nat→Nat} {c x:Nat} (hc:c<(dF p a.n).length) (hx:x<a.L):(a.quo p).nx c x=p (a.nx (dF p a.n)[c] x):=by
 show (((dF p a.n).map fun q=>tab a.L fun x=>p (a.nx q x)).getD c []).getD x 0=_
 rw[fL (l:=(dF p a.n).map fun q=>tab a.L fun x=>p (a.nx q x)) (by simpa using hc),List.getElem_map,vW hx]
section
variable {a:Da} {p:Nat→Nat} (ha:a.Ok) (hp:a.tW p)
include ha hp
theorem E5:(a.quo p).Ok where
 l1:=ha.l1
 l6:=ha.l6
 nN:=by rw[qv];simp[quo]
 row r hr:=by
  rw[qv]
  obtain ⟨q,hq,rfl⟩:=List.mem_map.1 (show r∈(dF p a.n).map _ from hr)
  refine ⟨by simp[quo],fun s hs=> ?_⟩
  obtain ⟨x,hx,rfl⟩:=zL.1 hs
  exact z6 hp.2 (ha.ej (tX hq) hx)
 s:=by rw[qv];exact z6 hp.2 ha.s
 eh:=by
  rw[qv,wa]
  have:=qu p a.n
  have:=ha.eh
  omega
theorem E6: ∀(w:List Nat) {q:Nat},q<a.n→WL a.L w→(a.quo p).acc (p q) w=a.acc q w
 | [],q,hq,_=>by
  have hc:=z6 hp.2 hq
  rw[mP,mP,Sp hc]
  have h1:=(hp.1 _ _ (tX (List.getElem_mem hc)) hq).1 (wc hp.2 hc)
  have:=h1 [] WL.nil
  rwa [mP,mP] at this
 | x::w,q,hq,hw=>by
  have hc:=z6 hp.2 hq
  have hr:=tX (List.getElem_mem hc)
  have h1:=(hp.1 _ _ hr hq).1 (wc hp.2 hc)
  have h2:=(hp.1 _ _ (ha.ej hr hw.head) (ha.ej hq hw.head)).2 (h1.nx hw.head)
  rw[EG,EG,Sq hc hw.head,h2]
  exact E6 w (ha.ej hq hw.head) hw.tail
theorem acw: ∀c d,c<(a.quo p).n→d<(a.quo p).n→(a.quo p).mO c (a.quo p) d→c=d:=by
 intro c d hc hd he
 rw[qv] at hc hd
 have r1:=tX (List.getElem_mem hc)
 have r2:=tX (List.getElem_mem hd)
 rw[←wc hp.2 hc,←wc hp.2 hd]
 refine (hp.1 _ _ r1 r2).2 fun w hw=> ?_
 rw[←E6 ha hp w r1 hw,←E6 ha hp w r2 hw,wc hp.2 hc,wc hp.2 hd]
 exact he w hw
theorem KS:(a.quo p).trim.Canon a.L (a.acc a.st):=by
 have h:=(E5 ha hp).abr (acw ha hp)
 exact ⟨h.ok,h.hL,h.st,h.num,h.red,fun w hw=>(h.kW w hw).trans (E6 ha hp w ha.s hw)⟩
end
end Da
end Go.AM
set_option maxRecDepth 100000
namespace Go.AM
open Go.Proofs
noncomputable abbrev rQ:Code:=cC Tryd.prog (aw.aW 109)
noncomputable def z7 (C:af) (t24:List V) (t25 aQ ba:Int) (bp bj:List V) (count t26:Int) (dd:List V) {β:Type} (kn:(Int × Int × (List V))→Option β) (kr:(Int × Int × Bool × (List V))→Option β):Option β:=
 bif decide ((t26:Int)<t25) then
  (idx t24 t26).bind fun x2=>
  (bp[0]?).bind fun x3=>
  bif !(x2.toBool==x3.toBool) then
  bif (decide (0≤t26))&&(decide (t26<(dd.length:Int))) then
   (dd[(t26:Int).toNat]?).bind fun x4=>
   kn (2,IntKind.wrap .i64 (t26+1),dd.set ((t26:Int).toNat) (.int .i64 1))
  else none
  else
  kn (count,IntKind.wrap .i64 (t26+1),dd)
 else
  kr (count,t26,decide ((t26:Int)<t25),dd)
noncomputable def E7 (C:af) (t24:List V) (t25 aQ ba:Int) (bp bj:List V):(Int × Int × (List V))→Option ((Int × Int × (List V)) ⊕ (Int × Int × Bool × (List V))):=un fun count=>un fun t26 dd=>z7 C t24 t25 aQ ba bp bj count t26 dd (fun y=>some (.inl y)) (fun r=>some (.inr r))
noncomputable def z8 (C:af) (count q:Int) (t46:List V) (t47 t48:Int) (t58:List V) (t59 aQ ba:Int) (bp bj dd numbers lX:List V) (t60 E8 E9 Fa Fb Fc Fe Ff:Int) {β:Type} (kn:(Int × Int × Int × Int × Int × Int × Int × Int)→Option β) (kr:(Int × Bool × Int × Int × Int × Int × Int × Int × Int)→Option β):Option β:=
 bif decide ((t60:Int)<t59) then
  (idx t58 t60).bind fun ey=>
  bif (decide (0≤ey.toInt))&&(decide (ey.toInt<(dd.length:Int))) then
  (dd[(ey.toInt:Int).toNat]?).bind fun lQ=>
  bif (decide (0≤(IntKind.wrap .i64 (1+t60))))&&(decide ((IntKind.wrap .i64 (1+t60))<7)) then
   bif Nat.blt (0+(((IntKind.wrap .i64 (1+t60):Int).toNat)*1)) 7 then
   kn (IntKind.wrap .i64 (t60+1),bif Nat.beq (0+(((IntKind.wrap .i64 (1+t60):Int).toNat)*1)) 0 then lQ.toInt else E8,bif Nat.beq (0+(((IntKind.wrap .i64 (1+t60):Int).toNat)*1)) 1 then lQ.toInt else E9,bif Nat.beq (0+(((IntKind.wrap .i64 (1+t60):Int).toNat)*1)) 2 then lQ.toInt else Fa,bif Nat.beq (0+(((IntKind.wrap .i64 (1+t60):Int).toNat)*1)) 3 then lQ.toInt else Fb,bif Nat.beq (0+(((IntKind.wrap .i64 (1+t60):Int).toNat)*1)) 4 then lQ.toInt else Fc,bif Nat.beq (0+(((IntKind.wrap .i64 (1+t60):Int).toNat)*1)) 5 then lQ.toInt else Fe,bif Nat.beq (0+(((IntKind.wrap .i64 (1+t60):Int).toNat)*1)) 6 then lQ.toInt else Ff)
   else none
  else none
  else none
 else
  kr (t60,decide ((t60:Int)<t59),E8,E9,Fa,Fb,Fc,Fe,Ff)
noncomputable def Fg (C:af) (count q:Int) (t46:List V) (t47 t48:Int) (t58:List V) (t59 aQ ba:Int) (bp bj dd numbers lX:List V):(Int × Int × Int × Int × Int × Int × Int × Int)→Option ((Int × Int × Int × Int × Int × Int × Int × Int) ⊕ (Int × Bool × Int × Int × Int × Int × Int × Int × Int)):=un fun t60=>un fun E8=>un fun E9=>un fun Fa=>un fun Fb=>un fun Fc=>un fun Fe Ff=>z8 C count q t46 t47 t48 t58 t59 aQ ba bp bj dd numbers lX t60 E8 E9 Fa Fb Fc Fe Ff (fun y=>some (.inl y)) (fun r=>some (.inr r))
noncomputable def z9 (C:af) (count:Int) (t46:List V) (t47 aQ ba:Int) (bp bj dd:List V) (t48:Int) (numbers lX:List V) {β:Type} (kn:(Int × (List V) × (List V))→Option β) (kr:(Int × Bool × (List V) × (List V))→Option β):Option β:=
 bif decide ((t48:Int)<t47) then
  (idx t46 t48).bind fun x9=>
  bif (decide (0≤t48))&&(decide (t48<(dd.length:Int))) then
  (dd[(t48:Int).toNat]?).bind fun gd=>
  (Loop (Fg C count t48 t46 t47 t48 x9.toList (x9.toList.length:Int) aQ ba bp bj dd numbers lX) (0,gd.toInt,0,0,0,0,0,0)).bind (un fun (mN:Int)=>un fun (zy:Bool)=>un fun (Aa:Int)=>un fun (Ab:Int)=>un fun (Ac:Int)=>un fun (Ad:Int)=>un fun (Ae:Int)=>un fun (Af:Int) (Ag:Int)=>
   bif (cR .i64 Aa&&(cR .i64 Ab&&(cR .i64 Ac&&(cR .i64 Ad&&(cR .i64 Ae&&(cR .i64 Af&&(cR .i64 Ag&&true)))))))&&true then
    bif !(fo (.agg [.int .i64 Aa,.int .i64 Ab,.int .i64 Ac,.int .i64 Ad,.int .i64 Ae,.int .i64 Af,.int .i64 Ag]) numbers) then
    bif (cR .i64 Aa&&(cR .i64 Ab&&(cR .i64 Ac&&(cR .i64 Ad&&(cR .i64 Ae&&(cR .i64 Af&&(cR .i64 Ag&&true)))))))&&true then
     bif (decide (0≤t48))&&(decide (t48<(lX.length:Int))) then
     (lX[(t48:Int).toNat]?).bind fun x22=>
     kn (IntKind.wrap .i64 (t48+1),eS (.agg [.int .i64 Aa,.int .i64 Ab,.int .i64 Ac,.int .i64 Ad,.int .i64 Ae,.int .i64 Af,.int .i64 Ag]) (.int .i64 (numbers.length:Int)) numbers,lX.set ((t48:Int).toNat) (.int .i64 (numbers.length:Int)))
     else none
    else none
    else
    bif (decide (0≤t48))&&(decide (t48<(lX.length:Int))) then
     (lX[(t48:Int).toNat]?).bind fun lb=>
     kn (IntKind.wrap .i64 (t48+1),numbers,lX.set ((t48:Int).toNat) (.int .i64 ((gK (.agg [.int .i64 Aa,.int .i64 Ab,.int .i64 Ac,.int .i64 Ad,.int .i64 Ae,.int .i64 Af,.int .i64 Ag]) numbers (.int .i64 0)).toInt)))
    else none
   else none)
  else none
 else
  kr (t48,decide ((t48:Int)<t47),numbers,lX)
noncomputable def Fh (C:af) (count:Int) (t46:List V) (t47 aQ ba:Int) (bp bj dd:List V):(Int × (List V) × (List V))→Option ((Int × (List V) × (List V)) ⊕ (Int × Bool × (List V) × (List V))):=un fun t48=>un fun numbers lX=>z9 C count t46 t47 aQ ba bp bj dd t48 numbers lX (fun y=>some (.inl y)) (fun r=>some (.inr r))
noncomputable def Ah (C:af) (aQ ba:Int) (bp bj:List V) (count:Int) (dd:List V) {β:Type} (kn:(Int × (List V))→Option β) (kr:(List V)→Option β):Option β:=
 bif (decide (0≤(dd.length:Int)))&&((decide ((dd.length:Int)≤(dd.length:Int)))&&(Nat.ble ((((dd.length:Int):Int).toNat)*8) bB)) then
  (Loop (Fh C count bj (bj.length:Int) aQ ba bp bj dd) (0,([]:List V),List.replicate (((dd.length:Int):Int).toNat) (V.int .i64 0))).bind (un fun (acx:Int)=>un fun (KT:Bool)=>un fun (Sr:List V) (Ss:List V)=>
   bif ((Sr.length:Int):Int)==count then
   kr Ss
   else
   kn ((Sr.length:Int),Ss))
 else none
noncomputable def Ai (C:af) (aQ ba:Int) (bp bj:List V):(Int × (List V))→Option ((Int × (List V)) ⊕ (List V)):=un fun count dd=>Ah C aQ ba bp bj count dd (fun y=>some (.inl y)) (fun r=>some (.inr r))
noncomputable def Su (C:af):cq:=fun β n ds k=>
 bif Nat.beq n 81 then bu JE [true,false,false,true,false,false,false,false,true] [[0,2,3,0,0,5,6,7,8,0]] (@z7 C) ds k else
 bif Nat.beq n 273 then bu JF [false,false,false,false,false,false,false,true,false,false,false,false,false,false,false,true,true,true,true,true,true,true] [[1,2,3,4,5,6,7,0,0,9,10,11,12,13,14,15,0,0,0,0,0,0,0]] (@z8 C) ds k else
 bif Nat.beq n 209 then bu JG [false,false,false,true,false,false,false,false,false,true,true] [[1,2,3,0,0,5,6,7,8,9,0,0]] (@z9 C) ds k else
 bif Nat.beq n 161 then bu JH [true,false,false,false,false,true] [[0]] (@Ah C) ds k else
 none
abbrev Fi (C:af) (b:ch):Prop:=cj Tryd.prog aw C (Su C) 109 (cJ Tryd.prog (aw.aW 109)) (aw.sin 109).a8.length b
theorem acy (C:af):Fi C (.loop (ar [1,1,1,0,1,0,0] rQ)):=
 bz JE [true,false,false,true,false,false,false,false,true] [[0,2,3,0,0,5,6,7,8,0]] (@z7 C) (by kernel_rfl) (aS (bs:=[]) (by kernel_rfl) av) (fun ds=>by kernel_rfl) (fun i x=>by kernel_rfl) (fun i x β k=>by kernel_rfl) (fun β ds k=>by kernel_rfl)
theorem acz (C:af):Fi C (.loop (ar [1,1,1,1,0,0,0,1,1,0,1,0,0,1,1,0,0,1,1,0,1,0,0] rQ)):=
 bz JF [false,false,false,false,false,false,false,true,false,false,false,false,false,false,false,true,true,true,true,true,true,true] [[1,2,3,4,5,6,7,0,0,9,10,11,12,13,14,15,0,0,0,0,0,0,0]] (@z8 C) (by kernel_rfl) (aS (bs:=[]) (by kernel_rfl) av) (fun ds=>by kernel_rfl) (fun i x=>by kernel_rfl) (fun i x β k=>by kernel_rfl) (fun β ds k=>by kernel_rfl)
theorem acA (C:af):Fi C (.loop (ar [1,1,1,1,0,0,0,1,1,0,1,0,0] rQ)):=
 bz JG [false,false,false,true,false,false,false,false,false,true,true] [[1,2,3,0,0,5,6,7,8,9,0,0]] (@z9 C) (by kernel_rfl) (aS (bs:=[.loop (ar [1,1,1,1,0,0,0,1,1,0,1,0,0,1,1,0,0,1,1,0,1,0,0] rQ)]) (by kernel_rfl) (bf (acz C) av)) (fun ds=>by kernel_rfl) (fun i x=>by kernel_rfl) (fun i x β k=>by kernel_rfl) (fun β ds k=>by kernel_rfl)
theorem acB (C:af):Fi C (.loop (ar [1,1,1,1,0,0] rQ)):=
 bz JH [true,false,false,false,false,true] [[0]] (@Ah C) (by kernel_rfl) (aS (bs:=[.loop (ar [1,1,1,1,0,0,0,1,1,0,1,0,0] rQ)]) (by kernel_rfl) (bf (acA C) av)) (fun ds=>by kernel_rfl) (fun i x=>by kernel_rfl) (fun i x β k=>by kernel_rfl) (fun β ds k=>by kernel_rfl)
noncomputable def Sv (C:af) (aX aY:Int) (aG bc:List V):Option (List V):=
 (C nX [.int .i64 aX,.int .i64 aY,.list ab aG,.list aa bc]).bind fun r1=>
 bif (((V.nth r1 0).toInt):Int) != 0 then
  some [.list ah ([]:List V)]
 else
  bif (decide (0≤(aG.length:Int)))&&((decide ((aG.length:Int)≤(aG.length:Int)))&&(Nat.ble ((((aG.length:Int):Int).toNat)*8) bB)) then
  (Loop (E7 C aG (aG.length:Int) aX aY aG bc) (1,0,List.replicate (((aG.length:Int):Int).toNat) (V.int .i64 0))).bind (un fun (acC:Int)=>un fun (nZ:Int)=>un fun (mM:Bool) (acD:List V)=>
   (Loop (Ai C aX aY aG bc) (acC,acD)).bind (fun (acE:List V)=>
    some [.list ah acE]))
  else none
theorem acF {aX aY:Int} {aG bc:List V} {r:Option (List V)} (h:Sv CC aX aY aG bc=r):CC Ea [.int .i64 aX,.int .i64 aY,.list ab aG,.list aa bc]=r:=
 bn (key:=109) (L:=Su CC) (bs:=[.loop (ar [1,1,1,0,1,0,0] rQ),.loop (ar [1,1,1,1,0,0] rQ)]) (by kernel_rfl) (bf (acy CC) (bf (acB CC) av)) (Eq.trans (by kernel_rfl) h)
end Go.AM
set_option maxRecDepth 100000
set_option linter.unusedSimpArgs false
namespace Go.AM
open Go.Proofs
def dA (a:Da) (c:Nat→Nat) (q t j:Nat):Nat:=if j=0 then c q else if j≤t then c (a.nx q (j-1)) else 0
def dw (a:Da) (c:Nat→Nat) (q:Nat):List Nat:=tab 7 (dA a c q a.L)
def Aj (s:List Nat):V:= .agg (s.map nV)
theorem Sw: ∀s t:List Nat,oy (s.map nV) (t.map nV)=decide (s=t)
 | [],[]=>rfl
 | [],b::t=>rfl
 | a::s,[]=>rfl
 | a::s,b::t=>by
  simp only[List.map_cons,oy]
  rw[Sw s t,Bool.eq_iff_iff]
  simp only[nV,qX]
  simp only[Bool.and_eq_true,beq_iff_eq,decide_eq_true_eq,List.cons.injEq]
  exact and_congr (by omega) Iff.rfl
theorem KU (s t:List Nat):iG (Aj s) (Aj t)=decide (s=t):=Sw s t
theorem KV {a:Da} (h:a.Ok) {c:Nat→Nat} {q q':Nat}:dw a c q=dw a c q'↔a.sig c q=a.sig c q':=by
 rw[Da.tU]
 have h6:=h.l6
 constructor
 ·intro e
  have g:=fun j (hj:j<7)=>congrArg (fun l:List Nat=>l.getD j 0) e
  unfold dw at g
  refine ⟨?_,fun x hx=> ?_⟩
  ·have:=g 0 (by omega)
   rw[vW (by omega),vW (by omega)] at this
   exact this
  ·have:=g (x+1) (by omega)
   rw[vW (by omega),vW (by omega)] at this
   unfold dA at this
   rwa [if_neg (by omega),if_pos (by omega),if_neg (by omega),if_pos (by omega)] at this
 ·rintro ⟨h1,h2⟩
  refine eo fun j _=> ?_
  unfold dA
  by_cases hj:j=0
  ·rw[if_pos hj,if_pos hj,h1]
  ·rw[if_neg hj,if_neg hj]
   by_cases bU:j≤a.L
   ·rw[if_pos bU,if_pos bU,h2 (j-1) (by omega)]
   ·rw[if_neg bU,if_neg bU]
theorem tY {a:Da} {c:Nat→Nat} {q t:Nat} (j:Nat):(bif Nat.beq (0+(t+1)*1) j then ((c (a.nx q t):Nat):Int) else ((dA a c q t j:Nat):Int))=((dA a c q (t+1) j:Nat):Int):=by
 by_cases hj:t+1=j
 ·rw[show Nat.beq (0+(t+1)*1) j=true from by rw[Nat.beq_eq];omega,cond_true,←hj]
  unfold dA
  rw[if_neg (by omega),if_pos (by omega)]
  rfl
 ·rw[show Nat.beq (0+(t+1)*1) j=false from by rw[←Bool.not_eq_true,Nat.beq_eq];omega,cond_false]
  unfold dA
  by_cases h0:j=0
  ·rw[if_pos h0,if_pos h0]
  ·rw[if_neg h0,if_neg h0]
   by_cases h1:j≤t
   ·rw[if_pos h1,if_pos (by omega)]
   ·rw[if_neg h1,if_neg (by omega)]
def cV (n:Nat) (c:Nat→Nat):List V:=tab n fun q=>nV (c q)
section
variable {a:Da} (h:a.Ok) {c:Nat→Nat}
include h
theorem acG {q:Nat} (hq:q<a.n) {k1 k2 k3 k4 k5 k6:Int} {l1 l2 l3 l4 l5:List V}:
  Loop (Fg CC k1 k2 l1 k3 k4 (tab a.L fun x=>iV (a.nx q x)) ((tab a.L fun x=>iV (a.nx q x)).length:Int) k5 k6 l2 l3 (cV a.n c) l4 l5) (0,(c q:Int),0,0,0,0,0,0)=
   some ((a.L:Int),false,(dA a c q a.L 0:Int),(dA a c q a.L 1:Int),(dA a c q a.L 2:Int),(dA a c q a.L 3:Int),(dA a c q a.L 4:Int),(dA a c q a.L 5:Int),(dA a c q a.L 6:Int)):=by
 have h6:=h.l6
 rw[dQ]
 refine (ez a.L (fun t=>((t:Int),(dA a c q t 0:Int),(dA a c q t 1:Int),(dA a c q t 2:Int),(dA a c q t 3:Int),(dA a c q t 4:Int),(dA a c q t 5:Int),(dA a c q t 6:Int))) _ (fun t ht=> ?_) ?_)
 ·simp only[Fg,z8,un]
  refine bT (dp ht) ?_
  refine bs (od ht) ?_
  refine (dE (i:=a.nx q t) (h.ej hq ht)).trans ?_
  have w:IntKind.wrap .i64 (1+(t:Int))=((t+1:Nat):Int):=by rw[wrap64 (by omega) (by omega)];omega
  rw[w,cu (by omega),Int.toNat_natCast]
  refine bT (Bool.and_eq_true_iff.2 ⟨decide_eq_true (by omega),decide_eq_true (by omega)⟩) ?_
  refine bT (show Nat.ble (0+(t+1)*1+1) 7=true by rw[Nat.ble_eq];omega) ?_
  show some (Sum.inl _)=some (Sum.inl _)
  refine congrArg (fun x=>some (Sum.inl x)) ?_
  exact Prod.ext rfl (Prod.ext (tY 0) (Prod.ext (tY 1) (Prod.ext (tY 2) (Prod.ext (tY 3) (Prod.ext (tY 4) (Prod.ext (tY 5) (tY 6)))))))
 ·simp only[Fg,z8,un]
  refine bF (bt (Nat.le_refl _)) ?_
  rw[bt (Nat.le_refl _)]
theorem acH (hc: ∀q,q<a.n→c q≤1000) {q:Nat} (hq:q<a.n) (j:Nat):dA a c q a.L j≤1000:=by
 unfold dA
 split
 ·exact hc q hq
 ·split
  ·exact hc _ (h.ej hq (by omega))
  ·omega
theorem acI (hc: ∀q,q<a.n→c q≤1000) {k1 k2 k3:Int} {l2:List V}:
  Loop (Fh CC k1 a.cv (a.cv.length:Int) k2 k3 l2 a.cv (cV a.n c)) (0,([]:List V),List.replicate ((((cV a.n c).length:Int):Int).toNat) (V.int .i64 0))=
   some ((a.n:Int),false,fx Aj 0 (aM (dw a c) a.n),cV a.n (cf (dw a c) a.n)):=by
 have hm:=h.eh
 have hl:(cV a.n c).length=a.n:=by simp[cV]
 rw[hl,Int.toNat_natCast,mR,Da.RU]
 refine (ez a.n (fun i=>((i:Int),fx Aj 0 (aM (dw a c) i),(tab a.n fun q=>if q<i then nV (cf (dw a c) a.n q) else nV 0))) _ (fun q hq=> ?_) ?_)
 ·have hle:=qu (dw a c) q
  simp only[Fh,z9,un]
  refine bT (dp hq) ?_
  refine bs (Da.lU hq) ?_
  refine (dE (i:=q) hq).trans ?_
  simp only[mU]
  refine bs (acG h hq) ?_
  have k0:=acH h hc hq
  have kk: ∀j,cR .i64 ((dA a c q a.L j:Nat):Int)=true:=fun j=>ES (by have:=k0 j;omega)
  have Sy:((cR .i64 ((dA a c q a.L 0:Nat):Int)&&(cR .i64 ((dA a c q a.L 1:Nat):Int)&&(cR .i64 ((dA a c q a.L 2:Nat):Int)&&(cR .i64 ((dA a c q a.L 3:Nat):Int)&&(cR .i64 ((dA a c q a.L 4:Nat):Int)&&(cR .i64 ((dA a c q a.L 5:Nat):Int)&&(cR .i64 ((dA a c q a.L 6:Nat):Int)&&true)))))))&&true)=true:=by
   simp only[kk,Bool.and_self]
  refine bT Sy ?_
  have ek:V.agg [V.int .i64 (dA a c q a.L 0:Int),V.int .i64 (dA a c q a.L 1:Int),V.int .i64 (dA a c q a.L 2:Int),V.int .i64 (dA a c q a.L 3:Int),V.int .i64 (dA a c q a.L 4:Int),V.int .i64 (dA a c q a.L 5:Int),V.int .i64 (dA a c q a.L 6:Int)]=Aj (dw a c q):=rfl
  simp only[un,ek]
  have e1:=tQ KU (dw a c q) (aM (dw a c) q) 0
  have fin: ∀v,v=nV (cf (dw a c) a.n q)→(tab a.n fun j=>if j<q then nV (cf (dw a c) a.n j) else nV 0).set q v=tab a.n fun j=>if j<q+1 then nV (cf (dw a c) a.n j) else nV 0:=by
   rintro v rfl
   rw[mQ]
   refine eo fun j _=> ?_
   by_cases hj:j=q
   ·rw[if_pos hj,if_pos (by omega),hj]
   ·rw[if_neg hj]
    by_cases bU:j<q
    ·rw[if_pos bU,if_pos (by omega)]
    ·rw[if_neg bU,if_neg (by omega)]
  rw[cu (by omega)]
  by_cases hx:dw a c q∈aM (dw a c) q
  ·refine bF (by rw[e1];simpa using hx) ?_
   refine (dE hq).trans ?_
   have e2:=vZ KU (dw a c q) (.int .i64 0) (aM (dw a c) q) 0 hx
   rw[Nat.zero_add,←Sk hq hx] at e2
   rw[e2,V.toInt_int,Int.toNat_natCast,show (V.int .i64 (cf (dw a c) a.n q:Int))=nV (cf (dw a c) a.n q) from rfl,fin _ rfl,KP hx]
  ·refine bT (by rw[e1];simpa using hx) ?_
   refine bT Sy ?_
   refine (dE hq).trans ?_
   have e2:=v5 KU (dw a c q) (aM (dw a c) q) 0 hx
   rw[Nat.zero_add] at e2
   rw[vY,e2,Int.toNat_natCast,←Sl hq hx,show (V.int .i64 (cf (dw a c) a.n q:Int))=nV (cf (dw a c) a.n q) from rfl,fin _ rfl,E2 hx]
 ·simp only[Fh,z9,un]
  refine bF (bt (Nat.le_refl _)) ?_
  rw[bt (Nat.le_refl _)]
  have:(tab a.n fun q=>if q<a.n then nV (cf (dw a c) a.n q) else nV 0)=cV a.n (cf (dw a c) a.n):=eo fun q hq=>if_pos hq
  rw[this]
def kq (a:Da):Nat→Nat
 | 0=>1
 | i+1=>if a.fin i=a.fin 0 then kq a i else 2
def e9 (a:Da) (q:Nat):Nat:=if a.fin q=a.fin 0 then 0 else 1
theorem acJ:(aM (e9 a) a.n).length=kq a a.n:=by
 have key: ∀m,(aM (e9 a) (m+1)=[0]∧kq a (m+1)=1)∨(aM (e9 a) (m+1)=[0,1]∧kq a (m+1)=2):=by
  intro m
  induction m with
  | zero=>left;simp[aM,cM,e9,kq]
  | succ m ih=>
   rw[aM,kq]
   unfold e9 cM
   by_cases hf:a.fin (m+1)=a.fin 0
   ·rw[if_pos hf,if_pos hf]
    rcases ih with ⟨i1,i2⟩|⟨i1,i2⟩
    ·left;refine ⟨?_,i2⟩;unfold e9 at i1;rw[i1];rfl
    ·right;refine ⟨?_,i2⟩;unfold e9 at i1;rw[i1];rfl
   ·rw[if_neg hf,if_neg hf]
    rcases ih with ⟨i1,i2⟩|⟨i1,i2⟩
    ·right;refine ⟨?_,rfl⟩;unfold e9 at i1;rw[i1];rfl
    ·right;refine ⟨?_,rfl⟩;unfold e9 at i1;rw[i1];rfl
 have hs:=h.s
 obtain ⟨m,hm⟩: ∃m,a.n=m+1:=⟨a.n-1,by omega⟩
 rw[hm]
 rcases key m with ⟨e1,e2⟩|⟨e1,e2⟩<;>rw[e1,e2]<;>rfl
theorem acK {k2 k3:Int} {l2:List V}:Loop (E7 CC a.cN (a.cN.length:Int) k2 k3 a.cN l2) (1,0,List.replicate ((((a.cN.length:Nat):Int)).toNat) (V.int .i64 0))=some ((kq a a.n:Int),(a.n:Int),false,cV a.n (e9 a)):=by
 have hm:=h.eh
 have hs:=h.s
 rw[Da.mT,Int.toNat_natCast,mR]
 refine (ez a.n (fun i=>((kq a i:Int),(i:Int),(tab a.n fun q=>if q<i then nV (e9 a q) else nV 0))) _ (fun q hq=> ?_) ?_)
 ·simp only[E7,z7,un]
  refine bT (dp hq) ?_
  refine bs (Da.rP hq) ?_
  refine bs (a:= .bool (a.fin 0)) (by unfold Da.cN;exact KH (by omega)) ?_
  rw[cu (by omega)]
  have fin:(tab a.n fun j=>if j<q then nV (e9 a j) else nV 0).set q (nV (e9 a q))=tab a.n fun j=>if j<q+1 then nV (e9 a j) else nV 0:=by
   rw[mQ]
   refine eo fun j _=> ?_
   by_cases hj:j=q
   ·rw[if_pos hj,if_pos (by omega),hj]
   ·rw[if_neg hj]
    by_cases bU:j<q
    ·rw[if_pos bU,if_pos (by omega)]
    ·rw[if_neg bU,if_neg (by omega)]
  simp only[V.jL]
  by_cases hf:a.fin q=a.fin 0
  ·refine bF (by rw[hf];simp) ?_
   have e:kq a (q+1)=kq a q:=by rw[kq,if_pos hf]
   have e2:(tab a.n fun j=>if j<q then nV (e9 a j) else nV 0)=tab a.n fun j=>if j<q+1 then nV (e9 a j) else nV 0:=eo fun j _=>by
    by_cases hj:j=q
    ·rw[if_neg (by omega),if_pos (by omega),hj];unfold e9;rw[if_pos hf]
    ·by_cases bU:j<q
     ·rw[if_pos bU,if_pos (by omega)]
     ·rw[if_neg bU,if_neg (by omega)]
   rw[e,e2]
  ·refine bT (by simpa using hf) ?_
   refine (dE hq).trans ?_
   have e:kq a (q+1)=2:=by rw[kq,if_neg hf]
   have e3:e9 a q=1:=by unfold e9;rw[if_neg hf]
   rw[e3] at fin
   rw[e,Int.toNat_natCast,show (V.int .i64 1)=nV 1 from rfl,fin];rfl
 ·simp only[E7,z7,un]
  refine bF (bt (Nat.le_refl _)) ?_
  rw[bt (Nat.le_refl _)]
  have:(tab a.n fun q=>if q<a.n then nV (e9 a q) else nV 0)=cV a.n (e9 a):=eo fun q hq=>if_pos hq
  rw[this]
theorem acL {k2 k3:Int} {l2:List V}: ∃p,Loop (Ai CC k2 k3 l2 a.cv) ((kq a a.n:Int),cV a.n (e9 a))=some (cV a.n p)∧a.tW p∧∀q,q<a.n→p q≤1000:=by
 have hm:=h.eh
 have:=P0 (step:=Ai CC k2 k3 l2 a.cv)
  (fun x=> ∃c,x=(((aM c a.n).length:Int),cV a.n c)∧a.Part c∧∀q,q<a.n→c q≤1000)
  (fun x=>a.n-x.1.toNat)
  (fun r=> ∃p,r=cV a.n p∧a.tW p∧∀q,q<a.n→p q≤1000) (fun x hx=> ?_) ((kq a a.n:Int),cV a.n (e9 a)) ⟨e9 a,by rw[acJ h],⟨?_,?_⟩,?_⟩
 ·obtain ⟨r,h1,p,rfl,h2,h3⟩:=this
  exact ⟨p,h1,h2,h3⟩
 ·obtain ⟨c,rfl,hp,hc⟩:=hx
  have hl:(cV a.n c).length=a.n:=by simp[cV]
  have mW:a.E3 c (cf (dw a c) a.n):=fun q q' hq bY=>(z0 hq bY).trans (KV h)
  have hle:=qu (dw a c) a.n
  have hb: ∀q,q<a.n→cf (dw a c) a.n q≤1000:=fun q hq=>by have:=zZ (g:=dw a c) hq;omega
  have tZ: ∀q q',q<a.n→q'<a.n→dw a c q=dw a c q'→c q=c q':=fun q q' hq bY e=>(Da.tU.1 ((KV h).1 e)).1
  have acM:=Sn tZ
  have cr:=acI h hc (k1:=((aM c a.n).length:Int)) (k2:=k2) (k3:=k3) (l2:=l2)
  by_cases he:(aM (dw a c) a.n).length=(aM c a.n).length
  ·right
   refine ⟨_,?_,cf (dw a c) a.n,rfl,⟨fun q q' hq bY=> ?_,KQ _ _⟩,hb⟩
   ·simp only[Ai,Ah,un]
    refine bT (by rw[hl];exact lT (by omega) (by omega)) ?_
    refine bs cr ?_
    refine bT (by rw[vY];simp[he]) ?_
    rfl
   ·have bN:=KR tZ (by omega)
    rw[z0 hq bY,←hp.So h (fun s s' hs ry e=>(KV h).1 (bN s s' hs ry e)) q q' hq bY]
    exact ⟨tZ q q' hq bY,bN q q' hq bY⟩
  ·left
   have e2:(aM (cf (dw a c) a.n) a.n).length=(aM (dw a c) a.n).length:=by rw[Sm _ _ _ (Nat.le_refl _),List.length_range]
   refine ⟨(((aM (dw a c) a.n).length:Int),cV a.n (cf (dw a c) a.n)),?_,⟨cf (dw a c) a.n,by rw[e2],mW.part h hp,hb⟩,?_⟩
   ·simp only[Ai,Ah,un]
    refine bT (by rw[hl];exact lT (by omega) (by omega)) ?_
    refine bs cr ?_
    refine bF (by rw[vY];simpa using fun e=>he (by omega)) ?_
    rw[vY]
   ·simp only[Int.toNat_natCast]
    omega
 ·intro q q' hq bY he
  have:=he [] WL.nil
  rw[Da.mP,Da.mP] at this
  unfold e9;rw[this]
 ·intro q q' hq bY he
  unfold e9 at he
  split at he<;>split at he
  ·rename_i h1 h2;rw[h1,h2]
  ·omega
  ·omega
  ·rename_i h1 h2
   revert h1 h2
   cases a.fin q<;>cases a.fin q'<;>cases a.fin 0<;>simp
 ·intro q _
  unfold e9;split<;>omega
theorem acN: ∃p,CC Ea (cU a)=some [.list ah (cV a.n p)]∧a.tW p∧∀q,q<a.n→p q≤1000:=by
 have hm:=h.eh
 obtain ⟨p,h1,h2,h3⟩:=acL h (k2:=(a.L:Int)) (k3:=(a.st:Int)) (l2:=a.cN)
 refine ⟨p,acF ?_,h2,h3⟩
 unfold Sv
 refine bs (tP h) ?_
 refine bF rfl ?_
 refine bT (by rw[Da.mT];exact lT (by omega) (by omega)) ?_
 refine bs (acK h) ?_
 refine bs h1 ?_
 rfl
end
end Go.AM
set_option maxRecDepth 100000
namespace Go.AM
open Go.Proofs
noncomputable abbrev we:Code:=cC Tryd.prog (aw.aW 86)
noncomputable def Ak (C:af) (q t29 t30:Int) (t47:List V) (t48 aQ ba:Int) (bp bj:List V) (ca cb wg wh:Int) (places dd:List V) (wi wj:Int) (bd bm bK b7 eZ Sz:List V) (t49:Int) (rows:List V) {β:Type} (kn:(Int × (List V))→Option β) (kr:(Int × Bool × (List V))→Option β):Option β:=
 bif decide ((t49:Int)<t48) then
  (idx t47 t49).bind fun x5=>
  bif (decide (0≤x5.toInt))&&(decide (x5.toInt<(dd.length:Int))) then
  (dd[(x5.toInt:Int).toNat]?).bind fun x6=>
  bif (decide (0≤t49))&&(decide (t49<(rows.length:Int))) then
   (rows[(t49:Int).toNat]?).bind fun x7=>
   kn (IntKind.wrap .i64 (t49+1),rows.set ((t49:Int).toNat) (.int .i64 x6.toInt))
  else none
  else none
 else
  kr (t49,decide ((t49:Int)<t48),rows)
noncomputable def Fj (C:af) (q t29 t30:Int) (t47:List V) (t48 aQ ba:Int) (bp bj:List V) (ca cb wg wh:Int) (places dd:List V) (wi wj:Int) (bd bm bK b7 eZ Sz:List V):(Int × (List V))→Option ((Int × (List V)) ⊕ (Int × Bool × (List V))):=un fun t49 rows=>Ak C q t29 t30 t47 t48 aQ ba bp bj ca cb wg wh places dd wi wj bd bm bK b7 eZ Sz t49 rows (fun y=>some (.inl y)) (fun r=>some (.inr r))
noncomputable def Al (C:af) (t29 aQ ba:Int) (bp bj:List V) (ca cb wg wh:Int) (places dd:List V) (wi wj:Int) (br bd bm bK:List V) (t30:Int) (b7 eZ:List V) {β:Type} (kn:(Int × (List V) × (List V))→Option β) (kr:(Int × Bool × (List V) × (List V))→Option β):Option β:=
 bif decide ((t30:Int)<t29) then
  bif (decide (0≤t30))&&(decide (t30<(dd.length:Int))) then
  (dd[(t30:Int).toNat]?).bind fun x3=>
  bif decide ((x3.toInt:Int)<(b7.length:Int)) then
   kn (IntKind.wrap .i64 (t30+1),b7,eZ)
  else
   bif (decide (0≤aQ))&&((decide (aQ≤aQ))&&(Nat.ble (((aQ:Int).toNat)*8) bB)) then
   bif (decide (0≤t30))&&(decide (t30<(bK.length:Int))) then
    (bK[(t30:Int).toNat]?).bind fun x4=>
    (Loop (Fj C t30 t29 t30 x4.toList (x4.toList.length:Int) aQ ba bp bj ca cb wg wh places dd wi wj br bd bm bK b7 eZ) (0,List.replicate ((aQ:Int).toNat) (V.int .i64 0))).bind (un fun (qk:Int)=>un fun (qp:Bool) (SA:List V)=>
     bif (decide (0≤t30))&&(decide (t30<(bm.length:Int))) then
     (bm[(t30:Int).toNat]?).bind fun ey=>
     bif Nat.ble ((b7.length+([.bool ey.toBool]:List V).length)*1) bB then
      bif Nat.ble ((eZ.length+([.list ah SA]:List V).length)*24) bB then
      kn (IntKind.wrap .i64 (t30+1),b7++([.bool ey.toBool]:List V),eZ++([.list ah SA]:List V))
      else none
     else none
     else none)
   else none
   else none
  else none
 else
  kr (t30,decide ((t30:Int)<t29),b7,eZ)
noncomputable def Fk (C:af) (t29 aQ ba:Int) (bp bj:List V) (ca cb wg wh:Int) (places dd:List V) (wi wj:Int) (br bd bm bK:List V):(Int × (List V) × (List V))→Option ((Int × (List V) × (List V)) ⊕ (Int × Bool × (List V) × (List V))):=un fun t30=>un fun b7 eZ=>Al C t29 aQ ba bp bj ca cb wg wh places dd wi wj br bd bm bK t30 b7 eZ (fun y=>some (.inl y)) (fun r=>some (.inr r))
noncomputable def Am (C:af) (t88 ca cb:Int) (dd:List V) (qw qx:Int) (numbers Fl br bd bm bK:List V) (t89:Int) (dI:List V) {β:Type} (kn:(Int × (List V))→Option β) (kr:(Int × Bool × (List V))→Option β):Option β:=
 bif decide ((t89:Int)<t88) then
  bif (decide (0≤t89))&&(decide (t89<(Fl.length:Int))) then
  (Fl[(t89:Int).toNat]?).bind fun mX=>
  bif (decide (0≤t89))&&(decide (t89<(dI.length:Int))) then
   (dI[(t89:Int).toNat]?).bind fun rR=>
   bif decide ((mX.toInt:Int)≥0) then
   bif (decide (0≤mX.toInt))&&(decide (mX.toInt<(dd.length:Int))) then
    (dd[(mX.toInt:Int).toNat]?).bind fun ld=>
    bif (decide (0≤ld.toInt))&&(decide (ld.toInt<(numbers.length:Int))) then
    (numbers[(ld.toInt:Int).toNat]?).bind fun qy=>
    bif (decide (0≤t89))&&(decide (t89<((dI.set ((t89:Int).toNat) (.int .i64 (-1))).length:Int))) then
     ((dI.set ((t89:Int).toNat) (.int .i64 (-1)))[(t89:Int).toNat]?).bind fun An=>
     kn (IntKind.wrap .i64 (t89+1),(dI.set ((t89:Int).toNat) (.int .i64 (-1))).set ((t89:Int).toNat) (.int .i64 qy.toInt))
    else none
    else none
   else none
   else
   kn (IntKind.wrap .i64 (t89+1),dI.set ((t89:Int).toNat) (.int .i64 (-1)))
  else none
  else none
 else
  kr (t89,decide ((t89:Int)<t88),dI)
noncomputable def Fm (C:af) (t88 ca cb:Int) (dd:List V) (qw qx:Int) (numbers Fl br bd bm bK:List V):(Int × (List V))→Option ((Int × (List V)) ⊕ (Int × Bool × (List V))):=un fun t89 dI=>Am C t88 ca cb dd qw qx numbers Fl br bd bm bK t89 dI (fun y=>some (.inl y)) (fun r=>some (.inr r))
noncomputable def SB (C:af):cq:=fun β n ds k=>
 bif Nat.beq n 161 then bu Jk [false,false,false,false,false,true,false,false,false,false,false,false,false,false,false,false,false,false,true,false,false,false,false,false,false] [[1,2,3,4,5,0,0,7,8,9,10,11,12,13,14,15,16,17,18,0,20,21,22,23,24,25]] (@Ak C) ds k else
 bif Nat.beq n 81 then bu Jl [false,true,false,false,false,false,false,false,false,false,false,false,false,false,false,false,false,false,true,true] [[1,0,0,3,4,5,6,7,8,9,10,11,12,13,14,15,16,17,18,0,0]] (@Al C) ds k else
 bif Nat.beq n 321 then bu Jm [false,true,false,false,false,false,false,false,true,false,false,false,false,false] [[1,0,0,3,4,5,6,7,8,0,10,11,12,13,14]] (@Am C) ds k else
 none
abbrev KW (C:af) (b:ch):Prop:=cj Tryd.prog aw C (SB C) 86 (cJ Tryd.prog (aw.aW 86)) (aw.sin 86).a8.length b
theorem acO (C:af):KW C (.loop (ar [1,1,1,1,0,1,0,0,1,1,0,0,1,1,1,0,1,0,0] we)):=
 bz Jk [false,false,false,false,false,true,false,false,false,false,false,false,false,false,false,false,false,false,true,false,false,false,false,false,false] [[1,2,3,4,5,0,0,7,8,9,10,11,12,13,14,15,16,17,18,0,20,21,22,23,24,25]] (@Ak C) (by kernel_rfl) (aS (bs:=[]) (by kernel_rfl) av) (fun ds=>by kernel_rfl) (fun i x=>by kernel_rfl) (fun i x β k=>by kernel_rfl) (fun β ds k=>by kernel_rfl)
theorem acP (C:af):KW C (.loop (ar [1,1,1,1,0,1,0,0] we)):=
 bz Jl [false,true,false,false,false,false,false,false,false,false,false,false,false,false,false,false,false,false,true,true] [[1,0,0,3,4,5,6,7,8,9,10,11,12,13,14,15,16,17,18,0,0]] (@Al C) (by kernel_rfl) (aS (bs:=[.loop (ar [1,1,1,1,0,1,0,0,1,1,0,0,1,1,1,0,1,0,0] we)]) (by kernel_rfl) (bf (acO C) av)) (fun ds=>by kernel_rfl) (fun i x=>by kernel_rfl) (fun i x β k=>by kernel_rfl) (fun β ds k=>by kernel_rfl)
theorem acQ (C:af):KW C (.loop (ar [1,1,1,1,1,1,1,0,1,0,0] we)):=
 bz Jm [false,true,false,false,false,false,false,false,true,false,false,false,false,false] [[1,0,0,3,4,5,6,7,8,0,10,11,12,13,14]] (@Am C) (by kernel_rfl) (aS (bs:=[]) (by kernel_rfl) av) (fun ds=>by kernel_rfl) (fun i x=>by kernel_rfl) (fun i x β k=>by kernel_rfl) (fun β ds k=>by kernel_rfl)
noncomputable def SC (C:af) (aX aY:Int) (aG bc:List V):Option (List V):=
 (C vO [.int .i64 aX,.int .i64 aY,.list ab aG,.list aa bc]).bind fun r1=>
 (C Ea [.int .i64 ((V.nth r1 0).toInt),.int .i64 ((V.nth (r1.drop 1) 0).toInt),.list ab ((V.nth (r1.drop 2) 0).toList),.list aa ((V.nth ((r1.drop 2).drop 1) 0).toList)]).bind fun r2=>
 (Loop (Fk C (((V.nth r2 0).toList).length:Int) aX aY aG bc 0 0 ((V.nth r1 0).toInt) ((V.nth (r1.drop 1) 0).toInt) ((V.nth (((r1.drop 2).drop 1).drop 1) 0).toList) ((V.nth r2 0).toList) aX 0 ([]:List V) ([]:List V) ((V.nth (r1.drop 2) 0).toList) ((V.nth ((r1.drop 2).drop 1) 0).toList)) (0,([]:List V),([]:List V))).bind (un fun (Ao:Int)=>un fun (mN:Bool)=>un fun (qt:List V) (tJ:List V)=>
  (C vO [.int .i64 aX,.int .i64 0,.list ab qt,.list aa tJ]).bind fun jq=>
  bif (decide (0≤(((V.nth (((r1.drop 2).drop 1).drop 1) 0).toList).length:Int)))&&((decide ((((V.nth (((r1.drop 2).drop 1).drop 1) 0).toList).length:Int)≤(((V.nth (((r1.drop 2).drop 1).drop 1) 0).toList).length:Int)))&&(Nat.ble ((((((V.nth (((r1.drop 2).drop 1).drop 1) 0).toList).length:Int):Int).toNat)*8) bB)) then
   (Loop (Fm C (((V.nth (((r1.drop 2).drop 1).drop 1) 0).toList).length:Int) 0 0 ((V.nth r2 0).toList) ((V.nth jq 0).toInt) ((V.nth (jq.drop 1) 0).toInt) ((V.nth (((jq.drop 2).drop 1).drop 1) 0).toList) ((V.nth (((r1.drop 2).drop 1).drop 1) 0).toList) ([]:List V) ([]:List V) ((V.nth (jq.drop 2) 0).toList) ((V.nth ((jq.drop 2).drop 1) 0).toList)) (0,List.replicate (((((V.nth (((r1.drop 2).drop 1).drop 1) 0).toList).length:Int):Int).toNat) (V.int .i64 0))).bind (un fun (acR:Int)=>un fun (KX:Bool) (acS:List V)=>
    some [.int .i64 ((V.nth jq 0).toInt),.int .i64 ((V.nth (jq.drop 1) 0).toInt),.list ab ((V.nth (jq.drop 2) 0).toList),.list aa ((V.nth ((jq.drop 2).drop 1) 0).toList),.list ah acS])
  else none)
theorem acT {aX aY:Int} {aG bc:List V} {r:Option (List V)} (h:SC CC aX aY aG bc=r):CC D0 [.int .i64 aX,.int .i64 aY,.list ab aG,.list aa bc]=r:=
 bn (key:=86) (L:=SB CC) (bs:=[.loop (ar [1,1,1,1,0,1,0,0] we),.loop (ar [1,1,1,1,1,1,1,0,1,0,0] we)]) (by kernel_rfl) (bf (acP CC) (bf (acQ CC) av)) (Eq.trans (by kernel_rfl) h)
end Go.AM
set_option maxRecDepth 100000
namespace Go.AM
open Go.Proofs
noncomputable def SD (C:af) (aX aY:Int) (aG bc:List V):Option (List V):=
 (C nX [.int .i64 aX,.int .i64 aY,.list ab aG,.list aa bc]).bind fun r1=>
 bif (((V.nth r1 0).toInt):Int) != 0 then
  some [.int .i64 0,.int .i64 0,.list ab ([]:List V),.list aa ([]:List V)]
 else
  (C D0 [.int .i64 aX,.int .i64 aY,.list ab aG,.list aa bc]).bind fun r2=>
  some [.int .i64 ((V.nth r2 0).toInt),.int .i64 ((V.nth (r2.drop 1) 0).toInt),.list ab ((V.nth (r2.drop 2) 0).toList),.list aa ((V.nth ((r2.drop 2).drop 1) 0).toList)]
theorem acU {aX aY:Int} {aG bc:List V} {r:Option (List V)} (h:SD CC aX aY aG bc=r):CC rI [.int .i64 aX,.int .i64 aY,.list ab aG,.list aa bc]=r:=
 bn (key:=54) (L:=cT) (bs:=[]) (by kernel_rfl) av (Eq.trans (by kernel_rfl) h)
end Go.AM
set_option maxRecDepth 100000
set_option linter.unusedSimpArgs false
namespace Go.AM
open Go.Proofs
theorem acV {p:Nat→Nat} {n:Nat} (h:mV p n) (hn:0<n):p 0=0:=by
 simpa[aM,cM] using h 1 (by omega)
theorem KY {p:Nat→Nat} {n i:Nat} (h:mV p n) (hi:i<n):p i∈aM p i↔p i<(Da.dF p i).length:=by
 rw[Da.wa]
 constructor
 ·intro hm
  rw[h i (by omega)] at hm
  simpa using hm
 ·intro hm
  rw[h i (by omega)]
  simpa using hm
theorem KZ (p:Nat→Nat) (n:Nat):(Da.dF p n).length≤n:=by rw[Da.wa];exact qu p n
def qF (a:Da) (p:Nat→Nat) (i:Nat):List V:=(Da.dF p i).map fun r=>V.bool (a.fin r)
def qN (a:Da) (p:Nat→Nat) (i:Nat):List V:=(Da.dF p i).map fun r=>fi a.L fun x=>p (a.nx r x)
theorem SE {a:Da} {p:Nat→Nat}:(a.quo p).cN=qF a p a.n∧(a.quo p).cv=qN a p a.n:=by
 constructor
 ·unfold Da.cN qF
  rw[zK _ 0,Da.qv]
  exact eo fun i hi=>by rw[Da.Sp hi,fL hi]
 ·unfold Da.cv qN
  rw[zK _ 0,Da.qv]
  refine eo fun i hi=> ?_
  unfold fi
  exact congrArg _ (eo fun x hx=>by rw[Da.Sq hi hx,fL hi])
section
variable {a:Da} (h:a.Ok) {p:Nat→Nat}
include h
theorem acW {q:Nat} (hq:q<a.n) {k1 k2 k3 k4 k5 k6 k7 k8 k9 K0 k11:Int} {l1 l2 l3 l4 l5 l6 l7 l8 l9:List V}:
  Loop (Fj CC k1 k2 k3 (tab a.L fun x=>iV (a.nx q x)) ((tab a.L fun x=>iV (a.nx q x)).length:Int) k4 k5 l1 l2 k6 k7 k8 k9 l3 (cV a.n p) K0 k11 l4 l5 l6 l7 l8 l9) (0,List.replicate (((a.L:Nat):Int).toNat) (V.int .i64 0))=
   some ((a.L:Int),false,(tab a.L fun x=>nV (p (a.nx q x)))):=by
 have h6:=h.l6
 rw[dQ,Int.toNat_natCast,mR]
 refine (ez a.L (fun t=>((t:Int),(tab a.L fun x=>if x<t then nV (p (a.nx q x)) else nV 0))) _ (fun t ht=> ?_) ?_)
 ·simp only[Fj,Ak,un]
  refine bT (dp ht) ?_
  refine bs (od ht) ?_
  refine (dE (i:=a.nx q t) (h.ej hq ht)).trans ?_
  refine (dE ht).trans ?_
  rw[cu (by omega),Int.toNat_natCast,mQ]
  refine congrArg (fun x=>some (Sum.inl (((t+1:Nat):Int),x))) (eo fun j _=> ?_)
  by_cases hj:j=t
  ·rw[if_pos hj,if_pos (by omega),hj];rfl
  ·rw[if_neg hj]
   by_cases bU:j<t
   ·rw[if_pos bU,if_pos (by omega)]
   ·rw[if_neg bU,if_neg (by omega)]
 ·simp only[Fj,Ak,un]
  refine bF (bt (Nat.le_refl _)) ?_
  rw[bt (Nat.le_refl _)]
  refine congrArg (fun x=>some (Sum.inr ((a.L:Int),false,x))) (eo fun j hj=>if_pos hj)
theorem acX (ho:mV p a.n) {k3 k4 k5 k6 k7 k8 k9:Int} {l1 l2 l3 l4 l5:List V}:
  Loop (Fk CC ((cV a.n p).length:Int) (a.L:Int) k3 l1 l2 k4 k5 k6 k7 l3 (cV a.n p) k8 k9 l4 l5 a.cN a.cv) (0,([]:List V),([]:List V))=
   some ((a.n:Int),false,qF a p a.n,qN a p a.n):=by
 have h6:=h.l6
 have hm:=h.eh
 rw[show (cV a.n p).length=a.n by simp[cV]]
 refine (ez a.n (fun i=>((i:Int),qF a p i,qN a p i)) _ (fun q hq=> ?_) ?_)
 ·have hle:=KZ p q
  have hF:(qF a p q).length=(Da.dF p q).length:=by simp[qF]
  have hN:(qN a p q).length=(Da.dF p q).length:=by simp[qN]
  simp only[Fk,Al,un]
  refine bT (dp hq) ?_
  refine (dE (i:=q) hq).trans ?_
  rw[cu (by omega)]
  simp only[nV,V.toInt_int]
  by_cases hx:p q∈aM p q
  ·refine bT (decide_eq_true (by rw[hF];have:=(KY ho hq).1 hx;omega)) ?_
   unfold qF qN
   rw[Da.dF,if_pos hx]
  ·refine bF (decide_eq_false (by rw[hF];intro h2;exact hx ((KY ho hq).2 (by omega)))) ?_
   refine bT (lT (by omega) (by omega)) ?_
   refine (dE (i:=q) hq).trans ?_
   simp only[mU]
   refine bs (acW h hq) ?_
   refine (dE (i:=q) hq).trans ?_
   refine bT (cap (by rw[hF];simp;omega) (by omega)) ?_
   refine bT (cap (by rw[hN];simp;omega) (by omega)) ?_
   unfold qF qN
   rw[Da.dF,if_neg hx,List.map_append,List.map_append]
   rfl
 ·simp only[Fk,Al,un]
  refine bF (bt (Nat.le_refl _)) ?_
  rw[bt (Nat.le_refl _)]
end
def qz (U U':List Nat) (p:Nat→Nat) (q:Nat):V:=if q∈U then iV ((if p (U.idxOf q)∈U' then nV (U'.idxOf (p (U.idxOf q))) else V.int .i64 (-1)).toInt) else V.int .i64 (-1)
theorem acY {n m k:Nat} {U U':List Nat} {p:Nat→Nat} (hn:n≤512) (hU:U.length≤m) (hp: ∀q,q<m→p q<k) {k1 k2 k3 k4:Int} {l1 l2 l3 l4:List V}:
  ∃X,Loop (Fm CC ((iB U n).length:Int) k1 k2 (cV m p) k3 k4 (iB U' k) (iB U n) l1 l2 l3 l4) (0,List.replicate ((((iB U n).length:Int):Int).toNat) (V.int .i64 0))=some ((n:Int),false,X):=by
 rw[show (iB U n).length=n by simp[iB],Int.toNat_natCast,mR]
 refine ⟨tab n fun q=>if q<n then qz U U' p q else V.int .i64 0,ez n (fun i=>((i:Int),(tab n fun q=>if q<i then qz U U' p q else V.int .i64 0))) _ (fun q hq=> ?_) ?_⟩
 ·simp only[Fm,Am,un]
  refine bT (dp hq) ?_
  refine (dE (i:=q) hq).trans ?_
  refine (dE (i:=q) hq).trans ?_
  rw[cu (by omega)]
  have fin: ∀v,v=qz U U' p q→((tab n fun j=>if j<q then qz U U' p j else V.int .i64 0).set q v)=tab n fun j=>if j<q+1 then qz U U' p j else V.int .i64 0:=by
   rintro v rfl
   rw[mQ]
   refine eo fun j _=> ?_
   by_cases hj:j=q
   ·rw[if_pos hj,if_pos (show j<q+1 by omega),hj]
   ·rw[if_neg hj]
    by_cases bU:j<q
    ·rw[if_pos bU,if_pos (show j<q+1 by omega)]
    ·rw[if_neg bU,if_neg (show¬j<q+1 by omega)]
  by_cases hx:q∈U
  ·have es:qz U U' p q=iV ((if p (U.idxOf q)∈U' then nV (U'.idxOf (p (U.idxOf q))) else V.int .i64 (-1)).toInt):=by unfold qz;rw[if_pos hx]
   have hi:=List.idxOf_lt_length_of_mem hx
   rw[if_pos hx]
   refine bT (decide_eq_true (by simp only[nV,V.toInt_int];omega)) ?_
   simp only[nV,V.toInt_int]
   refine (dE (i:=U.idxOf q) (by omega)).trans ?_
   simp only[nV,V.toInt_int]
   refine (dE (i:=p (U.idxOf q)) (hp _ (by omega))).trans ?_
   refine bT (by rw[List.length_set,dQ];exact abH hq) ?_
   refine bs (a:= .int .i64 (-1)) (by rw[Int.toNat_natCast,List.getElem?_set];simp[hq]) ?_
   rw[Int.toNat_natCast,List.set_set,←fin _ es.symm]
  ·rw[if_neg hx]
   refine bF (decide_eq_false (by simp)) ?_
   rw[Int.toNat_natCast,←fin _ (show V.int .i64 (-1)=qz U U' p q by unfold qz;rw[if_neg hx])]
 ·simp only[Fm,Am,un]
  refine bF (bt (Nat.le_refl _)) ?_
  rw[bt (Nat.le_refl _)]
theorem Canon.congr {m:Da} {L:Nat} {K K':List Nat→Bool} (h:m.Canon L K) (e: ∀w,WL L w→K w=K' w):m.Canon L K':=⟨h.ok,h.hL,h.st,h.num,h.red,fun w hw=>(h.kW w hw).trans (e w hw)⟩
theorem acZ {a:Da} (h:a.Ok): ∃m X,CC D0 (cU a)=some (cU m++[.list ah X])∧m.Canon a.L (a.acc a.st):=by
 have ht:=h.Rw
 have hm:=h.eh
 have hle:=h.lR a.n
 have e3:a.trim.n=(aq a.L a.nx a.st a.n).length:=ki
 obtain ⟨p,c1,c2,c3⟩:=acN ht
 have hq:=Da.E5 ht c2
 obtain ⟨q1,q2⟩:=SE (a:=a.trim) (p:=p)
 have ac0:=Da.KS ht c2
 have bN:(a.trim.quo p).st=0:=acV c2.2 ht.s
 have vo:=Sj hq
 obtain ⟨X,hX⟩:=acY (n:=a.n) (m:=a.trim.n) (k:=(a.trim.quo p).n) (U:=aq a.L a.nx a.st a.n) (U':=aq (a.trim.quo p).L (a.trim.quo p).nx (a.trim.quo p).st (a.trim.quo p).n) (p:=p) hm (by omega) (fun q hq=>by rw[Da.qv];exact Da.z6 c2.2 hq) (k1:=0) (k2:=0) (k3:=((a.trim.quo p).trim.L:Int)) (k4:=((a.trim.quo p).trim.st:Int)) (l1:=[]) (l2:=[]) (l3:=(a.trim.quo p).trim.cN) (l4:=(a.trim.quo p).trim.cv)
 refine ⟨(a.trim.quo p).trim,X,acT ?_,Canon.congr ac0 fun w hw=>h.Rx hw⟩
 unfold SC
 refine bs (Sj h) ?_
 refine bs c1 ?_
 refine bs (acX ht c2.2) ?_
 simp only[un]
 rw[←q1,←q2]
 have ac1:CC vO [.int .i64 (a.L:Int),.int .i64 0,.list ab (a.trim.quo p).cN,.list aa (a.trim.quo p).cv]=some (cU (a.trim.quo p).trim++[.list ah (iB (aq (a.trim.quo p).L (a.trim.quo p).nx (a.trim.quo p).st (a.trim.quo p).n) (a.trim.quo p).n)]):=by
  rw[←vo]
  unfold cU gn
  rw[bN];rfl
 refine bs ac1 ?_
 have e0:(iB (aq a.L a.nx a.st a.n) a.n).length=a.n:=by simp[iB]
 refine bT (show ((decide (0≤((iB (aq a.L a.nx a.st a.n) a.n).length:Int)))&&((decide (((iB (aq a.L a.nx a.st a.n) a.n).length:Int)≤((iB (aq a.L a.nx a.st a.n) a.n).length:Int)))&&(Nat.ble (((((iB (aq a.L a.nx a.st a.n) a.n).length:Nat):Int).toNat)*8) bB)))=true from lT (by rw[e0];omega) (by omega)) ?_
 refine bs hX ?_
 rfl
theorem SF {a:Da} (h:a.Ok): ∃m,CC rI (cU a)=some (cU m)∧m.Canon a.L (a.acc a.st):=by
 obtain ⟨m,X,h1,h2⟩:=acZ h
 refine ⟨m,acU ?_,h2⟩
 unfold SD
 refine bs (tP h) ?_
 refine bF rfl ?_
 refine bs h1 ?_
 rfl
open Classical in
noncomputable def minD (a:Da):Da:=if h: ∃m:Da,m.Canon a.L (a.acc a.st) then Classical.choose h else a
theorem wk {a:Da} (h:a.Ok):(minD a).Canon a.L (a.acc a.st):=by
 obtain ⟨m,_,h2⟩:=SF h
 have: ∃m:Da,m.Canon a.L (a.acc a.st):=⟨m,h2⟩
 unfold minD
 rw[dif_pos this]
 exact Classical.choose_spec this
theorem wm {a m:Da} (h:a.Ok) (hm:m.Canon a.L (a.acc a.st)):m=minD a:=hm.eq (wk h)
theorem Fo {a:Da} (h:a.Ok):CC rI (cU a)=some (cU (minD a)):=by
 obtain ⟨m,h1,h2⟩:=SF h
 rw[h1,wm h h2]
end Go.AM
set_option maxRecDepth 100000
set_option linter.unusedSimpArgs false
namespace Go.AM
section
variable {α:Type} [DecidableEq α] {L:Nat} {next:α→Nat→α} {a0:α}
theorem SG (S:List α) (a:α): ∀x,(aV next S a x).length≤S.length+x
 | 0=>Nat.le_refl _
 | x+1=>by
  have:=SG S a x
  rw[aV,n7]
  split<;>omega
theorem ac2 {m:Nat} (h:(aq L next a0 m).length≤m) (i:Nat):(aq L next a0 i).length≤m:=by
 rcases Nat.lt_or_ge m i with c|c
 ·rw[zA h (by omega)];exact h
 ·exact Nat.le_trans (jR c).length_le h
theorem SH {k:Nat} (hd:(aq L next a0 k).length≤k) (i:Nat):(aq L next a0 i).length≤(aq L next a0 k).length:=by
 rcases Nat.lt_or_ge k i with c|c
 ·rw[zA hd (by omega)];exact Nat.le_refl _
 ·exact (jR c).length_le
theorem SI {k m:Nat} (h:m<(aq L next a0 k).length):m<(aq L next a0 m).length:=by
 rcases Nat.lt_or_ge m (aq L next a0 m).length with c|c
 ·exact c
 ·have:=ac2 c k
  omega
theorem SJ {m:Nat} (h:m<(aq L next a0 m).length) (hm:1≤m): ∃i,i<m∧(∀j,j≤i→j<(aq L next a0 j).length∧(aq L next a0 j).length≤m)∧m<(aq L next a0 (i+1)).length:=by
 have key: ∀d k,k+d=m→(∀j,j≤k→(aq L next a0 j).length≤m)→∃i,i<m∧(∀j,j≤i→j<(aq L next a0 j).length∧(aq L next a0 j).length≤m)∧m<(aq L next a0 (i+1)).length:=by
  intro d
  induction d with
  | zero=>
   intro k hk hj
   have:=hj k (Nat.le_refl _)
   rw[show k=m by omega] at this
   omega
  | succ d ih=>
   intro k hk hj
   rcases Nat.lt_or_ge m (aq L next a0 (k+1)).length with c|c
   ·refine ⟨k,by omega,fun j SK=>⟨?_,hj j SK⟩,c⟩
    rcases Nat.lt_or_ge j (aq L next a0 j).length with c1|c1
    ·exact c1
    ·have h1:=hj j SK
     rw[←zA c1 (show j≤m by omega)] at h1
     omega
   ·refine ih (k+1) (by omega) fun j bU=> ?_
    rcases Nat.lt_or_ge j (k+1) with c1|c1
    ·exact hj j (by omega)
    ·rw[show j=k+1 by omega];exact c
 exact key m 0 (by omega) fun j hj=>by rw[Nat.le_zero.1 hj];simp[aq];omega
theorem ac3 {S:List α} {a:α} {m:Nat} (hS:S.length≤m) (h:m<(aV next S a L).length): ∃x,x<L∧(aV next S a x).length=m∧next a x∉aV next S a x∧∀y,y≤x→(aV next S a y).length≤m:=by
 have key: ∀d k,k+d=L→(∀y,y≤k→(aV next S a y).length≤m)→∃x,x<L∧(aV next S a x).length=m∧next a x∉aV next S a x∧∀y,y≤x→(aV next S a y).length≤m:=by
  intro d
  induction d with
  | zero=>
   intro k hk hj
   have:=hj k (Nat.le_refl _)
   rw[show k=L by omega] at this
   omega
  | succ d ih=>
   intro k hk hj
   rcases Nat.lt_or_ge m (aV next S a (k+1)).length with c|c
   ·have h0:=hj k (Nat.le_refl _)
    rw[aV,n7] at c
    split at c
    ·omega
    ·rename_i hn
     exact ⟨k,by omega,by omega,hn,hj⟩
   ·refine ih (k+1) (by omega) fun j bU=> ?_
    rcases Nat.lt_or_ge j (k+1) with c1|c1
    ·exact hj j (by omega)
    ·rw[show j=k+1 by omega];exact c
 exact key L 0 (by omega) fun y hy=>by rw[Nat.le_zero.1 hy];exact hS
theorem ac4 {P:α→Prop} (h0:P a0) (hP: ∀a,P a→∀x,x<L→P (next a x)) (i:Nat): ∀a∈aq L next a0 i,P a:=by
 intro a ha
 obtain ⟨w,hw,rfl⟩:=zC i a ha
 have: ∀(w:List Nat) (b:α),P b→WL L w→P (w.foldl next b):=by
  intro w
  induction w with
  | nil=>intro b hb _;exact hb
  | cons x w ih=>intro b hb hw;exact ih _ (hP b hb x hw.head) hw.tail
 exact this w a0 h0 hw
end
end Go.AM
set_option maxRecDepth 100000
set_option linter.unusedSimpArgs false
namespace Go.AM
open Go.Proofs
structure NP where
 p:Nat
 q:Nat
deriving DecidableEq
section
variable {a b:Da} (ha:a.Ok) (hb:b.Ok) (hL:a.L=b.L) {op:Nat}
include ha hb hL
end
def zD:Da:=⟨0,0,[],[]⟩
def ku (m:Da) (e:Int):List V:=[.int .i64 (m.L:Int),.int .i64 (m.st:Int),.int .i64 e,.list ab m.cN,.list aa m.cv]
section
variable {a b:Da} (ha:a.Ok) (hb:b.Ok) (hL:a.L=b.L) {op:Nat}
include ha hb hL
end
section
variable {a b:Da} (ha:a.Ok) (hb:b.Ok) (hL:a.L=b.L) {op:Nat}
include ha hb hL
end
end Go.AM
set_option maxRecDepth 100000
namespace Go.AM
open Go.Proofs
noncomputable def SM (C:af) (dm letter:Int) (Ap:List V):Option (List V):=
 (idx Ap letter).bind fun x1=>
 (C Ej [.list a9 x1.toList,.int .u64 dm]).bind fun r2=>
 some [.int .u64 ((V.nth r2 0).toInt),.list da Ap]
theorem ac5 {dm letter:Int} {Ap:List V} {r:Option (List V)} (h:SM CC dm letter Ap=r):CC oY [.int .u64 dm,.int .i64 letter,.list da Ap]=r:=
 bn (key:=138) (L:=cT) (bs:=[]) (by kernel_rfl) av (Eq.trans (by kernel_rfl) h)
end Go.AM
set_option maxRecDepth 100000
namespace Go.AM
open Go.Proofs
noncomputable def SN (C:af) (dm qq qs o0 o4:Int) (Fp:List V):Option (List V):=
 some [.bool (((IntKind.wrap .u64 ((BitVec.ofInt (IntKind.bits .u64) dm&&&BitVec.ofInt (IntKind.bits .u64) o4).toNat)):Int) != 0),.int .i64 qq,.int .i64 qs,.int .u64 o0,.int .u64 o4,.list ag Fp]
theorem ac6 {dm qq qs o0 o4:Int} {Fp:List V} {r:Option (List V)} (h:SN CC dm qq qs o0 o4 Fp=r):CC qg [.int .u64 dm,.int .i64 qq,.int .i64 qs,.int .u64 o0,.int .u64 o4,.list ag Fp]=r:=
 bn (key:=119) (L:=cT) (bs:=[]) (by kernel_rfl) av (Eq.trans (by kernel_rfl) h)
end Go.AM
set_option maxRecDepth 100000
namespace Go.AM
open Go.Proofs
noncomputable def SO (C:af) (x:Int) (bG:List V):Option (List V):=
 bif cR .u64 x&&true then
  bif cR .u64 x&&true then
  bif Nat.ble ((bG.length+([.int .u64 x]:List V).length)*8) bB then
   some [.int .i64 (bG.length:Int),.list a9 (bG++([.int .u64 x]:List V)),.list dP (eS (.int .u64 x) (.int .i64 (bG.length:Int)) ([]:List V))]
  else none
  else none
 else none
theorem ac7 {x:Int} {bG:List V} {r:Option (List V)} (h:SO CC x bG=r):CC y6 [.int .u64 x,.list a9 bG]=r:=
 bn (key:=137) (L:=cT) (bs:=[]) (by kernel_rfl) av (Eq.trans (by kernel_rfl) h)
end Go.AM
set_option maxRecDepth 100000
namespace Go.AM
open Go.Proofs
noncomputable def SP (C:af) (x:Int) (bG dz:List V):Option (List V):=
 bif cR .u64 x&&true then
  bif !(fo (.int .u64 x) dz) then
  bif cR .u64 x&&true then
   bif Nat.ble ((bG.length+([.int .u64 x]:List V).length)*8) bB then
   some [.int .i64 (bG.length:Int),.list dP (eS (.int .u64 x) (.int .i64 (bG.length:Int)) dz),.list a9 (bG++([.int .u64 x]:List V))]
   else none
  else none
  else
  some [.int .i64 ((gK (.int .u64 x) dz (.int .i64 0)).toInt),.list dP dz,.list a9 bG]
 else none
theorem ac8 {x:Int} {bG dz:List V} {r:Option (List V)} (h:SP CC x bG dz=r):CC IJ [.int .u64 x,.list a9 bG,.list dP dz]=r:=
 bn (key:=183) (L:=cT) (bs:=[]) (by kernel_rfl) av (Eq.trans (by kernel_rfl) h)
end Go.AM
set_option maxRecDepth 100000
namespace Go.AM
open Go.Proofs
noncomputable abbrev Fq:Code:=cC Tryd.prog (aw.aW 117)
noncomputable def Aq (C:af) (bR i state t36 lf lg lh lj:Int) (lk:List V) (lV lW aQ ba:Int) (br bd b7 eZ:List V) (t37:Int) (ll rows bm bK:List V) {β:Type} (kn:(Int × (List V) × (List V) × (List V) × (List V))→Option β) (kr:(Int × Bool × (List V) × (List V) × (List V) × (List V))→Option β):Option β:=
 bif decide ((t37:Int)<t36) then
  (C oY [.int .u64 state,.int .i64 t37,.list da ll]).bind fun r3=>
  (C IJ [.int .u64 ((V.nth r3 0).toInt),.list a9 bm,.list dP bK]).bind fun r4=>
  bif (decide (0≤t37))&&(decide (t37<(rows.length:Int))) then
  (rows[(t37:Int).toNat]?).bind fun x5=>
  kn (IntKind.wrap .i64 (t37+1),(V.nth (r3.drop 1) 0).toList,rows.set ((t37:Int).toNat) (.int .i64 ((V.nth r4 0).toInt)),(V.nth ((r4.drop 1).drop 1) 0).toList,(V.nth (r4.drop 1) 0).toList)
  else none
 else
  kr (t37,decide ((t37:Int)<t36),ll,rows,bm,bK)
noncomputable def Fs (C:af) (bR i state t36 lf lg lh lj:Int) (lk:List V) (lV lW aQ ba:Int) (br bd b7 eZ:List V):(Int × (List V) × (List V) × (List V) × (List V))→Option ((Int × (List V) × (List V) × (List V) × (List V)) ⊕ (Int × Bool × (List V) × (List V) × (List V) × (List V))):=un fun t37=>un fun ll=>un fun rows=>un fun bm bK=>Aq C bR i state t36 lf lg lh lj lk lV lW aQ ba br bd b7 eZ t37 ll rows bm bK (fun y=>some (.inl y)) (fun r=>some (.inr r))
noncomputable def Ar (C:af) (bR lV lW aQ ba:Int) (bP br:List V) (i:Int) (ll:List V) (lf lg lh lj:Int) (lk bd bm bK b7:List V) {β:Type} (kn:(Int × (List V) × Int × Int × Int × Int × (List V) × (List V) × (List V) × (List V) × (List V))→Option β) (kr:((Int × (List V) × Int × Int × Int × Int × (List V) × Int × Int × (List V) × (List V) × (List V)) ⊕ (Int × Bool × (List V) × Int × Int × Int × Int × (List V) × (List V) × (List V) × (List V) × (List V)))→Option β):Option β:=
 bif decide ((i:Int)<(bd.length:Int)) then
  bif (decide (0≤i))&&(decide (i<(bd.length:Int))) then
  (bd[(i:Int).toNat]?).bind fun x2=>
  bif (decide (0≤bR))&&((decide (bR≤bR))&&(Nat.ble (((bR:Int).toNat)*8) bB)) then
   (Loop (Fs C bR i x2.toInt ((List.replicate ((bR:Int).toNat) (V.int .i64 0)).length:Int) lf lg lh lj lk lV lW aQ ba bP br bK b7) (0,ll,List.replicate ((bR:Int).toNat) (V.int .i64 0),bd,bm)).bind (un fun (nZ:Int)=>un fun (mM:Bool)=>un fun (zS:List V)=>un fun (As:List V)=>un fun (Ft:List V) (K1:List V)=>
    bif decide (((Ft.length:Int):Int)>512) then
    kr (.inl (3,zS,lf,lg,lh,lj,lk,0,0,([]:List V),([]:List V),([]:List V)))
    else
    bif Nat.ble ((b7.length+([.list ah As]:List V).length)*24) bB then
     (C qg [.int .u64 x2.toInt,.int .i64 lf,.int .i64 lg,.int .u64 lh,.int .u64 lj,.list ag lk]).bind fun ky=>
     bif Nat.ble ((bK.length+([.bool ((V.nth ky 0).toBool)]:List V).length)*1) bB then
     kn (IntKind.wrap .i64 (i+1),zS,(V.nth (ky.drop 1) 0).toInt,(V.nth ((ky.drop 1).drop 1) 0).toInt,(V.nth (((ky.drop 1).drop 1).drop 1) 0).toInt,(V.nth ((((ky.drop 1).drop 1).drop 1).drop 1) 0).toInt,(V.nth (((((ky.drop 1).drop 1).drop 1).drop 1).drop 1) 0).toList,Ft,K1,bK++([.bool ((V.nth ky 0).toBool)]:List V),b7++([.list ah As]:List V))
     else none
    else none)
  else none
  else none
 else
  kr (.inr (i,decide ((i:Int)<(bd.length:Int)),ll,lf,lg,lh,lj,lk,bd,bm,bK,b7))
noncomputable def wo (C:af) (bR lV lW aQ ba:Int) (bP br:List V):(Int × (List V) × Int × Int × Int × Int × (List V) × (List V) × (List V) × (List V) × (List V))→Option ((Int × (List V) × Int × Int × Int × Int × (List V) × (List V) × (List V) × (List V) × (List V)) ⊕ ((Int × (List V) × Int × Int × Int × Int × (List V) × Int × Int × (List V) × (List V) × (List V)) ⊕ (Int × Bool × (List V) × Int × Int × Int × Int × (List V) × (List V) × (List V) × (List V) × (List V)))):=un fun i=>un fun ll=>un fun lf=>un fun lg=>un fun lh=>un fun lj=>un fun lk=>un fun bd=>un fun bm=>un fun bK b7=>Ar C bR lV lW aQ ba bP br i ll lf lg lh lj lk bd bm bK b7 (fun y=>some (.inl y)) (fun r=>some (.inr r))
noncomputable def SQ (C:af):cq:=fun β n ds k=>
 bif Nat.beq n 161 then bu JK [false,false,false,false,true,true,false,false,false,false,false,false,false,false,false,true,false,false,true,true,false,false] [[1,2,3,4,0,0,0,7,8,9,10,11,12,13,14,15,0,17,18,0,0,21,22]] (@Aq C) ds k else
 bif Nat.beq n 81 then bu JL [false,true,true,true,true,true,true,true,false,false,false,false,false,false,true,true,true,true] [[0,0,0,0,0,0,0,0,0,0,0,0],[1,0,0,0,0,0,0,0,0,9,10,11,12,13,14,0,0,0,0]] (@Ar C) ds k else
 none
abbrev SR (C:af) (b:ch):Prop:=cj Tryd.prog aw C (SQ C) 117 (cJ Tryd.prog (aw.aW 117)) (aw.sin 117).a8.length b
theorem ac9 (C:af):SR C (.loop (ar [1,1,1,1,0,1,0,0,1,0,0,1,1,0,1,0,0] Fq)):=
 bz JK [false,false,false,false,true,true,false,false,false,false,false,false,false,false,false,true,false,false,true,true,false,false] [[1,2,3,4,0,0,0,7,8,9,10,11,12,13,14,15,0,17,18,0,0,21,22]] (@Aq C) (by kernel_rfl) (aS (bs:=[]) (by kernel_rfl) av) (fun ds=>by kernel_rfl) (fun i x=>by kernel_rfl) (fun i x β k=>by kernel_rfl) (fun β ds k=>by kernel_rfl)
theorem ada (C:af):SR C (.loop (ar [1,1,1,1,0,1,0,0] Fq)):=
 bz JL [false,true,true,true,true,true,true,true,false,false,false,false,false,false,true,true,true,true] [[0,0,0,0,0,0,0,0,0,0,0,0],[1,0,0,0,0,0,0,0,0,9,10,11,12,13,14,0,0,0,0]] (@Ar C) (by kernel_rfl) (aS (bs:=[.loop (ar [1,1,1,1,0,1,0,0,1,0,0,1,1,0,1,0,0] Fq)]) (by kernel_rfl) (bf (ac9 C) av)) (fun ds=>by kernel_rfl) (fun i x=>by kernel_rfl) (fun i x β k=>by kernel_rfl) (fun β ds k=>by kernel_rfl)
noncomputable def K3 (C:af) (bR start:Int) (ll:List V) (lf lg lh lj:Int) (lk:List V):Option (List V):=
 (C y6 [.int .u64 start,.list a9 ([]:List V)]).bind fun r1=>
 (Loop (wo C bR 0 0 bR 0 ([]:List V) ([]:List V)) (0,ll,lf,lg,lh,lj,lk,(V.nth (r1.drop 1) 0).toList,(V.nth ((r1.drop 1).drop 1) 0).toList,([]:List V),([]:List V))).bind (cZ (un fun (mN:Int)=>un fun (qt:List V)=>un fun (tJ:Int)=>un fun (ua:Int)=>un fun (tR:Int)=>un fun (tS:Int)=>un fun (KK:List V)=>un fun (adb:Int)=>un fun (KL:Int)=>un fun (Au:List V)=>un fun (KM:List V) (ade:List V)=>
  some [.int .i64 adb,.int .i64 KL,.int .i64 mN,.list da qt,.int .i64 tJ,.int .i64 ua,.int .u64 tR,.int .u64 tS,.list ag KK,.list ab Au,.list aa KM,.list a9 ade]) (un fun (ain:Int)=>un fun (adf:Bool)=>un fun (adg:List V)=>un fun (adh:Int)=>un fun (adi:Int)=>un fun (adj:Int)=>un fun (adk:Int)=>un fun (adl:List V)=>un fun (EX:List V)=>un fun (Sd:List V)=>un fun (zU:List V) (K4:List V)=>
  some [.int .i64 bR,.int .i64 0,.int .i64 0,.list da adg,.int .i64 adh,.int .i64 adi,.int .u64 adj,.int .u64 adk,.list ag adl,.list ab zU,.list aa K4,.list a9 EX]))
theorem SS {bR start:Int} {ll:List V} {lf lg lh lj:Int} {lk:List V} {r:Option (List V)} (h:K3 CC bR start ll lf lg lh lj lk=r):CC tE [.int .i64 bR,.int .u64 start,.list da ll,.int .i64 lf,.int .i64 lg,.int .u64 lh,.int .u64 lj,.list ag lk]=r:=
 bn (key:=117) (L:=SQ CC) (bs:=[.loop (ar [1,1,1,1,0,1,0,0] Fq)]) (by kernel_rfl) (bf (ada CC) av) (Eq.trans (by kernel_rfl) h)
end Go.AM
set_option maxRecDepth 100000
namespace Go.AM
open Go.Proofs
noncomputable def K5 (C:af) (cl cH cm dc:Int) (ct:List V):Option (List V):=
 (C D3 [.int .i64 cl,.int .i64 cH,.int .u64 cm,.int .u64 dc,.list ag ct]).bind fun r1=>
 bif (((V.nth r1 0).toInt):Int) != 0 then
  some [.int .i64 0,.int .i64 0,.int .i64 ((V.nth r1 0).toInt),.list ab ([]:List V),.list aa ([]:List V),.list a9 ([]:List V)]
 else
  (C Ec [.int .i64 cl,.int .i64 cH,.int .u64 cm,.int .u64 dc,.list ag ct]).bind fun r2=>
  (C tE [.int .i64 cl,.int .u64 cm,.list da ((V.nth r2 0).toList),.int .i64 cl,.int .i64 cH,.int .u64 cm,.int .u64 dc,.list ag ct]).bind fun r3=>
  some [.int .i64 ((V.nth r3 0).toInt),.int .i64 ((V.nth (r3.drop 1) 0).toInt),.int .i64 ((V.nth (r3.drop 2) 0).toInt),.list ab ((V.nth (((r3.drop 3).drop 1).drop 5) 0).toList),.list aa ((V.nth ((((r3.drop 3).drop 1).drop 5).drop 1) 0).toList),.list a9 ((V.nth (((((r3.drop 3).drop 1).drop 5).drop 1).drop 1) 0).toList)]
theorem SU {cl cH cm dc:Int} {ct:List V} {r:Option (List V)} (h:K5 CC cl cH cm dc ct=r):CC yW [.int .i64 cl,.int .i64 cH,.int .u64 cm,.int .u64 dc,.list ag ct]=r:=
 bn (key:=99) (L:=cT) (bs:=[]) (by kernel_rfl) av (Eq.trans (by kernel_rfl) h)
end Go.AM
set_option maxRecDepth 100000
set_option linter.unusedSimpArgs false
namespace Go.AM
open Go.Proofs
def uV (q:Nat):V:= .int .u64 (q:Int)
def uM (S:List Nat):List V:=fx uV 0 S
theorem ub (a b:Nat):iG (uV a) (uV b)=decide (a=b):=abZ a b
theorem Fu {S:List Nat} {i:Nat} (h:i<S.length):(U1 S)[i]? =some (uV S[i]):=Ku (List.getElem?_eq_getElem h)
theorem SV {x:Nat} (hx:x<2^64):CC y6 [uV x,.list a9 []]=some [nV 0,.list a9 (U1 [x]),.list dP (uM [x])]:=by
 refine ac7 ?_
 unfold SO
 rw[v7 hx]
 exact bT rfl (bT rfl (bT (cap (by simp) (by omega)) rfl))
theorem adm {S:List Nat} {x:Nat} (hx:x<2^64) (hl:S.length≤1000000):CC IJ [uV x,.list a9 (U1 S),.list dP (uM S)]=some [nV ((cM S x).idxOf x),.list dP (uM (cM S x)),.list a9 (U1 (cM S x))]:=by
 refine ac8 ?_
 unfold SP
 have e1:=tQ ub x S 0
 rw[v7 hx]
 refine bT rfl ?_
 rw[show (V.int .u64 (x:Int))=uV x from rfl,KJ]
 by_cases h:x∈S
 ·refine bF (by rw[show fo (uV x) (uM S)=_ from e1];simpa using h) ?_
  have e2:=vZ ub x (.int .i64 0) S 0 h
  rw[show gK (uV x) (uM S) (.int .i64 0)=_ from e2,if_pos h,Nat.zero_add,show cM S x=S by unfold cM;rw[if_pos h]]
  rfl
 ·refine bT (by rw[show fo (uV x) (uM S)=_ from e1];simpa using h) ?_
  refine bT rfl ?_
  refine bT (cap (by rw[jQ];simp;omega) (by omega)) ?_
  have e2:=v5 ub x S 0 h
  rw[Nat.zero_add] at e2
  rw[jQ,show eS (uV x) (.int .i64 (S.length:Int)) (uM S)=_ from e2,if_neg h,show cM S x=S++[x] by unfold cM;rw[if_neg h]]
  simp[U1,nV,uM,uV]
def sn (E:List Ed) (s x:Nat):Nat:=gm E s (x:Int)
def sf (fin s:Nat):Bool:= !((s&&&fin)==0)
structure Nat6 (n:Nf) (L S:Nat):Prop where
 code:n.code=0
 ok:n.Ok
 hL:n.L=(L:Int)
 hS:n.S=(S:Int)
namespace Nat6
variable {n:Nf} {L S:Nat} (h:Nat6 n L S)
include h
theorem good:n.Good:=Nf.Z6 h.code
theorem l1:1≤L:=by have:=h.good.L1;have:=h.hL;omega
theorem l6:L≤6:=by have:=h.good.L6;have:=h.hL;omega
theorem oZ:S≤64:=by have:=h.good.S64;have:=h.hS;omega
theorem sS:n.S.toNat=S:=by have:=h.hS;omega
theorem lL:n.L.toNat=L:=by have:=h.hL;omega
theorem edF: ∀e∈n.E,e.f.toNat<S:=fun e he=>by have:=h.good.E e he;have:=h.hS;unfold Ed.In at*;omega
theorem SW: ∀e∈n.E,e.t.toNat<S:=fun e he=>by have:=h.good.E e he;have:=h.hS;unfold Ed.In at*;omega
theorem st:n.st<2^S:=by have:=h.good.st;rwa [h.sS] at this
theorem fin:n.fin<2^S:=by have:=h.good.fin;rwa [h.sS] at this
theorem pow:2^S≤2^64:=Nat.pow_le_pow_right (by omega) h.oZ
theorem next (s x:Nat):sn n.E s x<2^S:=Kq h.SW
end Nat6
def dR (n:Nf) (L S:Nat):List Nat:=aq L (sn n.E) n.st (2^S)
def eF (n:Nf) (L S:Nat):Da:=eY L (sn n.E) (sf n.fin) (dR n L S)
def fM (n:Nf) (L S:Nat):Prop:=512<(dR n L S).length
def tV (n:Nf) (L S:Nat):List V:=U2 (jo L S n.E)
def Fv (m:Da) (e:Int) (X:V):List V:=[.int .i64 (m.L:Int),.int .i64 (m.st:Int),.int .i64 e,.list ab m.cN,.list aa m.cv,X]
section
variable {n:Nf} {L S:Nat} (h:Nat6 n L S)
include h
theorem adn {s x:Nat} (hs:s<2^S) (hx:x<L):CC oY [uV s,nV x,.list da (tV n L S)]=some [uV (sn n.E s x),.list da (tV n L S)]:=by
 have hp:=h.pow
 refine ac5 ?_
 unfold SM
 have e1:idx (tV n L S) (x:Int)=some (.list a9 (U1 (kV S n.E (x:Int)))):=by
  rw[Ip rfl]
  unfold tV U2
  rw[List.getElem?_map,Kv hx];rfl
 refine bs e1 ?_
 have hr:vT (kV S n.E (x:Int)):=abi h.oZ h.SW
 have e2:=abh hr (s:=s) (by omega)
 have hl:(kV S n.E (x:Int)).length=S:=by simp[kV]
 rw[hl,abj (by omega) h.oZ h.edF] at e2
 refine bs e2 ?_
 rfl
theorem ado {s:Nat} (hs:s<2^S):CC qg (uV s::jn n [])=some (.bool (sf n.fin s)::jn n []):=by
 have hp:=h.pow
 have hf:=h.fin
 refine ac6 ?_
 unfold SN
 have e:IntKind.wrap .u64 ((BitVec.ofInt (IntKind.bits .u64) (s:Int)&&&BitVec.ofInt (IntKind.bits .u64) (n.fin:Int)).toNat)=((s&&&n.fin:Nat):Int):=u64_and (by omega) (by omega)
 rw[e]
 have e2:(((s&&&n.fin:Nat):Int) != 0)=sf n.fin s:=by
  unfold sf
  rw[Bool.eq_iff_iff]
  simp
 rw[e2];rfl
theorem sub_lt (i:Nat): ∀s∈aq L (sn n.E) n.st i,s<2^S:=ac4 (P:=fun s=>s<2^S) h.st (fun s _ x _=>h.next s x) i
theorem uc (i:Nat):(aq L (sn n.E) n.st i).length≤2^S:=by
 have:=Rv (L:=L) (next:=sn n.E) (a0:=n.st) (U:=List.range (2^S)) (List.mem_range.2 h.st) (fun s _ x _=>List.mem_range.2 (h.next s x)) i
 simpa using this
theorem adp {T U:List Nat} {s:Nat} (hs:s<2^S) (hT:T.length≤1000) (hp:aV (sn n.E) T s L <+: U) {i c1 c2:Int} {l1 l2 l3 l4:List V}:
  Loop (Fs CC (L:Int) i (s:Int) ((List.replicate (((L:Nat):Int).toNat) (V.int .i64 0)).length:Int) n.L n.S (n.st:Int) (n.fin:Int) (n.E.map Ed.enc) c1 c2 (L:Int) 0 l1 l2 l3 l4) (0,tV n L S,List.replicate (((L:Nat):Int).toNat) (V.int .i64 0),U1 T,uM T)=
   some ((L:Int),false,tV n L S,(tab L fun x=>nV (U.idxOf (sn n.E s x))),U1 (aV (sn n.E) T s L),uM (aV (sn n.E) T s L)):=by
 have h6:=h.l6
 have wq:=h.pow
 rw[Int.toNat_natCast,mR,dQ]
 refine (ez L (fun x=>((x:Int),tV n L S,(tab L fun j=>if j<x then nV (U.idxOf (sn n.E s j)) else nV 0),U1 (aV (sn n.E) T s x),uM (aV (sn n.E) T s x))) _ (fun x hx=> ?_) ?_)
 ·simp only[Fs,Aq,un]
  refine bT (dp hx) ?_
  refine bs (adn h hs hx) ?_
  have hl:=SG (next:=sn n.E) T s x
  have hn:=h.next s x
  refine bs (adm (S:=aV (sn n.E) T s x) (x:=sn n.E s x) (by omega) (by omega)) ?_
  refine (dE hx).trans ?_
  rw[cu (by omega),Int.toNat_natCast,mQ]
  have e:(cM (aV (sn n.E) T s x) (sn n.E s x)).idxOf (sn n.E s x)=U.idxOf (sn n.E s x):=(tN ((qo T s (show x+1≤L by omega)).trans hp) tK).symm
  show some (Sum.inl _)=some (Sum.inl _)
  refine congrArg (fun x=>some (Sum.inl x)) ?_
  refine Prod.ext rfl (Prod.ext rfl (Prod.ext ?_ (Prod.ext rfl rfl)))
  refine eo fun j _=> ?_
  by_cases hj:j=x
  ·rw[if_pos hj,if_pos (by omega),hj,←e];rfl
  ·rw[if_neg hj]
   by_cases bU:j<x
   ·rw[if_pos bU,if_pos (by omega)]
   ·rw[if_neg bU,if_neg (by omega)]
 ·simp only[Fs,Aq,un]
  refine bF (bt (Nat.le_refl _)) ?_
  rw[bt (Nat.le_refl _)]
  have:(tab L fun j=>if j<L then nV (U.idxOf (sn n.E s j)) else nV 0)=tab L fun j=>nV (U.idxOf (sn n.E s j)):=eo fun j hj=>if_pos hj
  rw[this]
theorem K6 {i:Nat} (ff:i<(aq L (sn n.E) n.st i).length) (hlen:(aq L (sn n.E) n.st i).length≤512) {U:List Nat} (hp:aq L (sn n.E) n.st (i+1) <+: U) {l1 l2 l3 l4:List V} (hl3:l3.length≤1000) (hl4:l4.length≤1000):
  wo CC (L:Int) 0 0 (L:Int) 0 l1 l2 ((i:Int),tV n L S,n.L,n.S,(n.st:Int),(n.fin:Int),n.E.map Ed.enc,U1 (aq L (sn n.E) n.st i),uM (aq L (sn n.E) n.st i),l3,l4)=
   if 512<(aq L (sn n.E) n.st (i+1)).length then some (.inr (.inl (3,tV n L S,n.L,n.S,(n.st:Int),(n.fin:Int),n.E.map Ed.enc,0,0,[],[],[])))
   else some (.inl (((i+1:Nat):Int),tV n L S,n.L,n.S,(n.st:Int),(n.fin:Int),n.E.map Ed.enc,U1 (aq L (sn n.E) n.st (i+1)),uM (aq L (sn n.E) n.st (i+1)),l3++[V.bool (sf n.fin (aq L (sn n.E) n.st i)[i])],l4++[V.list ah (tab L fun x=>nV (U.idxOf (sn n.E (aq L (sn n.E) n.st i)[i] x)))])):=by
 have h6:=h.l6
 have hq:=sub_lt h i _ (List.getElem_mem ff)
 have gT:aq L (sn n.E) n.st (i+1)=aV (sn n.E) (aq L (sn n.E) n.st i) (aq L (sn n.E) n.st i)[i] L:=KC (List.getElem?_eq_getElem ff)
 simp only[wo,Ar,un]
 refine bT (decide_eq_true (by rw[jQ];omega)) ?_
 refine (oa (Fu ff)).trans ?_
 refine bT (lT (by omega) (by omega)) ?_
 refine bs (adp h hq (by omega) (U:=U) (by rw[←gT];exact hp)) ?_
 rw[←gT]
 by_cases nP:512<(aq L (sn n.E) n.st (i+1)).length
 ·rw[if_pos nP]
  refine bT (decide_eq_true (by rw[jQ];omega)) ?_
  rfl
 ·rw[if_neg nP]
  refine bF (decide_eq_false (by rw[jQ];omega)) ?_
  refine bT (cap (by simp;omega) (by omega)) ?_
  refine bs (ado h hq) ?_
  refine bT (cap (by simp;omega) (by omega)) ?_
  rw[cu (by omega)]
  rfl
theorem adq (hn: ¬fM n L S): ∃X,CC tE (nV L::uV n.st:: .list da (tV n L S)::jn n [])=some ([nV L,nV 0,.int .i64 0,.list da (tV n L S)]++(jn n []++[.list ab (eF n L S).cN,.list aa (eF n L S).cv,X])):=by
 have h6:=h.l6
 have bN:=h.st
 have wq:=h.pow
 have hd:(aq L (sn n.E) n.st (2^S)).length≤2^S:=uc h _
 have hle: ∀i,(aq L (sn n.E) n.st i).length≤(dR n L S).length:=SH hd
 have adr:(dR n L S).length≤512:=by unfold fM at hn;omega
 refine ⟨.list a9 (U1 (dR n L S)),SS ?_⟩
 unfold K3
 refine bs (SV (x:=n.st) (by omega)) ?_
 have key:Loop (wo CC (L:Int) 0 0 (L:Int) 0 ([]:List V) ([]:List V)) (0,tV n L S,n.L,n.S,(n.st:Int),(n.fin:Int),n.E.map Ed.enc,U1 [n.st],uM [n.st],([]:List V),([]:List V))=
   some (.inr (((dR n L S).length:Int),false,tV n L S,n.L,n.S,(n.st:Int),(n.fin:Int),n.E.map Ed.enc,U1 (dR n L S),uM (dR n L S),(eF n L S).cN,(eF n L S).cv)):=by
  refine (ez (dR n L S).length (fun i=>((i:Int),tV n L S,n.L,n.S,(n.st:Int),(n.fin:Int),n.E.map Ed.enc,U1 (aq L (sn n.E) n.st i),uM (aq L (sn n.E) n.st i),(tab i fun j=>V.bool ((eF n L S).fin j)),(tab i fun j=>fi L ((eF n L S).nx j)))) _ (fun i hi=> ?_) ?_)
  ·have ff:=vU hd hi
   have hiK:i<2^S:=Nat.lt_of_lt_of_le hi hd
   have tT:(aq L (sn n.E) n.st i)[i]=(dR n L S)[i]:=(jR (show i≤2^S by omega)).getElem ff
   have ads:=hle (i+1)
   have adt:=hle i
   have:=K6 h ff (by omega) (U:=dR n L S) (jR (by omega)) (l1:=[]) (l2:=[]) (l3:=(tab i fun j=>V.bool ((eF n L S).fin j))) (l4:=(tab i fun j=>fi L ((eF n L S).nx j))) (by rw[dQ];omega) (by rw[dQ];omega)
   rw[if_neg (by omega),tT] at this
   rw[this,ko,ko]
   have e1:(eF n L S).fin i=sf n.fin (dR n L S)[i]:=zE hi
   have e2:fi L ((eF n L S).nx i)= .list ah (tab L fun x=>nV ((dR n L S).idxOf (sn n.E (dR n L S)[i] x))):=by
    unfold fi
    refine congrArg _ (eo fun x hx=> ?_)
    rw[show (eF n L S).nx i x=_ from tM hi hx];rfl
   rw[e1,e2]
  ·simp only[wo,Ar,un]
   rw[show aq L (sn n.E) n.st (dR n L S).length=dR n L S from zF hd,jQ]
   refine bF (bt (Nat.le_refl _)) ?_
   rw[bt (Nat.le_refl _)]
   have e3:(eF n L S).n=(dR n L S).length:=ki
   unfold Da.cN Da.cv
   rw[e3];rfl
 refine bs key ?_
 rfl
theorem adu (hn:fM n L S): ∃X,CC tE (nV L::uV n.st:: .list da (tV n L S)::jn n [])=some ([nV 0,nV 0,.int .i64 3,.list da (tV n L S)]++(jn n []++[.list ab [],.list aa [],X])):=by
 have h6:=h.l6
 have bN:=h.st
 have wq:=h.pow
 obtain ⟨m,hm1,nC,hm3⟩:=SJ (SI (show 512<(aq L (sn n.E) n.st (2^S)).length from hn)) (by omega)
 refine ⟨.list a9 [],SS ?_⟩
 unfold K3
 refine bs (SV (x:=n.st) (by omega)) ?_
 have key: ∃r,Loop (wo CC (L:Int) 0 0 (L:Int) 0 ([]:List V) ([]:List V)) (0,tV n L S,n.L,n.S,(n.st:Int),(n.fin:Int),n.E.map Ed.enc,U1 [n.st],uM [n.st],([]:List V),([]:List V))=some r∧r=(.inl (3,tV n L S,n.L,n.S,(n.st:Int),(n.fin:Int),n.E.map Ed.enc,0,0,[],[],[])):=by
  refine zM (fun i st=> ∃l3 l4:List V,l3.length=i∧l4.length=i∧st=((i:Int),tV n L S,n.L,n.S,(n.st:Int),(n.fin:Int),n.E.map Ed.enc,U1 (aq L (sn n.E) n.st i),uM (aq L (sn n.E) n.st i),l3,l4)) _ m 0 _ (fun i _ hi st bN=> ?_) (fun st bN=> ?_) ⟨[],[],rfl,rfl,rfl⟩
  ·obtain ⟨l3,l4,e3,e4,rfl⟩:=bN
   obtain ⟨h1,h2⟩:=nC i (by omega)
   have h3:=(nC (i+1) (by omega)).2
   have:=K6 h h1 h2 (List.prefix_refl _) (l1:=[]) (l2:=[]) (l3:=l3) (l4:=l4) (by omega) (by omega)
   rw[if_neg (by omega)] at this
   exact ⟨_,this,_,_,by simp[e3],by simp[e4],rfl⟩
  ·obtain ⟨l3,l4,e3,e4,rfl⟩:=bN
   rw[Nat.zero_add] at*
   obtain ⟨h1,h2⟩:=nC m (by omega)
   have:=K6 h h1 h2 (List.prefix_refl _) (l1:=[]) (l2:=[]) (l3:=l3) (l4:=l4) (by omega) (by omega)
   rw[if_pos (by omega)] at this
   exact ⟨_,this,rfl⟩
 obtain ⟨r,h1,rfl⟩:=key
 refine bs h1 ?_
 rfl
theorem adv (hn: ¬fM n L S): ∃X,CC yW (jn n [])=some (Fv (eF n L S) 0 (.list a9 X)):=by
 obtain ⟨X,hX⟩:=adq h hn
 refine ⟨X.toList,SU ?_⟩
 unfold K5
 have hv:=QL n h.ok
 rw[h.code] at hv
 refine bs hv (bF rfl ?_)
 have hs:=Rg n h.ok h.good
 rw[h.lL,h.sS] at hs
 refine bs hs ?_
 refine bs ((congrArg (fun z=>CC tE (.int .i64 z::uV n.st:: .list da (tV n L S)::jn n [])) h.hL).trans hX) ?_
 rfl
theorem adw (hn:fM n L S): ∃X,CC yW (jn n [])=some (Fv zD 3 (.list a9 X)):=by
 obtain ⟨X,hX⟩:=adu h hn
 refine ⟨X.toList,SU ?_⟩
 unfold K5
 have hv:=QL n h.ok
 rw[h.code] at hv
 refine bs hv (bF rfl ?_)
 have hs:=Rg n h.ok h.good
 rw[h.lL,h.sS] at hs
 refine bs hs ?_
 refine bs ((congrArg (fun z=>CC tE (.int .i64 z::uV n.st:: .list da (tV n L S)::jn n [])) h.hL).trans hX) ?_
 rfl
theorem ud (hn: ¬fM n L S):(eF n L S).Ok:=by
 unfold fM at hn
 exact Rt (uc h _) h.l1 h.l6 (show (dR n L S).length≤512 by omega)
theorem adx {w:List Nat} (hw:WL L w):(eF n L S).acc 0 w=sf n.fin (w.foldl (sn n.E) n.st):=by
 have h1:=Rs (fin:=sf n.fin) (uc h _) (zB _) hw
 have h2:=Rq (L:=L) (next:=sn n.E) (a0:=n.st) (2^S)
 rw[List.getElem?_eq_getElem (zB _)] at h2
 rw[Option.some.inj h2] at h1
 exact h1
end
end Go.AM
set_option maxRecDepth 100000
namespace Go.AM
open Go.Proofs
noncomputable abbrev Fw:Code:=cC Tryd.prog (aw.aW 107)
noncomputable def wu (C:af) (i aQ ba:Int) (bp bj:List V) (x:Int) (dI lY ln:List V) {β:Type} (kn:(Int × (List V) × (List V) × (List V))→Option β) (kr:(Int × Bool × (List V) × (List V) × (List V))→Option β):Option β:=
 bif decide ((x:Int)<aQ) then
  bif (decide (0≤i))&&(decide (i<(dI.length:Int))) then
  (dI[(i:Int).toNat]?).bind fun x2=>
  (idx bj x2.toInt).bind fun x3=>
  (idx x3.toList x).bind fun x4=>
  bif (decide (0≤x4.toInt))&&(decide (x4.toInt<(ln.length:Int))) then
   (ln[(x4.toInt:Int).toNat]?).bind fun x5=>
   bif !x5.toBool then
   bif (decide (0≤x4.toInt))&&(decide (x4.toInt<(ln.length:Int))) then
    (ln[(x4.toInt:Int).toNat]?).bind fun x6=>
    bif Nat.ble ((dI.length+([.int .i64 x4.toInt]:List V).length)*8) bB then
    bif (decide (0≤i))&&(decide (i<(lY.length:Int))) then
     (lY[(i:Int).toNat]?).bind fun x7=>
     bif Nat.ble (x7.toStr.length+(iI ([.int .u8 (IntKind.wrap .u8 (IntKind.wrap .i64 (97+x)))]:List V)).length) sr then
     bif Nat.ble ((lY.length+([.str (x7.toStr++(iI ([.int .u8 (IntKind.wrap .u8 (IntKind.wrap .i64 (97+x)))]:List V)))]:List V).length)*16) bB then
      kn (IntKind.wrap .i64 (x+1),dI++([.int .i64 x4.toInt]:List V),lY++([.str (x7.toStr++(iI ([.int .u8 (IntKind.wrap .u8 (IntKind.wrap .i64 (97+x)))]:List V)))]:List V),ln.set ((x4.toInt:Int).toNat) (.bool true))
     else none
     else none
    else none
    else none
   else none
   else
   kn (IntKind.wrap .i64 (x+1),dI,lY,ln)
  else none
  else none
 else
  kr (x,decide ((x:Int)<aQ),dI,lY,ln)
noncomputable def Av (C:af) (i aQ ba:Int) (bp bj:List V):(Int × (List V) × (List V) × (List V))→Option ((Int × (List V) × (List V) × (List V)) ⊕ (Int × Bool × (List V) × (List V) × (List V))):=un fun x=>un fun dI=>un fun lY ln=>wu C i aQ ba bp bj x dI lY ln (fun y=>some (.inl y)) (fun r=>some (.inr r))
noncomputable def Aw (C:af) (aQ ba:Int) (bp bj:List V) (i:Int) (dI lY ln:List V) {β:Type} (kn:(Int × (List V) × (List V) × (List V))→Option β) (kr:(Int × Bool × (List V) × (List V) × (List V))→Option β):Option β:=
 bif decide ((i:Int)<(dI.length:Int)) then
  (Loop (Av C i aQ ba bp bj) (0,dI,lY,ln)).bind (un fun (x_8:Int)=>un fun (qp:Bool)=>un fun (ady:List V)=>un fun (adz:List V) (adA:List V)=>
   kn (IntKind.wrap .i64 (i+1),ady,adz,adA))
 else
  kr (i,decide ((i:Int)<(dI.length:Int)),dI,lY,ln)
noncomputable def Fx (C:af) (aQ ba:Int) (bp bj:List V):(Int × (List V) × (List V) × (List V))→Option ((Int × (List V) × (List V) × (List V)) ⊕ (Int × Bool × (List V) × (List V) × (List V))):=un fun i=>un fun dI=>un fun lY ln=>Aw C aQ ba bp bj i dI lY ln (fun y=>some (.inl y)) (fun r=>some (.inr r))
noncomputable def SX (C:af):cq:=fun β n ds k=>
 bif Nat.beq n 129 then bu JA [false,true,false,false,false,false,true,true,true] [[1,0,0,3,4,5,6,0,0,0]] (@wu C) ds k else
 bif Nat.beq n 81 then bu JB [true,false,false,false,false,true,true,true] [[0,0,2,3,4,5,0,0,0]] (@Aw C) ds k else
 none
abbrev SY (C:af) (b:ch):Prop:=cj Tryd.prog aw C (SX C) 107 (cJ Tryd.prog (aw.aW 107)) (aw.sin 107).a8.length b
theorem adB (C:af):SY C (.loop (ar [1,1,1,1,0,1,0,0,1,0,0,1,0,0] Fw)):=
 bz JA [false,true,false,false,false,false,true,true,true] [[1,0,0,3,4,5,6,0,0,0]] (@wu C) (by kernel_rfl) (aS (bs:=[]) (by kernel_rfl) av) (fun ds=>by kernel_rfl) (fun i x=>by kernel_rfl) (fun i x β k=>by kernel_rfl) (fun β ds k=>by kernel_rfl)
theorem adC (C:af):SY C (.loop (ar [1,1,1,1,0,1,0,0] Fw)):=
 bz JB [true,false,false,false,false,true,true,true] [[0,0,2,3,4,5,0,0,0]] (@Aw C) (by kernel_rfl) (aS (bs:=[.loop (ar [1,1,1,1,0,1,0,0,1,0,0,1,0,0] Fw)]) (by kernel_rfl) (bf (adB C) av)) (fun ds=>by kernel_rfl) (fun i x=>by kernel_rfl) (fun i x β k=>by kernel_rfl) (fun β ds k=>by kernel_rfl)
noncomputable def SZ (C:af) (aX aY:Int) (aG bc:List V):Option (List V):=
 bif (decide (0≤(aG.length:Int)))&&((decide ((aG.length:Int)≤(aG.length:Int)))&&(Nat.ble ((((aG.length:Int):Int).toNat)*1) bB)) then
  bif (decide (0≤aY))&&(decide (aY<((List.replicate (((aG.length:Int):Int).toNat) (V.bool false)).length:Int))) then
  ((List.replicate (((aG.length:Int):Int).toNat) (V.bool false))[(aY:Int).toNat]?).bind fun x1=>
  (Loop (Fx C aX aY aG bc) (0,([.int .i64 aY]:List V),([.str []]:List V),(List.replicate (((aG.length:Int):Int).toNat) (V.bool false)).set ((aY:Int).toNat) (.bool true))).bind (un fun (aio:Int)=>un fun (zy:Bool)=>un fun (adD:List V)=>un fun (adE:List V) (aip:List V)=>
   some [.list ah adD,.list mL adE])
  else none
 else none
theorem adF {aX aY:Int} {aG bc:List V} {r:Option (List V)} (h:SZ CC aX aY aG bc=r):CC D9 [.int .i64 aX,.int .i64 aY,.list ab aG,.list aa bc]=r:=
 bn (key:=107) (L:=SX CC) (bs:=[.loop (ar [1,1,1,1,0,1,0,0] Fw)]) (by kernel_rfl) (bf (adC CC) av) (Eq.trans (by kernel_rfl) h)
end Go.AM
set_option maxRecDepth 100000
namespace Go.AM
open Go.Proofs
noncomputable abbrev rS:Code:=cC Tryd.prog (aw.aW 85)
noncomputable def Ax (C:af) (t26 aQ ba:Int) (bp bj:List V) (ca cb:Int) (dI cP bP:List V) (t27:Int) (places:List V) {β:Type} (kn:(Int × (List V))→Option β) (kr:(Int × Bool × (List V))→Option β):Option β:=
 bif decide ((t27:Int)<t26) then
  bif (decide (0≤t27))&&(decide (t27<(places.length:Int))) then
  (places[(t27:Int).toNat]?).bind fun x2=>
  kn (IntKind.wrap .i64 (t27+1),places.set ((t27:Int).toNat) (.int .i64 (-1)))
  else none
 else
  kr (t27,decide ((t27:Int)<t26),places)
noncomputable def Fy (C:af) (t26 aQ ba:Int) (bp bj:List V) (ca cb:Int) (dI cP bP:List V):(Int × (List V))→Option ((Int × (List V)) ⊕ (Int × Bool × (List V))):=un fun t27 places=>Ax C t26 aQ ba bp bj ca cb dI cP bP t27 places (fun y=>some (.inl y)) (fun r=>some (.inr r))
noncomputable def Ay (C:af) (t35 aQ ba:Int) (bp bj:List V) (ca cb:Int) (dI cP bP:List V) (t36:Int) (places:List V) {β:Type} (kn:(Int × (List V))→Option β) (kr:(Int × Bool × (List V))→Option β):Option β:=
 bif decide ((t36:Int)<t35) then
  bif (decide (0≤t36))&&(decide (t36<(dI.length:Int))) then
  (dI[(t36:Int).toNat]?).bind fun x6=>
  bif (decide (0≤x6.toInt))&&(decide (x6.toInt<(places.length:Int))) then
   (places[(x6.toInt:Int).toNat]?).bind fun x7=>
   kn (IntKind.wrap .i64 (t36+1),places.set ((x6.toInt:Int).toNat) (.int .i64 t36))
  else none
  else none
 else
  kr (t36,decide ((t36:Int)<t35),places)
noncomputable def Fz (C:af) (t35 aQ ba:Int) (bp bj:List V) (ca cb:Int) (dI cP bP:List V):(Int × (List V))→Option ((Int × (List V)) ⊕ (Int × Bool × (List V))):=un fun t36 places=>Ay C t35 aQ ba bp bj ca cb dI cP bP t36 places (fun y=>some (.inl y)) (fun r=>some (.inr r))
noncomputable def Az (C:af) (q t50 t51:Int) (t59:List V) (t60 aQ ba:Int) (bp bj:List V) (ca cb:Int) (places:List V) (gp gq:Int) (rT br bd bm bK:List V) (t61:Int) (rows:List V) {β:Type} (kn:(Int × (List V))→Option β) (kr:(Int × Bool × (List V))→Option β):Option β:=
 bif decide ((t61:Int)<t60) then
  (idx t59 t61).bind fun gH=>
  bif (decide (0≤gH.toInt))&&(decide (gH.toInt<(places.length:Int))) then
  (places[(gH.toInt:Int).toNat]?).bind fun lp=>
  bif Nat.ble ((rows.length+([.int .i64 lp.toInt]:List V).length)*8) bB then
   kn (IntKind.wrap .i64 (t61+1),rows++([.int .i64 lp.toInt]:List V))
  else none
  else none
 else
  kr (t61,decide ((t61:Int)<t60),rows)
noncomputable def FA (C:af) (q t50 t51:Int) (t59:List V) (t60 aQ ba:Int) (bp bj:List V) (ca cb:Int) (places:List V) (gp gq:Int) (rT br bd bm bK:List V):(Int × (List V))→Option ((Int × (List V)) ⊕ (Int × Bool × (List V))):=un fun t61 rows=>Az C q t50 t51 t59 t60 aQ ba bp bj ca cb places gp gq rT br bd bm bK t61 rows (fun y=>some (.inl y)) (fun r=>some (.inr r))
noncomputable def AA (C:af) (t50 aQ ba:Int) (bp bj:List V) (ca cb:Int) (places:List V) (gp gq:Int) (rT bP br:List V) (t51:Int) (bd bm:List V) {β:Type} (kn:(Int × (List V) × (List V))→Option β) (kr:(Int × Bool × (List V) × (List V))→Option β):Option β:=
 bif decide ((t51:Int)<t50) then
  bif (decide (0≤t51))&&(decide (t51<(rT.length:Int))) then
  (rT[(t51:Int).toNat]?).bind fun ey=>
  (idx bj ey.toInt).bind fun lQ=>
  (Loop (FA C ey.toInt t50 t51 lQ.toList (lQ.toList.length:Int) aQ ba bp bj ca cb places gp gq rT bP br bd bm) (0,([]:List V))).bind (un fun (adG:Int)=>un fun (zT:Bool) (S3:List V)=>
   bif Nat.ble ((bm.length+([.list ah S3]:List V).length)*24) bB then
    (idx bp ey.toInt).bind fun rR=>
    bif Nat.ble ((bd.length+([.bool rR.toBool]:List V).length)*1) bB then
    kn (IntKind.wrap .i64 (t51+1),bd++([.bool rR.toBool]:List V),bm++([.list ah S3]:List V))
    else none
   else none)
  else none
 else
  kr (t51,decide ((t51:Int)<t50),bd,bm)
noncomputable def FB (C:af) (t50 aQ ba:Int) (bp bj:List V) (ca cb:Int) (places:List V) (gp gq:Int) (rT bP br:List V):(Int × (List V) × (List V))→Option ((Int × (List V) × (List V)) ⊕ (Int × Bool × (List V) × (List V))):=un fun t51=>un fun bd bm=>AA C t50 aQ ba bp bj ca cb places gp gq rT bP br t51 bd bm (fun y=>some (.inl y)) (fun r=>some (.inr r))
noncomputable def S4 (C:af):cq:=fun β n ds k=>
 bif Nat.beq n 65 then bu Jg [false,true,false,false,false,false,false,false,false,true,false,false] [[1,0,0,3,4,5,6,7,8,9,0,11,12]] (@Ax C) ds k else
 bif Nat.beq n 145 then bu Jh [false,true,false,false,false,false,false,false,false,true,false,false] [[1,0,0,3,4,5,6,7,8,9,0,11,12]] (@Ay C) ds k else
 bif Nat.beq n 305 then bu Ji [false,false,false,false,false,true,false,false,false,false,false,false,false,false,false,true,false,false,false,false,false] [[1,2,3,4,5,0,0,7,8,9,10,11,12,13,14,15,0,17,18,19,20,21]] (@Az C) ds k else
 bif Nat.beq n 241 then bu Jj [false,true,false,false,false,false,false,false,false,false,false,false,false,false,true,true] [[1,0,0,3,4,5,6,7,8,9,10,11,12,13,14,0,0]] (@AA C) ds k else
 none
abbrev FC (C:af) (b:ch):Prop:=cj Tryd.prog aw C (S4 C) 85 (cJ Tryd.prog (aw.aW 85)) (aw.sin 85).a8.length b
theorem adH (C:af):FC C (.loop (ar [1,1,1,0,1,0,0] rS)):=
 bz Jg [false,true,false,false,false,false,false,false,false,true,false,false] [[1,0,0,3,4,5,6,7,8,9,0,11,12]] (@Ax C) (by kernel_rfl) (aS (bs:=[]) (by kernel_rfl) av) (fun ds=>by kernel_rfl) (fun i x=>by kernel_rfl) (fun i x β k=>by kernel_rfl) (fun β ds k=>by kernel_rfl)
theorem adI (C:af):FC C (.loop (ar [1,1,1,1,0,1,0,0] rS)):=
 bz Jh [false,true,false,false,false,false,false,false,false,true,false,false] [[1,0,0,3,4,5,6,7,8,9,0,11,12]] (@Ay C) (by kernel_rfl) (aS (bs:=[]) (by kernel_rfl) av) (fun ds=>by kernel_rfl) (fun i x=>by kernel_rfl) (fun i x β k=>by kernel_rfl) (fun β ds k=>by kernel_rfl)
theorem adJ (C:af):FC C (.loop (ar [1,1,1,1,1,1,0,1,0,0,1,1,0,0,1,1,0,1,0,0] rS)):=
 bz Ji [false,false,false,false,false,true,false,false,false,false,false,false,false,false,false,true,false,false,false,false,false] [[1,2,3,4,5,0,0,7,8,9,10,11,12,13,14,15,0,17,18,19,20,21]] (@Az C) (by kernel_rfl) (aS (bs:=[]) (by kernel_rfl) av) (fun ds=>by kernel_rfl) (fun i x=>by kernel_rfl) (fun i x β k=>by kernel_rfl) (fun β ds k=>by kernel_rfl)
theorem adK (C:af):FC C (.loop (ar [1,1,1,1,1,1,0,1,0,0] rS)):=
 bz Jj [false,true,false,false,false,false,false,false,false,false,false,false,false,false,true,true] [[1,0,0,3,4,5,6,7,8,9,10,11,12,13,14,0,0]] (@AA C) (by kernel_rfl) (aS (bs:=[.loop (ar [1,1,1,1,1,1,0,1,0,0,1,1,0,0,1,1,0,1,0,0] rS)]) (by kernel_rfl) (bf (adJ C) av)) (fun ds=>by kernel_rfl) (fun i x=>by kernel_rfl) (fun i x β k=>by kernel_rfl) (fun β ds k=>by kernel_rfl)
noncomputable def S5 (C:af) (aX aY:Int) (aG bc:List V):Option (List V):=
 (C D9 [.int .i64 aX,.int .i64 aY,.list ab aG,.list aa bc]).bind fun r1=>
 bif (decide (0≤(aG.length:Int)))&&((decide ((aG.length:Int)≤(aG.length:Int)))&&(Nat.ble ((((aG.length:Int):Int).toNat)*8) bB)) then
  (Loop (Fy C ((List.replicate (((aG.length:Int):Int).toNat) (V.int .i64 0)).length:Int) aX aY aG bc 0 0 ((V.nth r1 0).toList) ([]:List V) ([]:List V)) (0,List.replicate (((aG.length:Int):Int).toNat) (V.int .i64 0))).bind (un fun (jO:Int)=>un fun (jP:Bool) (adL:List V)=>
   (Loop (Fz C (((V.nth r1 0).toList).length:Int) aX aY aG bc 0 0 ((V.nth r1 0).toList) ([]:List V) ([]:List V)) (0,adL)).bind (un fun (qk:Int)=>un fun (qp:Bool) (S6:List V)=>
    (Loop (FB C (((V.nth r1 0).toList).length:Int) aX aY aG bc 0 0 S6 aX 0 ((V.nth r1 0).toList) ([]:List V) ([]:List V)) (0,([]:List V),([]:List V))).bind (un fun (adM:Int)=>un fun (K7:Bool)=>un fun (adN:List V) (Au:List V)=>
     some [.int .i64 aX,.int .i64 0,.list ab adN,.list aa Au,.list ah S6])))
 else none
theorem adO {aX aY:Int} {aG bc:List V} {r:Option (List V)} (h:S5 CC aX aY aG bc=r):CC DZ [.int .i64 aX,.int .i64 aY,.list ab aG,.list aa bc]=r:=
 bn (key:=85) (L:=S4 CC) (bs:=[.loop (ar [1,1,1,0,1,0,0] rS),.loop (ar [1,1,1,1,0,1,0,0] rS),.loop (ar [1,1,1,1,1,1,0,1,0,0] rS)]) (by kernel_rfl) (bf (adH CC) (bf (adI CC) (bf (adK CC) av))) (Eq.trans (by kernel_rfl) h)
end Go.AM
set_option maxRecDepth 100000
set_option linter.unusedSimpArgs false
namespace Go.AM
open Go.Proofs
def oh (n:Nat) (S:List Nat):List V:=tab n fun q=>V.bool (decide (q∈S))
def FD (S:List Nat) (ws:List (List UInt8)):Prop:=ws.length=S.length∧∀j (hj:j<ws.length),ws[j].length≤j
section
variable {a:Da} (h:a.Ok)
include h
theorem adP {S:List Nat} {i:Nat} (hi:i<S.length) (hS: ∀s∈S,s<a.n) (hSn:S.length≤1000) {ws:List (List UInt8)} (hw:FD S ws) {l2:List V} {c1:Int}:
  ∃r,Loop (Av CC (i:Int) (a.L:Int) c1 l2 a.cv) (0,nS S,ws.map V.str,oh a.n S)=some r∧∃fN,r=((a.L:Int),false,nS (aV a.nx S S[i] a.L),List.map V.str fN,oh a.n (aV a.nx S S[i] a.L))∧FD (aV a.nx S S[i] a.L) fN:=by
 have h6:=h.l6
 have hq:=hS _ (List.getElem_mem hi)
 have hlen: ∀x,(aV a.nx S S[i] x).length≤S.length+x:=by
  intro x
  induction x with
  | zero=>exact Nat.le_refl _
  | succ x ih=>rw[aV,n7];split<;>omega
 refine zM (fun x st=> ∃fN,st=((x:Int),nS (aV a.nx S S[i] x),List.map V.str fN,oh a.n (aV a.nx S S[i] x))∧FD (aV a.nx S S[i] x) fN) _ a.L 0 _ (fun x _ hx st bN=> ?_) (fun st bN=> ?_) ⟨ws,rfl,hw⟩
 ·obtain ⟨fN,rfl,jh⟩:=bN
  rw[Nat.zero_add] at hx
  have hT:=hlen x
  have oj:=zz (next:=a.nx) S S[i] x
  have K8:i<(aV a.nx S S[i] x).length:=Nat.lt_of_lt_of_le hi oj.length_le
  have wv:(aV a.nx S S[i] x)[i]=S[i]:=(oj.getElem hi).symm
  have rr:=h.ej hq hx
  have hm:=h.eh
  by_cases j9:a.nx S[i] x∈aV a.nx S S[i] x
  ·have e:aV a.nx S S[i] (x+1)=aV a.nx S S[i] x:=by rw[aV];unfold cM;rw[if_pos j9]
   refine ⟨_,?_,fN,rfl,by rw[e];exact jh⟩
   simp only[Av,wu,un]
   refine bT (dp hx) ?_
   refine (oa (v9 K8)).trans ?_
   rw[wv]
   refine bs (Da.lU hq) ?_
   simp only[mU]
   refine bs (od hx) ?_
   refine (dE (i:=a.nx S[i] x) rr).trans ?_
   refine bF (by simp[j9]) ?_
   rw[cu (by omega),e]
  ·have e:aV a.nx S S[i] (x+1)=aV a.nx S S[i] x++[a.nx S[i] x]:=by rw[aV];unfold cM;rw[if_neg j9]
   have S7:i<fN.length:=by rw[jh.1];exact K8
   have hwi:=jh.2 i S7
   refine ⟨(((x+1:Nat):Int),nS (aV a.nx S S[i] (x+1)),List.map V.str (fN++[fN[i]++iI [.int .u8 (IntKind.wrap .u8 (IntKind.wrap .i64 (97+(x:Int))))]]),oh a.n (aV a.nx S S[i] (x+1))),?_,_,rfl,?_⟩
   ·simp only[Av,wu,un]
    refine bT (dp hx) ?_
    refine (oa (v9 K8)).trans ?_
    rw[wv]
    refine bs (Da.lU hq) ?_
    simp only[mU]
    refine bs (od hx) ?_
    refine (dE (i:=a.nx S[i] x) rr).trans ?_
    refine bT (by simp[j9]) ?_
    refine (dE (i:=a.nx S[i] x) rr).trans ?_
    refine bT (cap (by rw[og];simp;omega) (by omega)) ?_
    refine (oa (v:= .str fN[i]) (by simp[S7])).trans ?_
    refine bT (by
     rw[Nat.ble_eq]
     simp only[V.toStr,iI,List.length_map,List.length_cons,List.length_nil,sr]
     omega) ?_
    refine bT (cap (by rw[List.length_map,jh.1];simp;omega) (by omega)) ?_
    rw[cu (by omega),e]
    refine congrArg (fun x=>some (Sum.inl x)) (Prod.ext rfl (Prod.ext ?_ (Prod.ext ?_ ?_)))
    ·simp[nS,nV]
    ·simp[V.toStr]
    ·show (oh a.n (aV a.nx S S[i] x)).set _ _=oh a.n _
     unfold oh
     rw[V.toInt_int,Int.toNat_natCast,mQ]
     refine eo fun j _=> ?_
     by_cases hj:j=a.nx S[i] x
     ·rw[if_pos hj,decide_eq_true (by rw[hj];simp)]
     ·rw[if_neg hj]
      congr 1
      rw[decide_eq_decide,List.mem_append,List.mem_singleton]
      exact ⟨.inl,fun h=>h.resolve_right hj⟩
   ·rw[e]
    refine ⟨by simp[jh.1],fun j hj=> ?_⟩
    rw[List.length_append,List.length_singleton] at hj
    rcases Nat.lt_or_ge j fN.length with c|c
    ·rw[List.getElem_append_left c];exact jh.2 j c
    ·rw[List.getElem_append_right c]
     simp only[List.getElem_singleton,List.length_append,iI,List.length_map,List.length_cons,List.length_nil]
     omega
 ·obtain ⟨fN,rfl,jh⟩:=bN
  rw[Nat.zero_add] at*
  refine ⟨_,?_,fN,rfl,jh⟩
  simp only[Av,wu,un]
  refine bF (bt (Nat.le_refl _)) ?_
  rw[bt (Nat.le_refl _)]
theorem adQ: ∃W,CC D9 (cU a)=some [.list ah (nS (aq a.L a.nx a.st a.n)),W]:=by
 have hm:=h.eh
 have hd:=h.lR a.n
 have key: ∃r,Loop (Fx CC (a.L:Int) (a.st:Int) a.cN a.cv) (0,nS [a.st],[[]].map V.str,oh a.n [a.st])=some r∧∃fN,r=(((aq a.L a.nx a.st a.n).length:Int),false,nS (aq a.L a.nx a.st a.n),List.map V.str fN,oh a.n (aq a.L a.nx a.st a.n)):=by
  refine zM (fun i st=> ∃fN,st=((i:Int),nS (aq a.L a.nx a.st i),List.map V.str fN,oh a.n (aq a.L a.nx a.st i))∧FD (aq a.L a.nx a.st i) fN) _ (aq a.L a.nx a.st a.n).length 0 _ (fun i _ hi st bN=> ?_) (fun st bN=> ?_) ⟨[[]],rfl,⟨rfl,fun j hj=>by simp at hj;subst hj;simp⟩⟩
  ·obtain ⟨fN,rfl,jh⟩:=bN
   rw[Nat.zero_add] at hi
   have ff:=vU hd hi
   have tT:(aq a.L a.nx a.st i)[i]=(aq a.L a.nx a.st a.n)[i]:=(jR (show i≤a.n by omega)).getElem ff
   have hlen:(aq a.L a.nx a.st i).length≤512:=Nat.le_trans (h.lR i) hm
   have gT:=vV hd hi
   obtain ⟨r,h1,ws2,rfl,h3⟩:=adP h ff (h.tO i) (by omega) jh (l2:=a.cN) (c1:=(a.st:Int))
   rw[tT,←gT] at h1 h3
   refine ⟨_,?_,ws2,rfl,h3⟩
   simp only[Fx,Aw,un]
   refine bT (decide_eq_true (by rw[og];omega)) ?_
   refine bs h1 ?_
   rw[cu (by omega)]
   rfl
  ·obtain ⟨fN,rfl,jh⟩:=bN
   rw[Nat.zero_add,zF hd] at*
   refine ⟨_,?_,fN,rfl⟩
   simp only[Fx,Aw,un]
   rw[og]
   refine bF (bt (Nat.le_refl _)) ?_
   rw[bt (Nat.le_refl _)]
 obtain ⟨r,h1,fN,rfl⟩:=key
 refine ⟨.list mL (fN.map V.str),adF ?_⟩
 unfold SZ
 rw[Da.mT,Int.toNat_natCast,mR]
 refine bT (by have:=lT (n:=a.n) (m:=1) (by omega) (by omega);rwa [Int.toNat_natCast] at this) ?_
 refine (dE (i:=a.st) h.s).trans ?_
 have e:(tab a.n fun _=>V.bool false).set (((a.st:Nat):Int).toNat) (.bool true)=oh a.n [a.st]:=by
  rw[Int.toNat_natCast,mQ]
  refine eo fun j _=> ?_
  by_cases hj:j=a.st
  ·rw[if_pos hj,decide_eq_true (by rw[hj];simp)]
  ·rw[if_neg hj,decide_eq_false (by simpa using hj)]
 rw[e]
 refine bs h1 ?_
 rfl
theorem adR {q:Nat} (hq:q<a.n) (hU: ∀x,x<a.L→a.nx q x∈aq a.L a.nx a.st a.n) {c1 c2 c3 c4 c5 c6 c7 c8 c9:Int} {l1 l2 l3 l4 l5 l6 l7:List V}:
  Loop (FA CC c1 c2 c3 (tab a.L fun x=>iV (a.nx q x)) ((tab a.L fun x=>iV (a.nx q x)).length:Int) c4 c5 l1 l2 c6 c7 (iB (aq a.L a.nx a.st a.n) a.n) c8 c9 l3 l4 l5 l6 l7) (0,([]:List V))=
   some ((a.L:Int),false,tab a.L fun x=>nV ((aq a.L a.nx a.st a.n).idxOf (a.nx q x))):=by
 have h6:=h.l6
 rw[dQ]
 refine (ez a.L (fun t=>((t:Int),(tab t fun x=>nV ((aq a.L a.nx a.st a.n).idxOf (a.nx q x))))) _ (fun t ht=> ?_) ?_)
 ·simp only[FA,Az,un]
  refine bT (dp ht) ?_
  refine bs (od ht) ?_
  refine (dE (i:=a.nx q t) (h.ej hq ht)).trans ?_
  refine bT (cap (by rw[dQ];simp;omega) (by omega)) ?_
  rw[cu (by omega),if_pos (hU t ht),ko]
  rfl
 ·simp only[FA,Az,un]
  refine bF (bt (Nat.le_refl _)) ?_
  rw[bt (Nat.le_refl _)]
theorem adS:CC DZ (cU a)=some (cU a.trim++[.list ah (iB (aq a.L a.nx a.st a.n) a.n)]):=by
 have h6:=h.l6
 have hm:=h.eh
 have hU:=h.tO a.n
 have hle:=h.lR a.n
 obtain ⟨W,hW⟩:=adQ h
 refine adO ?_
 unfold S5
 refine bs hW ?_
 rw[Da.mT]
 refine bT (lT (by omega) (by omega)) ?_
 rw[Int.toNat_natCast,mR,dQ]
 have row:=fun {q:Nat} (hq:q<a.n) hU=> @adR a h q hq hU
 have e1: ∀{i:Nat} (hi:i<(aq a.L a.nx a.st a.n).length),a.trim.fin i=a.fin (aq a.L a.nx a.st a.n)[i]:=fun hi=>zE hi
 have e2: ∀{i:Nat} (hi:i<(aq a.L a.nx a.st a.n).length),fi a.L (a.trim.nx i)= .list ah (tab a.L fun x=>nV ((aq a.L a.nx a.st a.n).idxOf (a.nx (aq a.L a.nx a.st a.n)[i] x))):=fun hi=>by
  unfold fi
  refine congrArg _ (eo fun x hx=> ?_)
  rw[show a.trim.nx _ x=_ from tM hi hx];rfl
 have e3:a.trim.n=(aq a.L a.nx a.st a.n).length:=ki
 have jI: ∀q∈aq a.L a.nx a.st a.n,∀x,x<a.L→a.nx q x∈aq a.L a.nx a.st a.n:=fun q hq x hx=>KD hle hq hx
 have KN:(aq a.L a.nx a.st a.n).Nodup:=tL _
 have er:a.trim.cN=(tab (aq a.L a.nx a.st a.n).length fun i=>V.bool (a.trim.fin i)):=by unfold Da.cN;rw[e3]
 have en:a.trim.cv=(tab (aq a.L a.nx a.st a.n).length fun i=>fi a.L (a.trim.nx i)):=by unfold Da.cv;rw[e3];rfl
 have eL:a.trim.L=a.L:=rfl
 unfold cU gn
 rw[er,en,eL]
 generalize aq a.L a.nx a.st a.n=U at*
 have l1: ∀{c1 c2 c3 c4:Int} {s1 s2 s3 s4 s5:List V},Loop (Fy CC (a.n:Int) c1 c2 s1 s2 c3 c4 s3 s4 s5) (0,tab a.n fun _=>V.int .i64 0)=some ((a.n:Int),false,tab a.n fun q=>if q∈U.take 0 then nV (U.idxOf q) else V.int .i64 (-1)):=by
  intro c1 c2 c3 c4 s1 s2 s3 s4 s5
  refine (ez a.n (fun i=>((i:Int),(tab a.n fun j=>if j<i then V.int .i64 (-1) else V.int .i64 0))) _ (fun i hi=> ?_) ?_)
  ·simp only[Fy,Ax,un]
   refine bT (dp hi) ?_
   refine (dE hi).trans ?_
   rw[cu (by omega),Int.toNat_natCast,mQ]
   refine congrArg (fun x=>some (Sum.inl (((i+1:Nat):Int),x))) (eo fun j _=> ?_)
   by_cases hj:j=i
   ·rw[if_pos hj,if_pos (by omega)]
   ·rw[if_neg hj]
    by_cases bU:j<i
    ·rw[if_pos bU,if_pos (by omega)]
    ·rw[if_neg bU,if_neg (by omega)]
  ·simp only[Fy,Ax,un]
   refine bF (bt (Nat.le_refl _)) ?_
   rw[bt (Nat.le_refl _)]
   refine congrArg (fun x=>some (Sum.inr ((a.n:Int),false,x))) (eo fun j hj=> ?_)
   rw[if_pos hj,List.take_zero,if_neg (by simp)]
 refine bs l1 ?_
 simp only[un]
 have l2: ∀{c1 c2 c3 c4:Int} {s1 s2 s3 s4:List V},Loop (Fz CC ((nS U).length:Int) c1 c2 s1 s2 c3 c4 (nS U) s3 s4) (0,tab a.n fun q=>if q∈U.take 0 then nV (U.idxOf q) else V.int .i64 (-1))=some ((U.length:Int),false,iB U a.n):=by
  intro c1 c2 c3 c4 s1 s2 s3 s4
  rw[og]
  refine (ez U.length (fun i=>((i:Int),(tab a.n fun q=>if q∈U.take i then nV (U.idxOf q) else V.int .i64 (-1)))) _ (fun i hi=> ?_) ?_)
  ·have hq:=hU U[i] (List.getElem_mem hi)
   simp only[Fz,Ay,un]
   refine bT (dp hi) ?_
   refine (oa (v9 hi)).trans ?_
   refine (dE (i:=U[i]) hq).trans ?_
   rw[cu (by omega)]
   refine congrArg (fun x=>some (Sum.inl (((i+1:Nat):Int),x))) ?_
   exact Si KN hi
  ·simp only[Fz,Ay,un]
   refine bF (bt (Nat.le_refl _)) ?_
   rw[bt (Nat.le_refl _),List.take_length]
   rfl
 refine bs l2 ?_
 have l4: ∀{c1 c2 c3 c4:Int} {s1 s2:List V},Loop (FB CC ((nS U).length:Int) (a.L:Int) (a.st:Int) a.cN a.cv c1 c2 (iB U a.n) c3 c4 (nS U) s1 s2) (0,([]:List V),([]:List V))=some ((U.length:Int),false,(tab U.length fun i=>V.bool (a.trim.fin i)),(tab U.length fun i=>fi a.L (a.trim.nx i))):=by
  intro c1 c2 c3 c4 s1 s2
  rw[og]
  refine (ez U.length (fun i=>((i:Int),(tab i fun i=>V.bool (a.trim.fin i)),(tab i fun i=>fi a.L (a.trim.nx i)))) _ (fun i hi=> ?_) ?_)
  ·have hq:=hU U[i] (List.getElem_mem hi)
   simp only[FB,AA,un]
   refine bT (dp hi) ?_
   refine (oa (v9 hi)).trans ?_
   refine bs (Da.lU hq) ?_
   simp only[mU]
   refine bs (row hq (jI _ (List.getElem_mem hi))) ?_
   refine bT (cap (by rw[dQ];simp;omega) (by omega)) ?_
   refine bs (Da.rP hq) ?_
   refine bT (cap (by rw[dQ];simp;omega) (by omega)) ?_
   rw[cu (by omega),ko,ko,e1 hi,e2 hi]
   rfl
  ·simp only[FB,AA,un]
   refine bF (bt (Nat.le_refl _)) ?_
   rw[bt (Nat.le_refl _)]
 refine bs l4 ?_
 rfl
end
end Go.AM
set_option maxRecDepth 100000
namespace Go.AM
open Go.Proofs
noncomputable abbrev S8:Code:=cC Tryd.prog (aw.aW 106)
noncomputable def AB (C:af) (a b':List V) (t12 t13:Int) {β:Type} (kn:Int→Option β) (kr:((Bool) ⊕ (Int × Bool))→Option β):Option β:=
 bif decide ((t13:Int)<t12) then
  (idx a t13).bind fun x1=>
  (idx b' t13).bind fun x2=>
  bif (x1.toInt:Int) != x2.toInt then
  kr (.inl false)
  else
  kn (IntKind.wrap .i64 (t13+1))
 else
  kr (.inr (t13,decide ((t13:Int)<t12)))
noncomputable def K9 (C:af) (a b':List V) (t12:Int):(Int)→Option ((Int) ⊕ ((Bool) ⊕ (Int × Bool))):=fun t13=>AB C a b' t12 t13 (fun y=>some (.inl y)) (fun r=>some (.inr r))
noncomputable def S9 (C:af):cq:=fun β n ds k=>
 bif Nat.beq n 65 then bu Jz [false,false,false,true] [[0],[1,2,3,0,0]] (@AB C) ds k else
 none
abbrev adT (C:af) (b:ch):Prop:=cj Tryd.prog aw C (S9 C) 106 (cJ Tryd.prog (aw.aW 106)) (aw.sin 106).a8.length b
theorem adU (C:af):adT C (.loop (ar [1,1,0,1,0,0] S8)):=
 bz Jz [false,false,false,true] [[0],[1,2,3,0,0]] (@AB C) (by kernel_rfl) (aS (bs:=[]) (by kernel_rfl) av) (fun ds=>by kernel_rfl) (fun i x=>by kernel_rfl) (fun i x β k=>by kernel_rfl) (fun β ds k=>by kernel_rfl)
noncomputable def Ta (C:af) (a b':List V):Option (List V):=
 bif ((a.length:Int):Int) != (b'.length:Int) then
  some [.bool false]
 else
  (Loop (K9 C a b' (a.length:Int)) 0).bind (cZ (fun (jO:Bool)=>
   some [.bool jO]) (un fun (jP:Int) (lP:Bool)=>
   some [.bool true]))
theorem adV {a b':List V} {r:Option (List V)} (h:Ta CC a b'=r):CC D8 [.list ah a,.list ah b']=r:=
 bn (key:=106) (L:=S9 CC) (bs:=[.loop (ar [1,1,0,1,0,0] S8)]) (by kernel_rfl) (bf (adU CC) av) (Eq.trans (by kernel_rfl) h)
end Go.AM
set_option maxRecDepth 100000
namespace Go.AM
open Go.Proofs
noncomputable abbrev Tb:Code:=cC Tryd.prog (aw.aW 104)
noncomputable def AD (C:af) (t13:List V) (t14 t15:Int) (qA outs:List V) {β:Type} (kn:(Int × (List V) × (List V))→Option β) (kr:(Int × Bool × (List V) × (List V))→Option β):Option β:=
 bif decide ((t15:Int)<t14) then
  (idx t13 t15).bind fun x1=>
  bif cR .i64 x1.toInt&&true then
  bif !(fo (.int .i64 x1.toInt) qA) then
   bif cR .i64 x1.toInt&&true then
   bif (decide (0≤t15))&&(decide (t15<(outs.length:Int))) then
    (outs[(t15:Int).toNat]?).bind fun x2=>
    kn (IntKind.wrap .i64 (t15+1),eS (.int .i64 x1.toInt) (.int .i64 (qA.length:Int)) qA,outs.set ((t15:Int).toNat) (.int .i64 (qA.length:Int)))
   else none
   else none
  else
   bif (decide (0≤t15))&&(decide (t15<(outs.length:Int))) then
   (outs[(t15:Int).toNat]?).bind fun x3=>
   kn (IntKind.wrap .i64 (t15+1),qA,outs.set ((t15:Int).toNat) (.int .i64 ((gK (.int .i64 x1.toInt) qA (.int .i64 0)).toInt)))
   else none
  else none
 else
  kr (t15,decide ((t15:Int)<t14),qA,outs)
noncomputable def La (C:af) (t13:List V) (t14:Int):(Int × (List V) × (List V))→Option ((Int × (List V) × (List V)) ⊕ (Int × Bool × (List V) × (List V))):=un fun t15=>un fun qA outs=>AD C t13 t14 t15 qA outs (fun y=>some (.inl y)) (fun r=>some (.inr r))
noncomputable def Tc (C:af):cq:=fun β n ds k=>
 bif Nat.beq n 65 then bu Jx [false,false,true,true,true] [[1,2,0,0,0,0]] (@AD C) ds k else
 none
abbrev adW (C:af) (b:ch):Prop:=cj Tryd.prog aw C (Tc C) 104 (cJ Tryd.prog (aw.aW 104)) (aw.sin 104).a8.length b
theorem adX (C:af):adW C (.loop (ar [1,1,1,0,1,0,0] Tb)):=
 bz Jx [false,false,true,true,true] [[1,2,0,0,0,0]] (@AD C) (by kernel_rfl) (aS (bs:=[]) (by kernel_rfl) av) (fun ds=>by kernel_rfl) (fun i x=>by kernel_rfl) (fun i x β k=>by kernel_rfl) (fun β ds k=>by kernel_rfl)
noncomputable def Td (C:af) (l:List V):Option (List V):=
 bif (decide (0≤(l.length:Int)))&&((decide ((l.length:Int)≤(l.length:Int)))&&(Nat.ble ((((l.length:Int):Int).toNat)*8) bB)) then
  (Loop (La C l (l.length:Int)) (0,([]:List V),List.replicate (((l.length:Int):Int).toNat) (V.int .i64 0))).bind (un fun (jP:Int)=>un fun (lP:Bool)=>un fun (aiq:List V) (adY:List V)=>
   some [.list ah adY])
 else none
theorem adZ {l:List V} {r:Option (List V)} (h:Td CC l=r):CC yX [.list ah l]=r:=
 bn (key:=104) (L:=Tc CC) (bs:=[.loop (ar [1,1,1,0,1,0,0] Tb)]) (by kernel_rfl) (bf (adX CC) av) (Eq.trans (by kernel_rfl) h)
end Go.AM
set_option maxRecDepth 100000
namespace Go.AM
open Go.Proofs
noncomputable abbrev Te:Code:=cC Tryd.prog (aw.aW 105)
noncomputable def AE (C:af) (p q:List V) (t11 t12:Int) (outs:List V) {β:Type} (kn:(Int × (List V))→Option β) (kr:(Int × Bool × (List V))→Option β):Option β:=
 bif decide ((t12:Int)<t11) then
  (idx p t12).bind fun x1=>
  (idx q t12).bind fun x2=>
  bif (decide (0≤t12))&&(decide (t12<(outs.length:Int))) then
  (outs[(t12:Int).toNat]?).bind fun x3=>
  kn (IntKind.wrap .i64 (t12+1),outs.set ((t12:Int).toNat) (.int .i64 (IntKind.wrap .i64 ((IntKind.wrap .i64 ((IntKind.wrap .i64 ((p.length:Int)+1))*x1.toInt))+x2.toInt))))
  else none
 else
  kr (t12,decide ((t12:Int)<t11),outs)
noncomputable def Lb (C:af) (p q:List V) (t11:Int):(Int × (List V))→Option ((Int × (List V)) ⊕ (Int × Bool × (List V))):=un fun t12 outs=>AE C p q t11 t12 outs (fun y=>some (.inl y)) (fun r=>some (.inr r))
noncomputable def Tf (C:af):cq:=fun β n ds k=>
 bif Nat.beq n 49 then bu Jy [false,false,false,true,true] [[1,2,3,0,0,0]] (@AE C) ds k else
 none
abbrev ad0 (C:af) (b:ch):Prop:=cj Tryd.prog aw C (Tf C) 105 (cJ Tryd.prog (aw.aW 105)) (aw.sin 105).a8.length b
theorem ad1 (C:af):ad0 C (.loop (ar [1,1,0,1,0,0] Te)):=
 bz Jy [false,false,false,true,true] [[1,2,3,0,0,0]] (@AE C) (by kernel_rfl) (aS (bs:=[]) (by kernel_rfl) av) (fun ds=>by kernel_rfl) (fun i x=>by kernel_rfl) (fun i x β k=>by kernel_rfl) (fun β ds k=>by kernel_rfl)
noncomputable def Tg (C:af) (p q:List V):Option (List V):=
 bif (decide (0≤(p.length:Int)))&&((decide ((p.length:Int)≤(p.length:Int)))&&(Nat.ble ((((p.length:Int):Int).toNat)*8) bB)) then
  (Loop (Lb C p q (p.length:Int)) (0,List.replicate (((p.length:Int):Int).toNat) (V.int .i64 0))).bind (un fun (jP:Int)=>un fun (lP:Bool) (ad2:List V)=>
   (C yX [.list ah ad2]).bind fun r7=>
   some [.list ah ((V.nth r7 0).toList)])
 else none
theorem ad3 {p q:List V} {r:Option (List V)} (h:Tg CC p q=r):CC D7 [.list ah p,.list ah q]=r:=
 bn (key:=105) (L:=Tf CC) (bs:=[.loop (ar [1,1,0,1,0,0] Te)]) (by kernel_rfl) (bf (ad1 CC) av) (Eq.trans (by kernel_rfl) h)
end Go.AM
set_option maxRecDepth 100000
namespace Go.AM
open Go.Proofs
noncomputable abbrev rU:Code:=cC Tryd.prog (aw.aW 84)
noncomputable def AF (C:af) (t14 aQ ba:Int) (bp bj:List V) (t15:Int) (ps:List V) {β:Type} (kn:(Int × (List V))→Option β) (kr:(Int × Bool × (List V))→Option β):Option β:=
 bif decide ((t15:Int)<t14) then
  (idx bp t15).bind fun x1=>
  bif x1.toBool then
  bif (decide (0≤t15))&&(decide (t15<(ps.length:Int))) then
   (ps[(t15:Int).toNat]?).bind fun x2=>
   kn (IntKind.wrap .i64 (t15+1),ps.set ((t15:Int).toNat) (.int .i64 1))
  else none
  else
  kn (IntKind.wrap .i64 (t15+1),ps)
 else
  kr (t15,decide ((t15:Int)<t14),ps)
noncomputable def Lc (C:af) (t14 aQ ba:Int) (bp bj:List V):(Int × (List V))→Option ((Int × (List V)) ⊕ (Int × Bool × (List V))):=un fun t15 ps=>AF C t14 aQ ba bp bj t15 ps (fun y=>some (.inl y)) (fun r=>some (.inr r))
noncomputable def AG (C:af) (p next':List V) (x t37 aQ ba:Int) (bp bj:List V) (t38:Int) (AH:List V) {β:Type} (kn:(Int × (List V))→Option β) (kr:(Int × Bool × (List V))→Option β):Option β:=
 bif decide ((t38:Int)<t37) then
  (idx bj t38).bind fun x7=>
  (idx x7.toList x).bind fun x8=>
  (idx p x8.toInt).bind fun x9=>
  bif Nat.ble ((AH.length+([.int .i64 x9.toInt]:List V).length)*8) bB then
  kn (IntKind.wrap .i64 (t38+1),AH++([.int .i64 x9.toInt]:List V))
  else none
 else
  kr (t38,decide ((t38:Int)<t37),AH)
noncomputable def FE (C:af) (p next':List V) (x t37 aQ ba:Int) (bp bj:List V):(Int × (List V))→Option ((Int × (List V)) ⊕ (Int × Bool × (List V))):=un fun t38 AH=>AG C p next' x t37 aQ ba bp bj t38 AH (fun y=>some (.inl y)) (fun r=>some (.inr r))
noncomputable def AI (C:af) (p:List V) (aQ ba:Int) (bp bj next':List V) (x:Int) {β:Type} (kn:((List V) × Int)→Option β) (kr:((List V) × Int × Bool)→Option β):Option β:=
 bif decide ((x:Int)<aQ) then
  (Loop (FE C p next' x (p.length:Int) aQ ba bp bj) (0,([]:List V))).bind (un fun (Sh:Int)=>un fun (Ld:Bool) (ad4:List V)=>
   (C D7 [.list ah next',.list ah ad4]).bind fun r13=>
   kn ((V.nth r13 0).toList,IntKind.wrap .i64 (x+1)))
 else
  kr (next',x,decide ((x:Int)<aQ))
noncomputable def FF (C:af) (p:List V) (aQ ba:Int) (bp bj:List V):((List V) × Int)→Option (((List V) × Int) ⊕ ((List V) × Int × Bool)):=un fun next' x=>AI C p aQ ba bp bj next' x (fun y=>some (.inl y)) (fun r=>some (.inr r))
noncomputable def AJ (C:af) (aQ ba:Int) (bp bj p:List V) {β:Type} (kn:List V→Option β) (kr:(List V)→Option β):Option β:=
 (Loop (FF C p aQ ba bp bj) (p,0)).bind (un fun (Th:List V)=>un fun (air:Int) (zT:Bool)=>
  (C D8 [.list ah Th,.list ah p]).bind fun eP=>
  bif (V.nth eP 0).toBool then
   kr p
  else
   kn Th)
noncomputable def AK (C:af) (aQ ba:Int) (bp bj:List V):(List V)→Option ((List V) ⊕ (List V)):=fun p=>AJ C aQ ba bp bj p (fun y=>some (.inl y)) (fun r=>some (.inr r))
noncomputable def Ti (C:af):cq:=fun β n ds k=>
 bif Nat.beq n 49 then bu Jc [false,true,false,false,false,false,true] [[1,0,0,3,4,5,6,0]] (@AF C) ds k else
 bif Nat.beq n 241 then bu Jd [false,false,false,false,true,false,false,false,false,true] [[1,2,3,4,0,0,6,7,8,9,0]] (@AG C) ds k else
 bif Nat.beq n 177 then bu Je [false,true,true,false,false,false,false] [[1,0,0,0,4,5,6,7]] (@AI C) ds k else
 bif Nat.beq n 145 then bu Jf [true,false,false,false,false] [[0]] (@AJ C) ds k else
 none
abbrev FG (C:af) (b:ch):Prop:=cj Tryd.prog aw C (Ti C) 84 (cJ Tryd.prog (aw.aW 84)) (aw.sin 84).a8.length b
theorem ad5 (C:af):FG C (.loop (ar [1,1,0,1,0,0] rU)):=
 bz Jc [false,true,false,false,false,false,true] [[1,0,0,3,4,5,6,0]] (@AF C) (by kernel_rfl) (aS (bs:=[]) (by kernel_rfl) av) (fun ds=>by kernel_rfl) (fun i x=>by kernel_rfl) (fun i x β k=>by kernel_rfl) (fun β ds k=>by kernel_rfl)
theorem ad6 (C:af):FG C (.loop (ar [1,1,1,1,0,0,0,1,0,1,0,0,1,0,0,1,0,1,0,0] rU)):=
 bz Jd [false,false,false,false,true,false,false,false,false,true] [[1,2,3,4,0,0,6,7,8,9,0]] (@AG C) (by kernel_rfl) (aS (bs:=[]) (by kernel_rfl) av) (fun ds=>by kernel_rfl) (fun i x=>by kernel_rfl) (fun i x β k=>by kernel_rfl) (fun β ds k=>by kernel_rfl)
theorem ad7 (C:af):FG C (.loop (ar [1,1,1,1,0,0,0,1,0,1,0,0] rU)):=
 bz Je [false,true,true,false,false,false,false] [[1,0,0,0,4,5,6,7]] (@AI C) (by kernel_rfl) (aS (bs:=[.loop (ar [1,1,1,1,0,0,0,1,0,1,0,0,1,0,0,1,0,1,0,0] rU)]) (by kernel_rfl) (bf (ad6 C) av)) (fun ds=>by kernel_rfl) (fun i x=>by kernel_rfl) (fun i x β k=>by kernel_rfl) (fun β ds k=>by kernel_rfl)
theorem ad8 (C:af):FG C (.loop (ar [1,1,1,1,0,0] rU)):=
 bz Jf [true,false,false,false,false] [[0]] (@AJ C) (by kernel_rfl) (aS (bs:=[.loop (ar [1,1,1,1,0,0,0,1,0,1,0,0] rU)]) (by kernel_rfl) (bf (ad7 C) av)) (fun ds=>by kernel_rfl) (fun i x=>by kernel_rfl) (fun i x β k=>by kernel_rfl) (fun β ds k=>by kernel_rfl)
noncomputable def Tj (C:af) (aX aY:Int) (aG bc:List V):Option (List V):=
 bif (decide (0≤(aG.length:Int)))&&((decide ((aG.length:Int)≤(aG.length:Int)))&&(Nat.ble ((((aG.length:Int):Int).toNat)*8) bB)) then
  (Loop (Lc C ((List.replicate (((aG.length:Int):Int).toNat) (V.int .i64 0)).length:Int) aX aY aG bc) (0,List.replicate (((aG.length:Int):Int).toNat) (V.int .i64 0))).bind (un fun (jO:Int)=>un fun (jP:Bool) (ad9:List V)=>
   (C yX [.list ah ad9]).bind fun r6=>
   (Loop (AK C aX aY aG bc) ((V.nth r6 0).toList)).bind (fun (Tk:List V)=>
    some [.list ah Tk]))
 else none
theorem aea {aX aY:Int} {aG bc:List V} {r:Option (List V)} (h:Tj CC aX aY aG bc=r):CC DY [.int .i64 aX,.int .i64 aY,.list ab aG,.list aa bc]=r:=
 bn (key:=84) (L:=Ti CC) (bs:=[.loop (ar [1,1,0,1,0,0] rU),.loop (ar [1,1,1,1,0,0] rU)]) (by kernel_rfl) (bf (ad5 CC) (bf (ad8 CC) av)) (Eq.trans (by kernel_rfl) h)
end Go.AM
set_option maxRecDepth 100000
namespace Go.AM
open Go.Proofs
noncomputable abbrev FH:Code:=cC Tryd.prog (aw.aW 53)
noncomputable def AL (C:af) (p:List V) (o5 q:Int) (t21:List V) (t22 t23:Int) (t37:List V) (t38 aQ ba:Int) (bp bj:List V) (ca cb gp gq:Int) (cP bP br bd:List V) (t39:Int) (rows:List V) {β:Type} (kn:(Int × (List V))→Option β) (kr:(Int × Bool × (List V))→Option β):Option β:=
 bif decide ((t39:Int)<t38) then
  (idx t37 t39).bind fun x5=>
  (idx p x5.toInt).bind fun x6=>
  bif Nat.ble ((rows.length+([.int .i64 x6.toInt]:List V).length)*8) bB then
  kn (IntKind.wrap .i64 (t39+1),rows++([.int .i64 x6.toInt]:List V))
  else none
 else
  kr (t39,decide ((t39:Int)<t38),rows)
noncomputable def FI (C:af) (p:List V) (o5 q:Int) (t21:List V) (t22 t23:Int) (t37:List V) (t38 aQ ba:Int) (bp bj:List V) (ca cb gp gq:Int) (cP bP br bd:List V):(Int × (List V))→Option ((Int × (List V)) ⊕ (Int × Bool × (List V))):=un fun t39 rows=>AL C p o5 q t21 t22 t23 t37 t38 aQ ba bp bj ca cb gp gq cP bP br bd t39 rows (fun y=>some (.inl y)) (fun r=>some (.inr r))
noncomputable def AN (C:af) (p t21:List V) (t22 aQ ba:Int) (bp bj:List V) (ca cb gp gq:Int) (Lf cP:List V) (o5 t23:Int) (bP br:List V) {β:Type} (kn:(Int × Int × (List V) × (List V))→Option β) (kr:(Int × Int × Bool × (List V) × (List V))→Option β):Option β:=
 bif decide ((t23:Int)<t22) then
  (idx t21 t23).bind fun x3=>
  bif (x3.toInt:Int) != o5 then
  kn (o5,IntKind.wrap .i64 (t23+1),bP,br)
  else
  (idx bj t23).bind fun x4=>
  (Loop (FI C p (IntKind.wrap .i64 (o5+1)) t23 t21 t22 t23 x4.toList (x4.toList.length:Int) aQ ba bp bj ca cb gp gq Lf cP bP br) (0,([]:List V))).bind (un fun (mM:Int)=>un fun (qk:Bool) (As:List V)=>
   bif Nat.ble ((br.length+([.list ah As]:List V).length)*24) bB then
    (idx bp t23).bind fun gd=>
    bif Nat.ble ((bP.length+([.bool gd.toBool]:List V).length)*1) bB then
    kn (IntKind.wrap .i64 (o5+1),IntKind.wrap .i64 (t23+1),bP++([.bool gd.toBool]:List V),br++([.list ah As]:List V))
    else none
   else none)
 else
  kr (o5,t23,decide ((t23:Int)<t22),bP,br)
noncomputable def FJ (C:af) (p t21:List V) (t22 aQ ba:Int) (bp bj:List V) (ca cb gp gq:Int) (Lf cP:List V):(Int × Int × (List V) × (List V))→Option ((Int × Int × (List V) × (List V)) ⊕ (Int × Int × Bool × (List V) × (List V))):=un fun o5=>un fun t23=>un fun bP br=>AN C p t21 t22 aQ ba bp bj ca cb gp gq Lf cP o5 t23 bP br (fun y=>some (.inl y)) (fun r=>some (.inr r))
noncomputable def Tl (C:af):cq:=fun β n ds k=>
 bif Nat.beq n 177 then bu I4 [false,false,false,false,false,false,false,false,true,false,false,false,false,false,false,false,false,true,false,false,false,false] [[1,2,3,4,5,6,7,8,0,0,10,11,12,13,14,15,16,17,0,19,20,21,22]] (@AL C) ds k else
 bif Nat.beq n 81 then bu I5 [false,true,false,false,true,false,false,false,false,false,false,false,false,false,false,true,true] [[1,0,3,4,0,0,6,7,8,9,10,11,12,13,14,15,0,0]] (@AN C) ds k else
 none
abbrev Tm (C:af) (b:ch):Prop:=cj Tryd.prog aw C (Tl C) 53 (cJ Tryd.prog (aw.aW 53)) (aw.sin 53).a8.length b
theorem aeb (C:af):Tm C (.loop (ar [1,1,1,1,0,1,0,0,1,1,0,0,1,1,1,1,0,1,0,0] FH)):=
 bz I4 [false,false,false,false,false,false,false,false,true,false,false,false,false,false,false,false,false,true,false,false,false,false] [[1,2,3,4,5,6,7,8,0,0,10,11,12,13,14,15,16,17,0,19,20,21,22]] (@AL C) (by kernel_rfl) (aS (bs:=[]) (by kernel_rfl) av) (fun ds=>by kernel_rfl) (fun i x=>by kernel_rfl) (fun i x β k=>by kernel_rfl) (fun β ds k=>by kernel_rfl)
theorem aec (C:af):Tm C (.loop (ar [1,1,1,1,0,1,0,0] FH)):=
 bz I5 [false,true,false,false,true,false,false,false,false,false,false,false,false,false,false,true,true] [[1,0,3,4,0,0,6,7,8,9,10,11,12,13,14,15,0,0]] (@AN C) (by kernel_rfl) (aS (bs:=[.loop (ar [1,1,1,1,0,1,0,0,1,1,0,0,1,1,1,1,0,1,0,0] FH)]) (by kernel_rfl) (bf (aeb C) av)) (fun ds=>by kernel_rfl) (fun i x=>by kernel_rfl) (fun i x β k=>by kernel_rfl) (fun β ds k=>by kernel_rfl)
noncomputable def Tn (C:af) (aX aY:Int) (aG bc:List V):Option (List V):=
 (C DY [.int .i64 aX,.int .i64 aY,.list ab aG,.list aa bc]).bind fun r1=>
 (idx ((V.nth r1 0).toList) aY).bind fun x2=>
 (Loop (FJ C ((V.nth r1 0).toList) ((V.nth r1 0).toList) (((V.nth r1 0).toList).length:Int) aX aY aG bc 0 0 aX x2.toInt ([]:List V) ([]:List V)) (0,0,([]:List V),([]:List V))).bind (un fun (ais:Int)=>un fun (Ao:Int)=>un fun (mN:Bool)=>un fun (qt:List V) (tJ:List V)=>
  (C DZ [.int .i64 aX,.int .i64 x2.toInt,.list ab qt,.list aa tJ]).bind fun jq=>
  some [.int .i64 ((V.nth jq 0).toInt),.int .i64 ((V.nth (jq.drop 1) 0).toInt),.list ab ((V.nth (jq.drop 2) 0).toList),.list aa ((V.nth ((jq.drop 2).drop 1) 0).toList)])
theorem aed {aX aY:Int} {aG bc:List V} {r:Option (List V)} (h:Tn CC aX aY aG bc=r):CC rH [.int .i64 aX,.int .i64 aY,.list ab aG,.list aa bc]=r:=
 bn (key:=53) (L:=Tl CC) (bs:=[.loop (ar [1,1,1,1,0,1,0,0] FH)]) (by kernel_rfl) (bf (aec CC) av) (Eq.trans (by kernel_rfl) h)
end Go.AM
set_option maxRecDepth 100000
set_option linter.unusedSimpArgs false
namespace Go.AM
open Go.Proofs
theorem ue {n:Nat} {c:Nat→Nat}:(cV n c).length=n:=by simp[cV]
theorem qB {n q:Nat} {c:Nat→Nat} (h:q<n):idx (cV n c) (q:Int)=some (nV (c q)):=n9 h
theorem FK {n q:Nat} {f:Nat→V} {z v:V} (hv:v=f q):(tab n fun j=>if j<q then f j else z).set q v=tab n fun j=>if j<q+1 then f j else z:=by
 rw[hv,mQ]
 refine eo fun j _=> ?_
 by_cases hj:j=q
 ·rw[if_pos hj,if_pos (by omega),hj]
 ·rw[if_neg hj]
  by_cases bU:j<q
  ·rw[if_pos bU,if_pos (by omega)]
  ·rw[if_neg bU,if_neg (by omega)]
theorem Lg {n:Nat} {f:Nat→V} {z:V}:(tab n fun j=>if j<n then f j else z)=tab n f:=eo fun j hj=>if_pos hj
theorem To {n:Nat} {g:Nat→Nat} (hn:n≤1000) (hg: ∀q,q<n→g q≤1000000000):CC yX [.list ah (cV n g)]=some [.list ah (cV n (cf g n))]:=by
 refine adZ ?_
 unfold Td
 rw[ue]
 refine bT (lT (by omega) (by omega)) ?_
 rw[Int.toNat_natCast,mR]
 refine bs (ez n (fun i=>((i:Int),fx nV 0 (aM g i),(tab n fun q=>if q<i then nV (cf g n q) else nV 0))) ((n:Int),false,fx nV 0 (aM g n),cV n (cf g n)) (fun q hq=> ?_) ?_) ?_
 ·have hle:=qu g q
  simp only[La,AD,un]
  refine bT (dp hq) ?_
  refine bs (qB hq) ?_
  have hk:cR .i64 (g q:Int)=true:=ES (by have:=hg q hq;omega)
  refine bT (by simp only[nV,V.toInt_int,hk,Bool.and_self]) ?_
  have e1:=tQ v8 (g q) (aM g q) 0
  rw[cu (by omega)]
  simp only[nV,V.toInt_int]
  rw[show (V.int .i64 (g q:Int))=nV (g q) from rfl]
  by_cases hx:g q∈aM g q
  ·refine bF (by rw[show fo (nV (g q)) _=_ from e1];simpa using hx) ?_
   refine (dE hq).trans ?_
   have e2:=vZ v8 (g q) (.int .i64 0) (aM g q) 0 hx
   rw[Nat.zero_add,←Sk hq hx] at e2
   rw[show gK (nV (g q)) _ (.int .i64 0)=_ from e2,V.toInt_int,Int.toNat_natCast,KP hx]
   exact congrArg (fun x=>some (Sum.inl (((q+1:Nat):Int),fx nV 0 (aM g q),x))) (FK (f:=fun j=>nV (cf g n j)) rfl)
  ·refine bT (by rw[show fo (nV (g q)) _=_ from e1];simpa using hx) ?_
   refine bT (by simp only[hk,Bool.and_self]) ?_
   refine (dE hq).trans ?_
   have e2:=v5 v8 (g q) (aM g q) 0 hx
   rw[Nat.zero_add] at e2
   rw[show List.length (fx nV 0 (aM g q))=(aM g q).length from vY _ _,show eS (nV (g q)) _ _=_ from e2,Int.toNat_natCast,←Sl hq hx,E2 hx]
   exact congrArg (fun x=>some (Sum.inl (((q+1:Nat):Int),fx nV 0 (aM g q++[g q]),x))) (FK (f:=fun j=>nV (cf g n j)) rfl)
 ·simp only[La,AD,un]
  refine bF (bt (Nat.le_refl _)) ?_
  rw[bt (Nat.le_refl _)]
  exact congrArg (fun x=>some (Sum.inr ((n:Int),false,fx nV 0 (aM g n),x))) (Lg (f:=fun j=>nV (cf g n j)))
 ·rfl
def kz (n:Nat) (p q:Nat→Nat) (i:Nat):Nat:=p i*(n+1)+q i
theorem aee {n:Nat} {p q:Nat→Nat} (hn:n≤512) (hp: ∀i,i<n→p i≤1000) (hq: ∀i,i<n→q i≤1000):CC D7 [.list ah (cV n p),.list ah (cV n q)]=some [.list ah (cV n (cf (kz n p q) n))]:=by
 have hb: ∀i,i<n→kz n p q i≤1000000000:=fun i hi=>by
  have h1:=hp i hi
  have h2:=hq i hi
  have:=Nat.mul_le_mul h1 (show n+1≤513 by omega)
  unfold kz
  omega
 refine ad3 ?_
 unfold Tg
 rw[ue]
 refine bT (lT (by omega) (by omega)) ?_
 rw[Int.toNat_natCast,mR]
 refine bs (ez n (fun i=>((i:Int),(tab n fun j=>if j<i then nV (kz n p q j) else nV 0))) ((n:Int),false,cV n (kz n p q)) (fun i hi=> ?_) ?_) ?_
 ·simp only[Lb,AE,un]
  refine bT (dp hi) ?_
  refine bs (qB hi) ?_
  refine bs (qB hi) ?_
  refine (dE hi).trans ?_
  have h1:=hp i hi
  have h2:=hq i hi
  have h3:=hb i hi
  have h4:IntKind.wrap .i64 ((IntKind.wrap .i64 ((IntKind.wrap .i64 (((cV n p).length:Int)+1))*(p i:Int)))+(q i:Int))=(kz n p q i:Int):=by
   rw[ue,cu (by omega)]
   have e:((n+1:Nat):Int)*(p i:Int)=((p i*(n+1):Nat):Int):=by rw[Nat.mul_comm];push_cast;rfl
   unfold kz at*
   rw[e]
   have h5:p i*(n+1)≤1000000000:=by omega
   generalize p i*(n+1)=z at*
   rw[wrap64 (x:=(z:Int)) (by omega) (by omega),wrap64 (by omega) (by omega)]
   push_cast;rfl
  simp only[nV,V.toInt_int]
  rw[h4,cu (by omega),Int.toNat_natCast]
  exact congrArg (fun x=>some (Sum.inl (((i+1:Nat):Int),x))) (FK (f:=fun j=>nV (kz n p q j)) rfl)
 ·simp only[Lb,AE,un]
  refine bF (bt (Nat.le_refl _)) ?_
  rw[bt (Nat.le_refl _)]
  exact congrArg (fun x=>some (Sum.inr ((n:Int),false,x))) (Lg (f:=fun j=>nV (kz n p q j)))
 ·simp only[un]
  refine bs (To (by omega) hb) ?_
  rfl
theorem Tp {n:Nat} {p q:Nat→Nat} (hn:n≤1000):CC D8 [.list ah (cV n p),.list ah (cV n q)]=some [.bool (decide (∀i,i<n→p i=q i))]:=by
 refine adV ?_
 unfold Ta
 rw[ue,ue]
 refine bF (by simp) ?_
 refine bs (rN (fun i=>p i=q i) n (fun i=>(i:Int)) (.inl false:Bool ⊕ (Int × Bool)) (.inr ((n:Int),false)) (fun i hi=> ?_) ?_) ?_
 ·simp only[K9,AB]
  refine bT (dp hi) ?_
  refine bs (qB hi) ?_
  refine bs (qB hi) ?_
  simp only[nV,V.toInt_int]
  by_cases h:p i=q i
  ·refine bF (by simp[h]) ?_
   rw[if_pos h,cu (by omega)]
  ·refine bT (by simp;omega) ?_
   rw[if_neg h]
 ·simp only[K9,AB]
  refine bF (bt (Nat.le_refl _)) ?_
  rw[bt (Nat.le_refl _)]
 ·by_cases h: ∀i,i<n→p i=q i
  ·rw[if_pos h,decide_eq_true h];rfl
  ·rw[if_neg h,decide_eq_false h];rfl
theorem aef {n:Nat} {p q:Nat→Nat} {i j:Nat} (hi:q i≤n) (hj:q j≤n):kz n p q i=kz n p q j↔p i=p j∧q i=q j:=by
 unfold kz
 constructor
 ·intro h
  have h1:(p i*(n+1)+q i)/(n+1)=p i:=by rw[Nat.mul_comm,Nat.mul_add_div (by omega),Nat.div_eq_of_lt (by omega)];rfl
  have h2:(p j*(n+1)+q j)/(n+1)=p j:=by rw[Nat.mul_comm,Nat.mul_add_div (by omega),Nat.div_eq_of_lt (by omega)];rfl
  have h3:p i=p j:=by rw[←h1,←h2,h]
  rw[h3] at h
  exact ⟨h3,by omega⟩
 ·rintro ⟨h1,h2⟩
  rw[h1,h2]
section
variable {a:Da} (h:a.Ok)
def iT (a:Da) (c:Nat→Nat):Nat→Nat→Nat
 | 0=>c
 | x+1=>cf (kz a.n (iT a c x) fun q=>c (a.nx q x)) a.n
theorem Tq {c:Nat→Nat} (hc: ∀q,q<a.n→c q<a.n): ∀x q,q<a.n→iT a c x q<a.n
 | 0,q,hq=>hc q hq
 | x+1,q,hq=>by
  have h1:=zZ (g:=kz a.n (iT a c x) fun q=>c (a.nx q x)) hq
  have h2:=qu (kz a.n (iT a c x) fun q=>c (a.nx q x)) a.n
  show cf _ _ _<_
  omega
include h
theorem aeg {c:Nat→Nat} (hc: ∀q,q<a.n→c q<a.n): ∀x,x≤a.L→∀q q',q<a.n→q'<a.n→(iT a c x q=iT a c x q'↔c q=c q'∧∀y,y<x→c (a.nx q y)=c (a.nx q' y)):=by
 intro x
 induction x with
 | zero=>intro _ q q' _ _;exact ⟨fun e=>⟨e,fun y hy=>by omega⟩,fun e=>e.1⟩
 | succ x ih=>
  intro hx q q' hq bY
  show cf _ _ _=cf _ _ _↔_
  rw[z0 hq bY,aef (by have:=hc _ (h.ej hq (show x<a.L by omega));omega) (by have:=hc _ (h.ej bY (show x<a.L by omega));omega),ih (by omega) q q' hq bY]
  constructor
  ·rintro ⟨⟨e1,e2⟩,e3⟩
   refine ⟨e1,fun y hy=> ?_⟩
   rcases Nat.lt_or_ge y x with c1|c1
   ·exact e2 y c1
   ·rw[show y=x by omega];exact e3
  ·rintro ⟨e1,e2⟩
   exact ⟨⟨e1,fun y hy=>e2 y (by omega)⟩,e2 x (by omega)⟩
theorem aeh {c:Nat→Nat} {x:Nat} (hx:x<a.L) {k1 k2:Int} {l1 l2:List V}:
  Loop (FE CC (cV a.n c) l1 (x:Int) ((cV a.n c).length:Int) k1 k2 l2 a.cv) (0,([]:List V))=some ((a.n:Int),false,cV a.n fun q=>c (a.nx q x)):=by
 have hm:=h.eh
 rw[ue]
 refine (ez a.n (fun t=>((t:Int),(tab t fun q=>nV (c (a.nx q x))))) _ (fun q hq=> ?_) ?_)
 ·simp only[FE,AG,un]
  refine bT (dp hq) ?_
  refine bs (Da.lU hq) ?_
  simp only[mU]
  refine bs (od hx) ?_
  refine bs (qB (h.ej hq hx)) ?_
  refine bT (cap (by rw[dQ];simp;omega) (by omega)) ?_
  rw[cu (by omega),ko]
  rfl
 ·simp only[FE,AG,un]
  refine bF (bt (Nat.le_refl _)) ?_
  rw[bt (Nat.le_refl _)]
  rfl
theorem Tr {c:Nat→Nat} (hc: ∀q,q<a.n→c q<a.n) {k2:Int} {l2:List V}:
  Loop (FF CC (cV a.n c) (a.L:Int) k2 l2 a.cv) (cV a.n c,0)=some (cV a.n (iT a c a.L),(a.L:Int),false):=by
 have hm:=h.eh
 have h6:=h.l6
 refine (ez a.L (fun x=>(cV a.n (iT a c x),(x:Int))) _ (fun x hx=> ?_) ?_)
 ·simp only[FF,AI,un]
  refine bT (dp hx) ?_
  refine bs (aeh h hx) ?_
  refine bs (aee hm (fun q hq=>by have:=Tq hc x q hq;omega) fun q hq=>by have:=hc _ (h.ej hq hx);omega) ?_
  rw[cu (by omega)]
  rfl
 ·simp only[FF,AI,un]
  refine bF (bt (Nat.le_refl _)) ?_
  rw[bt (Nat.le_refl _)]
theorem aei {c0:Nat→Nat} (hp0:a.Part c0) (ho0:mV c0 a.n) (CV: ∀q,q<a.n→c0 q<a.n) {k2:Int} {l2:List V}: ∃p,Loop (AK CC (a.L:Int) k2 l2 a.cv) (cV a.n c0)=some (cV a.n p)∧a.tW p∧∀q,q<a.n→p q<a.n:=by
 have hm:=h.eh
 have:=P0 (step:=AK CC (a.L:Int) k2 l2 a.cv)
  (fun x=> ∃c,x=cV a.n c∧a.Part c∧mV c a.n∧∀q,q<a.n→c q<a.n)
  (fun x=>a.n-(aM (fun q=>(x.getD q (nV 0)).toInt) a.n).length)
  (fun r=> ∃p,r=cV a.n p∧a.tW p∧∀q,q<a.n→p q<a.n) (fun x hx=> ?_) (cV a.n c0) ⟨c0,rfl,hp0,ho0,CV⟩
 ·obtain ⟨r,h1,p,rfl,h2,h3⟩:=this
  exact ⟨p,h1,h2,h3⟩
 ·obtain ⟨c,rfl,hp,ho,hc⟩:=hx
  have mW:a.E3 c (iT a c a.L):=fun q q' hq bY=>(aeg h hc a.L (Nat.le_refl _) q q' hq bY).trans Da.tU.symm
  have hb:=Tq hc a.L
  have tZ: ∀q q',q<a.n→q'<a.n→iT a c a.L q=iT a c a.L q'→c q=c q':=fun q q' hq bY e=>(Da.tU.1 ((mW q q' hq bY).1 e)).1
  have iM:mV (iT a c a.L) a.n:=by
   have h1:=h.l1
   obtain ⟨m,hm⟩: ∃m,a.L=m+1:=⟨a.L-1,by omega⟩
   rw[hm]
   exact KQ _ _
  by_cases he: ∀q,q<a.n→iT a c a.L q=c q
  ·right
   refine ⟨_,?_,c,rfl,⟨hp.So h fun q q' hq bY e=>(mW q q' hq bY).1 (by rw[he q hq,he q' bY,e]),ho⟩,hc⟩
   simp only[AK,AJ,un]
   refine bs (Tr h hc) ?_
   refine bs (Tp (by omega)) ?_
   refine bT (by simpa using he) ?_
   rfl
  ·left
   refine ⟨cV a.n (iT a c a.L),?_,⟨iT a c a.L,rfl,mW.part h hp,iM,hb⟩,?_⟩
   ·simp only[AK,AJ,un]
    refine bs (Tr h hc) ?_
    refine bs (Tp (by omega)) ?_
    refine bF (by rw[V.bQ,V.jL];exact decide_eq_false he) ?_
    rfl
   ·have ec: ∀d:Nat→Nat,(aM (fun q=>((cV a.n d).getD q (nV 0)).toInt) a.n).length=(aM d a.n).length:=fun d=>by
     have key: ∀m,m≤a.n→aM (fun q=>((cV a.n d).getD q (nV 0)).toInt) m=(aM d m).map fun n:Nat=>(n:Int):=by
      intro m
      induction m with
      | zero=>intro _;rfl
      | succ m ih=>
       intro hm
       have e:((cV a.n d).getD m (nV 0)).toInt=(d m:Int):=by unfold cV;rw[vW (by omega)];rfl
       rw[aM,aM,ih (by omega),e]
       unfold cM
       by_cases hx:d m∈aM d m
       ·rw[if_pos hx,if_pos (List.mem_map.2 ⟨d m,hx,rfl⟩)]
       ·rw[if_neg hx,if_neg]
        ·simp
        ·intro h2
         obtain ⟨y,h3,h4⟩:=List.mem_map.1 h2
         exact hx ((show y=d m by omega)▸h3)
     rw[key a.n (Nat.le_refl _),List.length_map]
    simp only[ec]
    have acM:=Sn tZ
    have hle:=qu (iT a c a.L) a.n
    have bM:(aM c a.n).length≠(aM (iT a c a.L) a.n).length:=by
     intro e
     have bN:=KR tZ (by omega)
     refine he fun q hq=> ?_
     have h1:=acv (f:=iT a c a.L) (c:=c) (fun s s' hs ry=>⟨tZ s s' hs ry,bN s s' hs ry⟩) q hq
     have own: ∀(d:Nat→Nat),mV d a.n→cf d a.n q=d q:=fun d hd=>by
      have h2:d q∈aM d a.n:=iC.2 ⟨q,hq,rfl⟩
      unfold cf
      rw[hd a.n (Nat.le_refl _)] at h2⊢
      have h3:=List.mem_range.1 h2
      have h4:=(List.nodup_range (n:=(aM d a.n).length)).idxOf_getElem (d q) (by rw[List.length_range];exact h3)
      rwa [List.getElem_range] at h4
     rw[own _ iM,own _ ho] at h1
     exact h1
    omega
theorem Ts: ∃p,CC DY (cU a)=some [.list ah (cV a.n p)]∧a.tW p∧∀q,q<a.n→p q<a.n:=by
 have hm:=h.eh
 have hf0: ∀q,q<a.n→(if a.fin q=true then 1 else 0)≤1000000000:=fun q _=>by split<;>omega
 have hb: ∀q,q<a.n→cf (fun q=>if a.fin q=true then 1 else 0) a.n q<a.n:=fun q hq=>by
  have h1:=zZ (g:=fun q=>if a.fin q=true then 1 else 0) hq
  have h2:=qu (fun q=>if a.fin q=true then 1 else 0) a.n
  omega
 obtain ⟨p,h1,h2,h3⟩:=aei h (c0:=cf (fun q=>if a.fin q=true then 1 else 0) a.n)
  ⟨fun q q' hq bY he=>(z0 hq bY).2 (by have:=he [] WL.nil;rw[Da.mP,Da.mP] at this;rw[this]),
   fun q q' hq bY he=>by
   have h1:=(z0 hq bY).1 he
   revert h1
   cases a.fin q<;>cases a.fin q'<;>simp⟩ (KQ _ _) hb (k2:=(a.st:Int)) (l2:=a.cN)
 refine ⟨p,aea ?_,h2,h3⟩
 unfold Tj
 rw[Da.mT]
 refine bT (lT (by omega) (by omega)) ?_
 rw[Int.toNat_natCast,mR,dQ]
 refine bs (ez a.n (fun i=>((i:Int),(tab a.n fun j=>if j<i then nV (if a.fin j=true then 1 else 0) else nV 0))) ((a.n:Int),false,cV a.n fun q=>if a.fin q=true then 1 else 0) (fun q hq=> ?_) ?_) ?_
 ·simp only[Lc,AF,un]
  refine bT (dp hq) ?_
  refine bs (Da.rP hq) ?_
  rw[cu (by omega),V.jL]
  cases hf:a.fin q with
  | true=>
   refine bT rfl ?_
   refine (dE hq).trans ?_
   rw[Int.toNat_natCast]
   exact congrArg (fun x=>some (Sum.inl (((q+1:Nat):Int),x))) (FK (f:=fun j=>nV (if a.fin j=true then 1 else 0)) (by rw[hf];rfl))
  | false=>
   refine bF rfl ?_
   refine congrArg (fun x=>some (Sum.inl (((q+1:Nat):Int),x))) (eo fun j _=> ?_)
   by_cases hj:j=q
   ·rw[if_neg (show¬j<q by omega),if_pos (show j<q+1 by omega),hj,hf];rfl
   ·by_cases bU:j<q
    ·rw[if_pos bU,if_pos (show j<q+1 by omega)]
    ·rw[if_neg bU,if_neg (show¬j<q+1 by omega)]
 ·simp only[Lc,AF,un]
  refine bF (bt (Nat.le_refl _)) ?_
  rw[bt (Nat.le_refl _)]
  exact congrArg (fun x=>some (Sum.inr ((a.n:Int),false,x))) (Lg (f:=fun j=>nV (if a.fin j=true then 1 else 0)))
 ·simp only[un]
  refine bs (To (by omega) hf0) ?_
  refine bs h1 ?_
  rfl
theorem aej {p:Nat→Nat} {q:Nat} (hq:q<a.n) {k1 k2 k3 k4 k5 k6 k7 k8 k9 K0:Int} {l1 l2 l3 l4 l5 l6 l7:List V}:
  Loop (FI CC (cV a.n p) k1 k2 l1 k3 k4 (tab a.L fun x=>iV (a.nx q x)) ((tab a.L fun x=>iV (a.nx q x)).length:Int) k5 k6 l2 l3 k7 k8 k9 K0 l4 l5 l6 l7) (0,([]:List V))=
   some ((a.L:Int),false,(tab a.L fun x=>nV (p (a.nx q x)))):=by
 have h6:=h.l6
 rw[dQ]
 refine (ez a.L (fun t=>((t:Int),(tab t fun x=>nV (p (a.nx q x))))) _ (fun t ht=> ?_) ?_)
 ·simp only[FI,AL,un]
  refine bT (dp ht) ?_
  refine bs (od ht) ?_
  refine bs (qB (h.ej hq ht)) ?_
  refine bT (cap (by rw[dQ];simp;omega) (by omega)) ?_
  rw[cu (by omega),ko]
  rfl
 ·simp only[FI,AL,un]
  refine bF (bt (Nat.le_refl _)) ?_
  rw[bt (Nat.le_refl _)]
theorem aek {p:Nat→Nat} (ho:mV p a.n) {k2 k3 k4 k5 k6:Int} {l4 l5:List V}:
  Loop (FJ CC (cV a.n p) (cV a.n p) ((cV a.n p).length:Int) (a.L:Int) k2 a.cN a.cv k3 k4 k5 k6 l4 l5) (0,0,([]:List V),([]:List V))=
   some (((Da.dF p a.n).length:Int),(a.n:Int),false,qF a p a.n,qN a p a.n):=by
 have h6:=h.l6
 have hm:=h.eh
 rw[ue]
 refine (ez a.n (fun i=>(((Da.dF p i).length:Int),(i:Int),qF a p i,qN a p i)) _ (fun q hq=> ?_) ?_)
 ·have hle:=KZ p q
  have hF:(qF a p q).length=(Da.dF p q).length:=by simp[qF]
  have hN:(qN a p q).length=(Da.dF p q).length:=by simp[qN]
  simp only[FJ,AN,un]
  refine bT (dp hq) ?_
  refine bs (qB hq) ?_
  rw[cu (by omega)]
  simp only[nV,V.toInt_int]
  by_cases hx:p q∈aM p q
  ·have:=(KY ho hq).1 hx
   refine bT (by simp;omega) ?_
   unfold qF qN
   rw[Da.dF,if_pos hx]
  ·have e:p q=(Da.dF p q).length:=by
    have h1:=ho (q+1) (by omega)
    rw[E2 hx,List.length_append,List.length_singleton,List.range_succ] at h1
    rw[Da.wa]
    exact List.singleton_inj.1 (List.append_inj_right h1 (by simp))
   refine bF (by rw[e];simp) ?_
   refine bs (Da.lU hq) ?_
   simp only[mU]
   refine bs (aej h hq) ?_
   refine bT (cap (by rw[hN];simp;omega) (by omega)) ?_
   refine bs (Da.rP hq) ?_
   refine bT (cap (by rw[hF];simp;omega) (by omega)) ?_
   unfold qF qN
   rw[Da.dF,if_neg hx,List.map_append,List.map_append,List.length_append,cu (by omega)]
   rfl
 ·simp only[FJ,AN,un]
  refine bF (bt (Nat.le_refl _)) ?_
  rw[bt (Nat.le_refl _)]
theorem Lh:CC rH (cU a)=some (cU (minD a)):=by
 obtain ⟨p,c1,c2,c3⟩:=Ts h
 have hq:=Da.E5 h c2
 obtain ⟨q1,q2⟩:=SE (a:=a) (p:=p)
 rw[←wm h (Da.KS h c2)]
 refine aed ?_
 unfold Tn
 refine bs c1 ?_
 refine bs (qB h.s) ?_
 refine bs (aek h c2.2) ?_
 simp only[un]
 rw[←q1,←q2]
 have vo:=adS hq
 refine bs vo ?_
 rfl
end
end Go.AM
set_option maxRecDepth 100000
set_option linter.unusedSimpArgs false
namespace Go.AM
open Go.Proofs Go.Sort
section
variable {α:Type} {enc:α→V}
def o6 (enc:α→V) (d:Array α):List V:=d.toList.map enc
theorem fO (d:Array α):(o6 enc d).length=d.size:=by simp[o6]
theorem fP (d:Array α) (i:Nat) (x:α):(o6 enc d).set i (enc x)=o6 enc (d.setIfInBounds i x):=by
 unfold o6;rw[Array.toList_setIfInBounds,List.map_set]
variable [Inhabited α]
theorem fQ {d:Array α} {i:Nat} (h:i<d.size):(o6 enc d)[i]? =some (enc d[i]!):=by
 unfold o6;rw[List.getElem?_map,Array.getElem?_toList,Array.getElem?_eq_getElem h,getElem!_pos d i h];rfl
theorem g9 {d:Array α} {i j:Nat} {x:α} (h:i<d.size):(o6 enc (d.setIfInBounds j x))[i]? =some (enc (d.setIfInBounds j x)[i]!):=fQ (by rw[Array.size_setIfInBounds];exact h)
theorem fR (a b:Nat):(a:Int)+(b:Int)=((a+b:Nat):Int):=(Int.natCast_add a b).symm
theorem dG (a:Nat):(a:Int)+1=((a+1:Nat):Int):=rfl
theorem rV (a:Nat):((a+1:Nat):Int)-1=(a:Int):=by omega
theorem AO (a:Nat):(a:Int)*2=((a*2:Nat):Int):=by omega
theorem lZ {a b:Nat} (h:b≤a):(a:Int)-(b:Int)=((a-b:Nat):Int):=by omega
theorem jr {a:Nat} (h:1≤a):(a:Int)-1=((a-1:Nat):Int):=by omega
theorem divC (a b:Nat):Int.tdiv (a:Int) (b:Int)=((a/b:Nat):Int):=by rw[Int.tdiv_eq_ediv_of_nonneg (by omega)];rfl
theorem mY {p:Prop} [Decidable p] (h:p):decide p=true:=decide_eq_true h
theorem qC {p:Prop} [Decidable p] (h: ¬p):decide p=false:=decide_eq_false h
variable {lt:α→α→Bool}
theorem Tt (a j:Nat) (d:Array α):insInner lt a (j+1) d=if j+1>a&&lt d[j+1]! d[j]! then insInner lt a j (swp d (j+1) j) else d:=rfl
theorem Li {a:Nat}: ∀(j:Nat) (d:Array α),(insInner lt a j d).size=d.size
 | 0,d=>rfl
 | j+1,d=>by
  rw[Tt]
  split
  ·rw[Li j,size_swp]
  ·rfl
theorem AP (hi first:Nat): ∀(n root:Nat) (d:Array α),hi-root≤n→(siftDown lt hi first root d).size=d.size:=by
 intro n
 induction n with
 | zero=>intro root d h;rw[siftDown,dif_pos (by omega)]
 | succ n ih=>
  intro root d h
  rw[siftDown]
  split
  ·rfl
  ·split
   ·split
    ·rfl
    ·split
     ·rw[ih _ _ (by omega),size_swp]
     ·rfl
   ·split
    ·rfl
    ·rw[ih _ _ (by omega),size_swp]
theorem Lj (hi first:Nat): ∀(k:Nat) (d:Array α),(heapBuild lt hi first k d).size=d.size
 | 0,d=>rfl
 | k+1,d=>by rw[heapBuild,Lj,AP _ _ _ _ _ (Nat.le_refl _)]
end
end Go.AM
set_option maxRecDepth 100000
namespace Go.AM
open Go.Proofs
noncomputable abbrev FL:Code:=cC Tryd.prog (aw.aW 92)
noncomputable def AQ (C:af) (t7:List V) (t8 t9:Int) (outs:List V) (Lk Ll Lm k':Int) {β:Type} (kn:Int→Option β) (kr:(Int × Bool)→Option β):Option β:=
 bif decide ((k':Int)>0) then
  bif (decide (0≤(IntKind.wrap .i64 (k'-1))))&&(decide ((IntKind.wrap .i64 (k'-1))<(outs.length:Int))) then
  (outs[(IntKind.wrap .i64 (k'-1):Int).toNat]?).bind fun x2=>
  (C y4 [.int .i64 Lk,.int .i64 Ll,.int .i64 Lm,.int .i64 ((x2.cell 0).toInt),.int .i64 ((x2.cell 1).toInt),.int .i64 ((x2.cell 2).toInt)]).bind fun r3=>
  bif (V.nth r3 0).toBool then
   kn (IntKind.wrap .i64 (k'-1))
  else
   kr (k',(V.nth r3 0).toBool)
  else none
 else
  kr (k',false)
noncomputable def AR (C:af) (t7:List V) (t8 t9:Int) (outs:List V) (Lk Ll Lm:Int):(Int)→Option ((Int) ⊕ (Int × Bool)):=fun k'=>AQ C t7 t8 t9 outs Lk Ll Lm k' (fun y=>some (.inl y)) (fun r=>some (.inr r))
noncomputable def AS (C:af) (t7:List V) (t8 t9:Int) (outs:List V) {β:Type} (kn:(Int × (List V))→Option β) (kr:(Int × Bool × (List V))→Option β):Option β:=
 bif decide ((t9:Int)<t8) then
  (idx t7 t9).bind fun x1=>
  (Loop (AR C t7 t8 t9 outs ((x1.cell 0).toInt) ((x1.cell 1).toInt) ((x1.cell 2).toInt)) (outs.length:Int)).bind (un fun (e6:Int) (lP:Bool)=>
   bif (e6:Int)==0 then
   bif (decide (0≤e6))&&(decide (e6≤(outs.length:Int))) then
    bif Nat.ble ((([]:List V).length+((outs.drop 0).take (((e6:Int).toNat)-0)).length)*24) bB then
    bif Nat.ble (((([]:List V)++((outs.drop 0).take (((e6:Int).toNat)-0))).length+([.agg [.int .i64 ((x1.cell 0).toInt),.int .i64 ((x1.cell 1).toInt),.int .i64 ((x1.cell 2).toInt)]]:List V).length)*24) bB then
     bif (decide (0≤e6))&&(decide (e6≤(outs.length:Int))) then
     bif Nat.ble ((((([]:List V)++((outs.drop 0).take (((e6:Int).toNat)-0)))++([.agg [.int .i64 ((x1.cell 0).toInt),.int .i64 ((x1.cell 1).toInt),.int .i64 ((x1.cell 2).toInt)]]:List V)).length+((outs.drop ((e6:Int).toNat)).take (outs.length-((e6:Int).toNat))).length)*24) bB then
      kn (IntKind.wrap .i64 (t9+1),((([]:List V)++((outs.drop 0).take (((e6:Int).toNat)-0)))++([.agg [.int .i64 ((x1.cell 0).toInt),.int .i64 ((x1.cell 1).toInt),.int .i64 ((x1.cell 2).toInt)]]:List V))++((outs.drop ((e6:Int).toNat)).take (outs.length-((e6:Int).toNat))))
     else none
     else none
    else none
    else none
   else none
   else
   bif (decide (0≤(IntKind.wrap .i64 (e6-1))))&&(decide ((IntKind.wrap .i64 (e6-1))<(outs.length:Int))) then
    (outs[(IntKind.wrap .i64 (e6-1):Int).toNat]?).bind fun x6=>
    bif !(((((x6.cell 0).toInt):Int)==((x1.cell 0).toInt))&&(((((x6.cell 1).toInt):Int)==((x1.cell 1).toInt))&&(((((x6.cell 2).toInt):Int)==((x1.cell 2).toInt))&&true))) then
    bif (decide (0≤e6))&&(decide (e6≤(outs.length:Int))) then
     bif Nat.ble ((([]:List V).length+((outs.drop 0).take (((e6:Int).toNat)-0)).length)*24) bB then
     bif Nat.ble (((([]:List V)++((outs.drop 0).take (((e6:Int).toNat)-0))).length+([.agg [.int .i64 ((x1.cell 0).toInt),.int .i64 ((x1.cell 1).toInt),.int .i64 ((x1.cell 2).toInt)]]:List V).length)*24) bB then
      bif (decide (0≤e6))&&(decide (e6≤(outs.length:Int))) then
      bif Nat.ble ((((([]:List V)++((outs.drop 0).take (((e6:Int).toNat)-0)))++([.agg [.int .i64 ((x1.cell 0).toInt),.int .i64 ((x1.cell 1).toInt),.int .i64 ((x1.cell 2).toInt)]]:List V)).length+((outs.drop ((e6:Int).toNat)).take (outs.length-((e6:Int).toNat))).length)*24) bB then
       kn (IntKind.wrap .i64 (t9+1),((([]:List V)++((outs.drop 0).take (((e6:Int).toNat)-0)))++([.agg [.int .i64 ((x1.cell 0).toInt),.int .i64 ((x1.cell 1).toInt),.int .i64 ((x1.cell 2).toInt)]]:List V))++((outs.drop ((e6:Int).toNat)).take (outs.length-((e6:Int).toNat))))
      else none
      else none
     else none
     else none
    else none
    else
    kn (IntKind.wrap .i64 (t9+1),outs)
   else none)
 else
  kr (t9,decide ((t9:Int)<t8),outs)
noncomputable def AT (C:af) (t7:List V) (t8:Int):(Int × (List V))→Option ((Int × (List V)) ⊕ (Int × Bool × (List V))):=un fun t9 outs=>AS C t7 t8 t9 outs (fun y=>some (.inl y)) (fun r=>some (.inr r))
noncomputable def Tu (C:af):cq:=fun β n ds k=>
 bif Nat.beq n 97 then bu Jq [true,false,false,false,false,false,false,false] [[0,2,3,4,0,5,6,7,8]] (@AQ C) ds k else
 bif Nat.beq n 49 then bu Jr [false,false,true,true] [[1,2,0,0,0]] (@AS C) ds k else
 none
abbrev Tv (C:af) (b:ch):Prop:=cj Tryd.prog aw C (Tu C) 92 (cJ Tryd.prog (aw.aW 92)) (aw.sin 92).a8.length b
theorem ael (C:af):Tv C (.loop (ar [1,1,0,1,0,0,1,1,0,0,1,1,0,0,0] FL)):=
 bz Jq [true,false,false,false,false,false,false,false] [[0,2,3,4,0,5,6,7,8]] (@AQ C) (by kernel_rfl) (aS (bs:=[]) (by kernel_rfl) av) (fun ds=>by kernel_rfl) (fun i x=>by kernel_rfl) (fun i x β k=>by kernel_rfl) (fun β ds k=>by kernel_rfl)
theorem aem (C:af):Tv C (.loop (ar [1,1,0,1,0,0] FL)):=
 bz Jr [false,false,true,true] [[1,2,0,0,0]] (@AS C) (by kernel_rfl) (aS (bs:=[.loop (ar [1,1,0,1,0,0,1,1,0,0,1,1,0,0,0] FL)]) (by kernel_rfl) (bf (ael C) av)) (fun ds=>by kernel_rfl) (fun i x=>by kernel_rfl) (fun i x β k=>by kernel_rfl) (fun β ds k=>by kernel_rfl)
noncomputable def Tw (C:af) (l:List V):Option (List V):=
 (Loop (AT C l (l.length:Int)) (0,([]:List V))).bind (un fun (mM:Int)=>un fun (qk:Bool) (aen:List V)=>
  some [.list ag aen])
theorem aeo {l:List V} {r:Option (List V)} (h:Tw CC l=r):CC D2 [.list ag l]=r:=
 bn (key:=92) (L:=Tu CC) (bs:=[.loop (ar [1,1,0,1,0,0] FL)]) (by kernel_rfl) (bf (aem CC) av) (Eq.trans (by kernel_rfl) h)
end Go.AM
set_option maxRecDepth 100000
set_option linter.unusedSimpArgs false
set_option maxHeartbeats 1000000
namespace Go.AM
open Go.Proofs
theorem Ed.lt_irrefl (a:Ed): ¬a.lt a:=by unfold Ed.lt;omega
theorem Ed.lt_trans {a b c:Ed}:a.lt b→b.lt c→a.lt c:=by unfold Ed.lt;omega
theorem Ed.lt_asymm {a b:Ed}:a.lt b→¬b.lt a:=by unfold Ed.lt;omega
theorem Ed.Tx {a b:Ed} (h1: ¬a.lt b) (h2: ¬b.lt a):a=b:=by
 cases a;cases b
 simp only[Ed.lt,Ed.mk.injEq] at*
 omega
abbrev mZ (E:List Ed):Prop:=E.Pairwise Ed.lt
def Ed.key (e:Ed):Nat:=(e.f.toNat*6+e.l.toNat)*64+e.t.toNat
theorem Ed.aep {a b:Ed} {L S:Int} (hL:L≤6) (hS:S≤64) (ha:a.In L S) (hb:b.In L S) (h:a.lt b):a.key<b.key:=by
 unfold Ed.In at ha hb
 unfold Ed.lt at h
 unfold Ed.key
 omega
theorem aeq {L S:Int} (hL:L≤6) (hS:S≤64): ∀(E:List Ed),mZ E→(∀e∈E,e.In L S)→∀i (hi:i<E.length),i≤E[i].key:=by
 intro E h hE i
 induction i with
 | zero=>intro hi;omega
 | succ i ih=>
  intro hi
  have h1:=ih (by omega)
  have h2:=(List.pairwise_iff_getElem.1 h) i (i+1) (by omega) hi (by omega)
  have:=Ed.aep hL hS (hE _ (List.getElem_mem _)) (hE _ (List.getElem_mem _)) h2
  omega
theorem aer {L S:Int} (hL:L≤6) (hS:S≤64) {E:List Ed} (h:mZ E) (hE: ∀e∈E,e.In L S):E.length≤24576:=by
 by_cases h0:E.length=0
 ·omega
 ·have h1:=aeq hL hS E h hE (E.length-1) (by omega)
  have h2:=hE E[E.length-1] (List.getElem_mem _)
  unfold Ed.In at h2
  unfold Ed.key at h1
  omega
theorem Tz: ∀{A B:List Ed},mZ A→mZ B→(∀x,x∈A↔x∈B)→A=B
 | [],[],_,_,_=>rfl
 | [],b::B,_,_,h=>by have:=(h b).2 (by simp);cases this
 | a::A,[],_,_,h=>by have:=(h a).1 (by simp);cases this
 | a::A,b::B,hA,hB,h=>by
  have a1:=List.pairwise_cons.1 hA
  have b1:=List.pairwise_cons.1 hB
  have fJ:a=b:=by
   have ha:=(h a).1 (by simp)
   have hb:=(h b).2 (by simp)
   rcases List.mem_cons.1 ha with e|e
   ·exact e
   ·rcases List.mem_cons.1 hb with e'|e'
    ·exact e'.symm
    ·exact absurd (a1.1 b e') (Ed.lt_asymm (b1.1 a e))
  subst fJ
  rw[Tz a1.2 b1.2 fun x=> ?_]
  constructor
  ·intro hx
   rcases List.mem_cons.1 ((h x).1 (by simp[hx])) with e|e
   ·subst e;exact absurd (a1.1 x hx) (Ed.lt_irrefl x)
   ·exact e
  ·intro hx
   rcases List.mem_cons.1 ((h x).2 (by simp[hx])) with e|e
   ·subst e;exact absurd (b1.1 x hx) (Ed.lt_irrefl x)
   ·exact e
def hO (out:List Ed) (e:Ed):Nat→Nat
 | 0=>0
 | k+1=>if e.lt (out.getD k default) then hO out e k else k+1
def m7 (out:List Ed) (e:Ed):List Ed:=
 if hO out e out.length=0∨¬out.getD (hO out e out.length-1) default=e then out.take (hO out e out.length)++[e]++out.drop (hO out e out.length) else out
def o7 (l:List Ed):List Ed:=l.foldl m7 []
theorem AU (out:List Ed) (e:Ed): ∀k,hO out e k≤k
 | 0=>Nat.le_refl _
 | k+1=>by unfold hO;split;exact Nat.le_succ_of_le (AU out e k);exact Nat.le_refl _
theorem TA (out:List Ed) (e:Ed): ∀k i,hO out e k≤i→i<k→e.lt (out.getD i default)
 | 0,i,_,h=>by omega
 | k+1,i,h1,h2=>by
  unfold hO at h1
  split at h1
  ·rename_i h3
   by_cases hi:i=k
   ·subst hi;exact h3
   ·exact TA out e k i h1 (by omega)
  ·omega
theorem TB (out:List Ed) (e:Ed): ∀k,hO out e k≠0→¬e.lt (out.getD (hO out e k-1) default)
 | 0,h=>by simp[hO] at h
 | k+1,h=>by
  unfold hO at h⊢
  split
  ·rename_i h3
   rw[if_pos h3] at h
   exact TB out e k h
  ·rename_i h3
   simpa using h3
theorem aes {out:List Ed} {e x:Ed} (hk:hO out e out.length≤out.length):x∈m7 out e↔x=e∨x∈out:=by
 unfold m7
 split
 ·rename_i h
  have:=List.take_append_drop (hO out e out.length) out
  constructor
  ·intro hx
   simp only[List.append_assoc,List.mem_append,List.mem_singleton] at hx
   rcases hx with hx|hx|hx
   ·exact .inr (List.mem_of_mem_take hx)
   ·exact .inl hx
   ·exact .inr (List.mem_of_mem_drop hx)
  ·rintro (rfl|hx)
   ·simp
   ·rw[←this] at hx
    simp only[List.mem_append] at hx
    simp only[List.append_assoc,List.mem_append,List.mem_singleton]
    rcases hx with hx|hx
    ·exact .inl hx
    ·exact .inr (.inr hx)
 ·rename_i h
  simp only[not_or,Classical.not_not] at h
  constructor
  ·exact .inr
  ·rintro (rfl|hx)
   ·have h1:=h.2
    have h2:hO out x out.length-1<out.length:=by omega
    rw[←h1]
    simp[h2]
   ·exact hx
theorem aet {out:List Ed} {e:Ed} (h:mZ out):mZ (m7 out e):=by
 have hk:=AU out e out.length
 have up:=TA out e out.length
 have dn:=TB out e out.length
 unfold m7
 generalize hq:hO out e out.length=k at*
 split
 ·rename_i hc
  have g:=List.pairwise_iff_getElem.1 h
  have iw: ∀x∈out.take k,x.lt e:=by
   intro x hx
   obtain ⟨i,hi,rfl⟩:=List.getElem_of_mem hx
   have dX:i<k:=by rw[List.length_take] at hi;omega
   have pT:i<out.length:=by omega
   rw[List.getElem_take]
   have AV:k≠0:=by omega
   have h1:=dn AV
   have h2: ¬out.getD (k-1) default=e:=by
    rcases hc with hc|hc
    ·exact absurd hc AV
    ·exact hc
   have kM:k-1<out.length:=by omega
   have e1:out.getD (k-1) default=out[k-1]:=by simp[kM]
   rw[e1] at h1 h2
   have h3:out[k-1].lt e:=by
    by_cases h4:out[k-1].lt e
    ·exact h4
    ·exact absurd (Ed.Tx h4 h1) h2
   by_cases hik:i=k-1
   ·subst hik;exact h3
   ·exact Ed.lt_trans (g i (k-1) pT kM (by omega)) h3
  have gC: ∀y∈out.drop k,e.lt y:=by
   intro y hy
   obtain ⟨i,hi,rfl⟩:=List.getElem_of_mem hy
   rw[List.length_drop] at hi
   rw[List.getElem_drop]
   have:=up (k+i) (by omega) (by omega)
   have e1:out.getD (k+i) default=out[k+i]:=by simp[show k+i<out.length by omega]
   rwa [e1] at this
  rw[mZ,List.append_assoc,List.pairwise_append]
  refine ⟨h.sublist (List.take_sublist _ _),?_,?_⟩
  ·rw[List.singleton_append,List.pairwise_cons]
   exact ⟨gC,h.sublist (List.drop_sublist _ _)⟩
  ·intro x hx y hy
   rw[List.singleton_append,List.mem_cons] at hy
   rcases hy with rfl|hy
   ·exact iw x hx
   ·exact Ed.lt_trans (iw x hx) (gC y hy)
 ·exact h
theorem Ln: ∀(l out:List Ed),mZ out→mZ (l.foldl m7 out)∧∀x,x∈l.foldl m7 out↔x∈l∨x∈out
 | [],out,h=>⟨h,by simp⟩
 | e::l,out,h=>by
  obtain ⟨h1,h2⟩:=Ln l (m7 out e) (aet h)
  refine ⟨h1,fun x=> ?_⟩
  rw[List.foldl_cons,h2,aes (AU _ _ _)]
  simp only[List.mem_cons]
  constructor
  ·rintro (h|h|h)
   ·exact .inl (.inr h)
   ·exact .inl (.inl h)
   ·exact .inr h
  ·rintro ((h|h)|h)
   ·exact .inr (.inl h)
   ·exact .inl h
   ·exact .inr (.inr h)
theorem Lo (l:List Ed):mZ (o7 l):=(Ln l [] List.Pairwise.nil).1
theorem wx {l:List Ed} {x:Ed}:x∈o7 l↔x∈l:=by
 have:=(Ln l [] List.Pairwise.nil).2 x
 simpa[o7] using this
theorem aeu (out:List Ed) (e:Ed):(m7 out e).length≤out.length+1:=by
 unfold m7
 have:=AU out e out.length
 split
 ·simp only[List.length_append,List.length_take,List.length_drop,List.length_cons,List.length_nil];omega
 ·omega
theorem TC {out:List Ed} {e:Ed} {t7:List V} {t8 t9:Int}: ∀k,k≤out.length→out.length<1152921504606846976→∃t,Loop (AR CC t7 t8 t9 (out.map Ed.enc) e.f e.l e.t) (k:Int)=some (((hO out e k:Nat):Int),t)
 | 0,_,_=>⟨false,bS (by
   simp (disch:=omega) only[AR,AQ,aA,if_neg]
   rfl)⟩
 | k+1,hk,hs=>by
  obtain ⟨t,ih⟩:=TC (out:=out) (e:=e) (t7:=t7) (t8:=t8) (t9:=t9) k (by omega) hs
  have e1:AR CC t7 t8 t9 (out.map Ed.enc) e.f e.l e.t ((k+1:Nat):Int)=bif decide (e.lt (out.getD k default)) then some (.inl (k:Int)) else some (.inr (((k+1:Nat):Int),decide (e.lt (out.getD k default)))):=by
   simp only[AR,AQ]
   rw[aA,if_pos (by omega),rV,wrap64 (by omega) (by omega),dv,aA,if_pos (by omega),aA,if_pos (by rw[List.length_map];omega),Int.toNat_natCast]
   have hg:(out.map Ed.enc)[k]? =some (out.getD k default).enc:=by
    rw[List.getElem?_map,List.getElem?_eq_getElem (by omega)];simp[show k<out.length by omega]
   rw[hg]
   simp only[Option.bind_some,Ed.di,Ed.dj,Ed.dk,QJ,V.bQ,V.jL]
  unfold hO
  by_cases h:e.lt (out.getD k default)
  ·rw[if_pos h]
   rw[decide_eq_true h,cond_true] at e1
   exact ⟨t,(dV e1).trans ih⟩
  ·rw[if_neg h]
   rw[decide_eq_false h,cond_false] at e1
   exact ⟨_,bS e1⟩
theorem AW (a b:Ed):((a.f==b.f)&&((a.l==b.l)&&((a.t==b.t)&&true)))=decide (a=b):=by
 cases a;cases b
 rw[Bool.eq_iff_iff]
 simp
theorem aev (out:List Ed) (k:Nat) (e:Ed):((([]:List V)++(((out.map Ed.enc).drop 0).take (k-0)))++([e.enc]:List V))++(((out.map Ed.enc).drop k).take ((out.map Ed.enc).length-k))=(out.take k++[e]++out.drop k).map Ed.enc:=by
 simp
 rw[List.take_of_length_le (by simp)]
theorem aew {l:List Ed} (hl:l.length≤1000000000):CC D2 [.list ag (l.map Ed.enc)]=some [.list ag ((o7 l).map Ed.enc)]:=by
 refine aeo ?_
 unfold Tw
 have:=Kl (step:=AT CC (l.map Ed.enc) ((l.map Ed.enc).length:Int)) l (fun i (out:List Ed)=>((i:Int),out.map Ed.enc)) m7 (fun out=>((l.length:Int),false,out.map Ed.enc)) (fun i out=>out.length≤i) ?_ ?_ [] (Nat.le_refl _)
 ·rw[show Loop (AT CC (l.map Ed.enc) ((l.map Ed.enc).length:Int)) (0,([]:List V))=_ from this.1]
  rfl
 ·intro i out hi ho
  refine ⟨?_,Nat.le_trans (aeu _ _) (by omega)⟩
  obtain ⟨t,h1⟩:=TC (out:=out) (e:=l[i]) (t7:=l.map Ed.enc) (t8:=((l.map Ed.enc).length:Int)) (t9:=(i:Int)) out.length (Nat.le_refl _) (by omega)
  have hk:=AU out l[i] out.length
  simp only[AT,AS,un]
  rw[aA,if_pos (by rw[List.length_map];omega),tI hi,Kr hi]
  simp only[Option.bind_some,Ed.di,Ed.dj,Ed.dk]
  rw[show ((out.map Ed.enc).length:Int)=((out.length:Nat):Int) by simp,h1]
  simp only[Option.bind_some,un,Ed.re]
  unfold m7
  generalize hO out l[i] out.length=k at*
  have TD: ∀X:Option (((Int × List V)) ⊕ (Int × Bool × List V)),X=some (.inl (IntKind.wrap .i64 ((i:Int)+1),((([]:List V)++(((out.map Ed.enc).drop 0).take (((k:Int).toNat)-0)))++([l[i].enc]:List V))++(((out.map Ed.enc).drop ((k:Int).toNat)).take ((out.map Ed.enc).length-((k:Int).toNat)))))→
    X=some (.inl (((i+1:Nat):Int),(out.take k++[l[i]]++out.drop k).map Ed.enc)):=by
   intro X hX
   rw[hX,Int.toNat_natCast,aev,dG,wrap64 (by omega) (by omega)]
  have lens:(([]:List V).length+(((out.map Ed.enc).drop 0).take (((k:Int).toNat)-0)).length)*24≤bB∧
    ((([]:List V)++(((out.map Ed.enc).drop 0).take (((k:Int).toNat)-0))).length+([l[i].enc]:List V).length)*24≤bB∧
    (((([]:List V)++(((out.map Ed.enc).drop 0).take (((k:Int).toNat)-0)))++([l[i].enc]:List V)).length+(((out.map Ed.enc).drop ((k:Int).toNat)).take ((out.map Ed.enc).length-((k:Int).toNat))).length)*24≤bB:=by
   rw[vQ]
   simp only[Int.toNat_natCast,List.length_append,List.length_take,List.length_drop,List.length_map,List.length_nil,List.length_cons]
   omega
  by_cases AV:k=0
  ·rw[if_pos (Or.inl AV),mI,if_pos (by omega)]
   refine TD _ ?_
   rw[dv,aA,if_pos (by omega),aA,if_pos (by omega),qb,if_pos lens.1,qb,if_pos lens.2.1,dv,aA,if_pos (by omega),aA,if_pos (by omega),qb,if_pos lens.2.2]
  ·rw[mI,if_neg (by omega),jr (by omega),wrap64 (x:=((k-1:Nat):Int)) (by omega) (by omega),dv,aA,if_pos (by omega),aA,if_pos (by omega),Int.toNat_natCast]
   have hg:(out.map Ed.enc)[k-1]? =some (out.getD (k-1) default).enc:=by
    rw[List.getElem?_map,List.getElem?_eq_getElem (by omega)];simp[show k-1<out.length by omega]
   rw[hg]
   simp only[Option.bind_some,Ed.di,Ed.dj,Ed.dk,AW]
   by_cases hc:out.getD (k-1) default=l[i]
   ·rw[if_neg (fun hx=>hx.elim AV (fun h=>h hc)),decide_eq_true hc]
    simp only[Bool.not_true,cond_false]
    rw[dG,wrap64 (by omega) (by omega)]
   ·rw[if_pos (Or.inr hc),decide_eq_false hc]
    simp only[Bool.not_false,cond_true]
    refine TD _ ?_
    rw[dv,aA,if_pos (by omega),aA,if_pos (by omega),qb,if_pos lens.1,qb,if_pos lens.2.1,dv,aA,if_pos (by omega),aA,if_pos (by omega),qb,if_pos lens.2.2]
 ·intro out ho
  simp only[AT,AS,un]
  rw[List.length_map,qC (by omega),cond_false]
end Go.AM
set_option maxRecDepth 100000
namespace Go.AM
open Go.Proofs
noncomputable abbrev FM:Code:=cC Tryd.prog (aw.aW 91)
noncomputable def wy (C:af) (AX uf:Nat) (k' jS:Int) (ss:List V) {β:Type} (kn:(Int × Int × (List V))→Option β) (kr:(Int × Int × Bool × (List V))→Option β):Option β:=
 bif decide ((jS:Int)<(uf:Int)) then
  bif (decide (0≤jS))&&(decide (jS<(uf:Int))) then
  (ss[AX+((jS:Int).toNat)]?).bind fun x3=>
  bif (decide (0≤(IntKind.wrap .i64 (jS-1))))&&(decide ((IntKind.wrap .i64 (jS-1))<(uf:Int))) then
   (ss[AX+((IntKind.wrap .i64 (jS-1):Int).toNat)]?).bind fun x4=>
   bif !(((((x3.cell 0).toInt):Int)==((x4.cell 0).toInt))&&(((((x3.cell 1).toInt):Int)==((x4.cell 1).toInt))&&(((((x3.cell 2).toInt):Int)==((x4.cell 2).toInt))&&true))) then
   bif (decide (0≤jS))&&(decide (jS<(uf:Int))) then
    (ss[AX+((jS:Int).toNat)]?).bind fun x5=>
    bif (decide (0≤k'))&&(decide (k'<(ss.length:Int))) then
    (ss[(k':Int).toNat]?).bind fun x6=>
    kn (IntKind.wrap .i64 (k'+1),IntKind.wrap .i64 (jS+1),ss.set ((k':Int).toNat) (.agg [.int .i64 ((x5.cell 0).toInt),.int .i64 ((x5.cell 1).toInt),.int .i64 ((x5.cell 2).toInt)]))
    else none
   else none
   else
   kn (k',IntKind.wrap .i64 (jS+1),ss)
  else none
  else none
 else
  kr (k',jS,decide ((jS:Int)<(uf:Int)),ss)
noncomputable def ug (C:af) (AX uf:Nat):(Int × Int × (List V))→Option ((Int × Int × (List V)) ⊕ (Int × Int × Bool × (List V))):=un fun k'=>un fun jS ss=>wy C AX uf k' jS ss (fun y=>some (.inl y)) (fun r=>some (.inr r))
noncomputable def wz (C:af) (ss:List V) (k':Int) {β:Type} (kn:Int→Option β) (kr:((List V) ⊕ (Int × Bool))→Option β):Option β:=
 bif decide ((k':Int)<(ss.length:Int)) then
  bif (decide (0≤k'))&&(decide (k'<(ss.length:Int))) then
  (ss[(k':Int).toNat]?).bind fun x1=>
  bif (decide (0≤(IntKind.wrap .i64 (k'-1))))&&(decide ((IntKind.wrap .i64 (k'-1))<(ss.length:Int))) then
   (ss[(IntKind.wrap .i64 (k'-1):Int).toNat]?).bind fun x2=>
   bif ((((x1.cell 0).toInt):Int)==((x2.cell 0).toInt))&&(((((x1.cell 1).toInt):Int)==((x2.cell 1).toInt))&&(((((x1.cell 2).toInt):Int)==((x2.cell 2).toInt))&&true)) then
   bif (decide (0≤k'))&&(decide (k'≤(ss.length:Int))) then
    (Loop (ug C ((k':Int).toNat) (ss.length-((k':Int).toNat))) (k',1,ss)).bind (un fun (ma:Int)=>un fun (k_8:Int)=>un fun (qp:Bool) (qD:List V)=>
     bif (decide (0≤ma))&&(decide (ma≤(qD.length:Int))) then
     bif (decide (0≤ma))&&(decide (ma≤((qD.take ((ma:Int).toNat)++(List.replicate (qD.length-((ma:Int).toNat)) (V.agg [.int .i64 0,.int .i64 0,.int .i64 0])++qD.drop (((ma:Int).toNat)+(qD.length-((ma:Int).toNat))))).length:Int))) then
      kr (.inl ((qD.take ((ma:Int).toNat)++(List.replicate (qD.length-((ma:Int).toNat)) (V.agg [.int .i64 0,.int .i64 0,.int .i64 0])++qD.drop (((ma:Int).toNat)+(qD.length-((ma:Int).toNat))))).take ((ma:Int).toNat)))
     else none
     else none)
   else none
   else
   kn (IntKind.wrap .i64 (k'+1))
  else none
  else none
 else
  kr (.inr (k',decide ((k':Int)<(ss.length:Int))))
noncomputable def uh (C:af) (ss:List V):(Int)→Option ((Int) ⊕ ((List V) ⊕ (Int × Bool))):=fun k'=>wz C ss k' (fun y=>some (.inl y)) (fun r=>some (.inr r))
noncomputable def TE (C:af):cq:=fun β n ds k=>
 bif Nat.beq n 145 then bu Jo [true,false,false,true,true] [[0,2,3,0,0,0]] (@wy C) ds k else
 bif Nat.beq n 65 then bu Jp [true,false] [[0],[0,0,2]] (@wz C) ds k else
 none
abbrev TF (C:af) (b:ch):Prop:=cj Tryd.prog aw C (TE C) 91 (cJ Tryd.prog (aw.aW 91)) (aw.sin 91).a8.length b
theorem aex (C:af):TF C (.loop (ar [1,1,0,1,0,0,1,0,0,1,0,1,0,1,0,0] FM)):=
 bz Jo [true,false,false,true,true] [[0,2,3,0,0,0]] (@wy C) (by kernel_rfl) (aS (bs:=[]) (by kernel_rfl) av) (fun ds=>by kernel_rfl) (fun i x=>by kernel_rfl) (fun i x β k=>by kernel_rfl) (fun β ds k=>by kernel_rfl)
theorem aey (C:af):TF C (.loop (ar [1,1,0,1,0,0] FM)):=
 bz Jp [true,false] [[0],[0,0,2]] (@wz C) (by kernel_rfl) (aS (bs:=[.loop (ar [1,1,0,1,0,0,1,0,0,1,0,1,0,1,0,0] FM)]) (by kernel_rfl) (bf (aex C) av)) (fun ds=>by kernel_rfl) (fun i x=>by kernel_rfl) (fun i x β k=>by kernel_rfl) (fun β ds k=>by kernel_rfl)
noncomputable def FN (C:af) (ss:List V):Option (List V):=
 bif decide (((ss.length:Int):Int)<2) then
  some [V.bool true,.list ag ss]
 else
  (Loop (uh C ss) 1).bind (cZ (fun (aez:List V)=>
   some [V.bool false,.list ag aez]) (un fun (ait:Int) (mN:Bool)=>
   some [V.bool true,.list ag ss]))
theorem Lp {ss:List V} {r:Option (List V)} (h:FN CC ss=r):CC D1 [.list ag ss]=r:=
 bn (key:=91) (L:=TE CC) (bs:=[.loop (ar [1,1,0,1,0,0] FM)]) (by kernel_rfl) (bf (aey CC) av) (Eq.trans (by kernel_rfl) h)
end Go.AM
set_option maxRecDepth 100000
set_option linter.unusedSimpArgs false
namespace Go.AM
open Go.Proofs
def m8 (prev:Ed):List Ed→List Ed
 | []=>[]
 | x::l=>if x=prev then m8 x l else x::m8 x l
def hY:List Ed→List Ed
 | []=>[]
 | x::l=>x::m8 x l
theorem Lq {l:List Ed} {j:Nat} (h:j<l.length):l.take (j+1)=l.take j++[l.getD j default]:=by
 rw[List.take_succ_eq_append_getElem h];simp[h]
theorem TG {l ss:List Ed} {j:Nat} (hl:ss.length=l.length) (h:ss.drop j=l.drop j) (hj:j<l.length):ss.getD j default=l.getD j default:=by
 have h1:=congrArg (fun x:List Ed=>x.getD 0 default) h
 simpa[hj,hl] using h1
theorem AY {l:List Ed} {i:Nat} (h:i<l.length):(l.map Ed.enc)[i]? =some (l.getD i default).enc:=by simp[h]
theorem aeA (ss:List Ed) (m:Nat) (z:V) (hm:m≤ss.length):((((ss.map Ed.enc).take m++(List.replicate ((ss.map Ed.enc).length-m) z++(ss.map Ed.enc).drop (m+((ss.map Ed.enc).length-m)))).take m)=(ss.take m).map Ed.enc):=by
 rw[List.take_append_of_le_length (by simp;omega),List.take_of_length_le (by simp;omega),List.map_take]
theorem TH: ∀(m:List Ed) (prev x:Ed),m8 prev (m++[x])=m8 prev m++(if x=(prev::m).getD m.length default then [] else [x])
 | [],prev,x=>by simp only[List.nil_append,m8,List.length_nil,List.getD_cons_zero]
 | y::m,prev,x=>by
  have ih:=TH m y x
  simp only[List.cons_append,m8,List.length_cons,List.getD_cons_succ]
  split
  ·exact ih
  ·rw[ih];rfl
theorem TI {l:List Ed} {p:Nat} (h1:1≤p) (h2:p<l.length):hY (l.take (p+1))=hY (l.take p)++(if l.getD p default=l.getD (p-1) default then [] else [l.getD p default]):=by
 match l,p,h1,h2 with
 | y::l,p+1,_,h2=>
  simp only[List.length_cons] at h2
  rw[List.take_succ_cons,List.take_succ_cons,hY,hY,Lq (by omega),TH]
  simp only[List.getD_cons_succ,List.length_take,Nat.add_sub_cancel]
  rw[show min p l.length=p by omega]
  have:(y::l.take p).getD p default=(y::l).getD p default:=by
   match p with
   | 0=>rfl
   | q+1=>simp only[List.getD_cons_succ];rw[List.getD_eq_getElem?_getD,List.getD_eq_getElem?_getD,List.getElem?_take_of_lt (by omega)]
  rw[this];rfl
theorem TJ: ∀(m:List Ed) (prev:Ed),(prev::m).Pairwise (fun x y=> ¬y.lt x)→mZ (prev::m8 prev m)∧∀x,x∈prev::m8 prev m↔x∈prev::m
 | [],prev,_=>⟨by simp[m8],by simp[m8]⟩
 | y::m,prev,h=>by
  have h1:=List.pairwise_cons.1 h
  obtain ⟨i1,i2⟩:=TJ m y h1.2
  rw[m8]
  by_cases hc:y=prev
  ·rw[if_pos hc]
   subst hc
   refine ⟨i1,fun x=> ?_⟩
   rw[i2 x];simp
  ·rw[if_neg hc]
   have aR:prev.lt y:=by
    by_cases h2:prev.lt y
    ·exact h2
    ·exact absurd (Ed.Tx h2 (h1.1 y (by simp))) fun e=>hc e.symm
   refine ⟨List.pairwise_cons.2 ⟨fun x hx=> ?_,i1⟩,fun x=> ?_⟩
   ·rcases List.mem_cons.1 hx with rfl|hx
    ·exact aR
    ·exact Ed.lt_trans aR ((List.pairwise_cons.1 i1).1 x hx)
   ·rw[List.mem_cons,i2 x,←List.mem_cons]
theorem aeB {l:List Ed} (h:l.Pairwise (fun x y=> ¬y.lt x)):mZ (hY l)∧∀x,x∈hY l↔x∈l:=by
 match l,h with
 | [],_=>exact ⟨List.Pairwise.nil,fun _=>Iff.rfl⟩
 | y::l,h=>exact TJ l y h
section
variable {l:List Ed} (hn:l.length≤1000000)
include hn
theorem aeC {k:Nat}: ∀(d k2 i:Nat) (ss:List Ed),k+k2+d=l.length→1≤k2→i+1≤k+k2→ss.length=l.length→ss.take i=hY (l.take (k+k2))→ss.drop (k+k2-1)=l.drop (k+k2-1)→
  ∃t u wA,Loop (ug CC k (l.length-k)) ((i:Int),(k2:Int),ss.map Ed.enc)=some (((hY l).length:Int),u,t,List.map Ed.enc wA)∧wA.take (hY l).length=hY l∧wA.length=l.length:=by
 intro d
 induction d with
 | zero=>
  intro k2 i ss hj rE hi hl ht hd
  have e0:l.take (k+k2)=l:=List.take_of_length_le (by omega)
  rw[e0] at ht
  have iP:i=(hY l).length:=by rw[←ht,List.length_take];omega
  refine ⟨false,(k2:Int),ss,bS ?_,by rw[←iP];exact ht,hl⟩
  simp only[ug,wy,un,List.length_map,aA]
  rw[if_neg (by omega),decide_eq_false (by omega),iP]
 | succ d ih=>
  intro k2 i ss hj rE hi hl ht hd
  have hp:k+k2<l.length:=by omega
  have mw:ss.drop (k+k2)=l.drop (k+k2):=by
   have h:=congrArg (List.drop 1) hd
   rw[List.drop_drop,List.drop_drop] at h
   rwa [show k+k2-1+1=k+k2 by omega] at h
  have g1:=TG hl mw hp
  have g0:=TG hl hd (show k+k2-1<l.length by omega)
  have x1:(ss.map Ed.enc)[k+k2]? =some (l.getD (k+k2) default).enc:=by rw[AY (by omega),g1]
  have x0:(ss.map Ed.enc)[k+(k2-1)]? =some (l.getD (k+k2-1) default).enc:=by rw[show k+(k2-1)=k+k2-1 by omega,AY (by omega),g0]
  have w1:IntKind.wrap .i64 ((k2:Int)-1)=((k2-1:Nat):Int):=by rw[wrap64 (by omega) (by omega)];omega
  have t1:((k2:Nat):Int)<((l.length-k:Nat):Int):=by omega
  have t2:(0:Int)≤((k2:Nat):Int):=by omega
  have t3:(0:Int)≤((k2-1:Nat):Int):=by omega
  have t4:((k2-1:Nat):Int)<((l.length-k:Nat):Int):=by omega
  have t5:((i:Nat):Int)<(ss.length:Int):=by omega
  have t6:(0:Int)≤((i:Nat):Int):=by omega
  have yc: ∃y,(ss.map Ed.enc)[i]? =some y:=⟨_,AY (by omega)⟩
  obtain ⟨y,hy⟩:=yc
  have cs:=TI (l:=l) (p:=k+k2) (by omega) hp
  by_cases he:l.getD (k+k2) default=l.getD (k+k2-1) default
  ·have bN:ug CC k (l.length-k) ((i:Int),(k2:Int),ss.map Ed.enc)=some (.inl ((i:Int),((k2+1:Nat):Int),ss.map Ed.enc)):=by
    simp only[ug,wy,un]
    refine bT (decide_eq_true t1) ?_
    refine bT (Bool.and_eq_true_iff.2 ⟨decide_eq_true t2,decide_eq_true t1⟩) ?_
    rw[Int.toNat_natCast]
    refine bs x1 ?_
    rw[w1]
    refine bT (Bool.and_eq_true_iff.2 ⟨decide_eq_true t3,decide_eq_true t4⟩) ?_
    rw[Int.toNat_natCast]
    refine bs x0 ?_
    simp only[Ed.di,Ed.dj,Ed.dk,AW]
    rw[decide_eq_true he]
    refine bF rfl ?_
    rw[wrap64 (by omega) (by omega)]
    rfl
   rw[dV bN]
   refine ih (k2+1) i ss (by omega) (by omega) (by omega) hl ?_ (by rw[show k+(k2+1)-1=k+k2 by omega];exact mw)
   rw[show k+(k2+1)=k+k2+1 by omega,cs,if_pos he,List.append_nil,ht]
  ·have bN:ug CC k (l.length-k) ((i:Int),(k2:Int),ss.map Ed.enc)=some (.inl (((i+1:Nat):Int),((k2+1:Nat):Int),(ss.set i (l.getD (k+k2) default)).map Ed.enc)):=by
    simp only[ug,wy,un]
    refine bT (decide_eq_true t1) ?_
    refine bT (Bool.and_eq_true_iff.2 ⟨decide_eq_true t2,decide_eq_true t1⟩) ?_
    rw[Int.toNat_natCast]
    refine bs x1 ?_
    rw[w1]
    refine bT (Bool.and_eq_true_iff.2 ⟨decide_eq_true t3,decide_eq_true t4⟩) ?_
    rw[Int.toNat_natCast]
    refine bs x0 ?_
    simp only[Ed.di,Ed.dj,Ed.dk,AW]
    rw[decide_eq_false he]
    refine bT rfl ?_
    refine bT (Bool.and_eq_true_iff.2 ⟨decide_eq_true t2,decide_eq_true t1⟩) ?_
    refine bs x1 ?_
    refine bT (by rw[List.length_map];exact Bool.and_eq_true_iff.2 ⟨decide_eq_true t6,decide_eq_true t5⟩) ?_
    rw[Int.toNat_natCast]
    refine bs hy ?_
    simp only[Ed.di,Ed.dj,Ed.dk,Ed.re]
    rw[wrap64 (by omega) (by omega),wrap64 (by omega) (by omega),List.map_set]
    rfl
   rw[dV bN]
   refine ih (k2+1) (i+1) (ss.set i (l.getD (k+k2) default)) (by omega) (by omega) (by omega) (by simpa using hl) ?_ ?_
   ·rw[Lq (by rw[List.length_set];omega),List.take_set_of_le (Nat.le_refl i),ht,show k+(k2+1)=k+k2+1 by omega,cs,if_neg he]
    simp[show i<ss.length by omega]
   ·rw[show k+(k2+1)-1=k+k2 by omega,List.drop_set_of_lt (by omega),mw]
theorem aeD: ∀(d p:Nat),p+d=l.length→1≤p→hY (l.take p)=l.take p→
  (hY l=l∧∃t,Loop (uh CC (l.map Ed.enc)) (p:Int)=some (.inr t))∨Loop (uh CC (l.map Ed.enc)) (p:Int)=some (.inl ((hY l).map Ed.enc)):=by
 intro d
 induction d with
 | zero=>
  intro p hp h1 hc
  obtain rfl:p=l.length:=by omega
  rw[List.take_length] at hc
  refine .inl ⟨hc,((l.length:Int),false),bS ?_⟩
  simp only[uh,wz,List.length_map,aA]
  rw[if_neg (by omega),decide_eq_false (by omega)]
 | succ d ih=>
  intro p hp h1 hc
  have eU:p<l.length:=by omega
  have cs:=TI (l:=l) h1 eU
  have x1:(l.map Ed.enc)[p]? =some (l.getD p default).enc:=AY eU
  have x0:(l.map Ed.enc)[p-1]? =some (l.getD (p-1) default).enc:=AY (by omega)
  have w1:IntKind.wrap .i64 ((p:Int)-1)=((p-1:Nat):Int):=by rw[wrap64 (by omega) (by omega)];omega
  have t1:((p:Nat):Int)<(l.length:Int):=by omega
  have t2:(0:Int)≤((p:Nat):Int):=by omega
  have t3:(0:Int)≤((p-1:Nat):Int):=by omega
  have t4:((p-1:Nat):Int)<(l.length:Int):=by omega
  have t5:((p:Nat):Int)≤(l.length:Int):=by omega
  by_cases he:l.getD p default=l.getD (p-1) default
  ·refine .inr (bS ?_)
   obtain ⟨t,u,wA,e1,e2,e3⟩:=aeC hn (k:=p) (l.length-(p+1)) 1 p l (by omega) (by omega) (by omega) rfl (by rw[cs,if_pos he,List.append_nil,hc]) rfl
   have hm:(hY l).length≤wA.length:=by
    have:=congrArg List.length e2
    rw[List.length_take] at this
    omega
   have m1:(0:Int)≤(((hY l).length:Nat):Int):=by omega
   have m2:(((hY l).length:Nat):Int)≤((wA.map Ed.enc).length:Int):=by rw[List.length_map];omega
   simp only[uh,wz,List.length_map]
   refine bT (decide_eq_true t1) ?_
   refine bT (Bool.and_eq_true_iff.2 ⟨decide_eq_true t2,decide_eq_true t1⟩) ?_
   rw[Int.toNat_natCast]
   refine bs x1 ?_
   rw[w1]
   refine bT (Bool.and_eq_true_iff.2 ⟨decide_eq_true t3,decide_eq_true t4⟩) ?_
   rw[Int.toNat_natCast]
   refine bs x0 ?_
   simp only[Ed.di,Ed.dj,Ed.dk,AW]
   rw[decide_eq_true he]
   refine bT rfl ?_
   refine bT (Bool.and_eq_true_iff.2 ⟨decide_eq_true t2,decide_eq_true t5⟩) ?_
   refine (congrArg (fun o=>Option.bind o _) e1).trans ?_
   simp only[Option.bind_some,un,dv,aA,Int.toNat_natCast]
   rw[if_pos m1,if_pos m2,if_pos m1,if_pos (by simp only[List.length_append,List.length_take,List.length_replicate,List.length_drop,List.length_map];omega),aeA _ _ _ hm,e2]
  ·have bN:uh CC (l.map Ed.enc) (p:Int)=some (.inl ((p+1:Nat):Int)):=by
    simp only[uh,wz,List.length_map]
    refine bT (decide_eq_true t1) ?_
    refine bT (Bool.and_eq_true_iff.2 ⟨decide_eq_true t2,decide_eq_true t1⟩) ?_
    rw[Int.toNat_natCast]
    refine bs x1 ?_
    rw[w1]
    refine bT (Bool.and_eq_true_iff.2 ⟨decide_eq_true t3,decide_eq_true t4⟩) ?_
    rw[Int.toNat_natCast]
    refine bs x0 ?_
    simp only[Ed.di,Ed.dj,Ed.dk,AW]
    rw[decide_eq_false he]
    refine bF rfl ?_
    rw[wrap64 (by omega) (by omega)]
    rfl
   rw[dV bN]
   exact ih (p+1) (by omega) (by omega) (by rw[cs,if_neg he,hc,←Lq eU])
theorem TK: ∃b,CC D1 [.list ag (l.map Ed.enc)]=some [.bool b,.list ag ((hY l).map Ed.enc)]:=by
 by_cases h2:l.length<2
 ·refine ⟨true,Lp ?_⟩
  unfold FN
  rw[List.length_map,aA,if_pos (by omega)]
  match l,h2 with
  | [],_=>rfl
  | [k],_=>rfl
 ·rcases aeD hn (l.length-1) 1 (by omega) (by omega) (by
   match l,h2 with
   | k::l,_=>rfl) with ⟨h3,t,h4⟩|h4
  ·refine ⟨true,Lp ?_⟩
   unfold FN
   rw[List.length_map,aA,if_neg (by omega)]
   refine (congrArg (fun o=>Option.bind o _) h4).trans ?_
   rw[h3];rfl
  ·refine ⟨false,Lp ?_⟩
   unfold FN
   rw[List.length_map,aA,if_neg (by omega)]
   refine (congrArg (fun o=>Option.bind o _) h4).trans ?_
   rfl
end
end Go.AM
