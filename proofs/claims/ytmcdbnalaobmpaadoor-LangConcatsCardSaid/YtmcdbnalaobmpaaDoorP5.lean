/-
  Functions of uA program, lifted to plain data.
-/
import Derived.Sort.AssemblyPlain
import Derived.Test.YtmcdbnalaobmpaaDoorP4
set_option linter.unusedVariables false
set_option linter.unusedSimpArgs false
set_option maxRecDepth 100000
set_option linter.unusedSimpArgs false
namespace Go.AM
open Go.Proofs
abbrev iV (n:Int):V:= .int .i64 n
def kq (r:List Int):V:= .list ah (r.map iV)
@[simp] theorem RL (r:List Int):(kq r).toList=r.map iV:=by simp[kq]
structure Df where
 L:Int
 st:Int
 F:List Bool
 N:List (List Int)
def jb (d:Df) (l:List V):List V:= .int .i64 d.L:: .int .i64 d.st:: .list ab (d.F.map V.bool):: .list ae (d.N.map kq)::l
namespace Df
structure Ok (d:Df):Prop where
 L1: -9223372036854775808≤d.L
 L2:d.L≤9223372036854775807
 s1: -9223372036854775808≤d.st
 s2:d.st≤9223372036854775807
 F:d.F.length≤maxLen
 N:d.N.length≤maxLen
 row: ∀r∈d.N,r.length≤maxLen∧∀q∈r,-9223372036854775808≤q∧q≤9223372036854775807
def gH (d:Df) (r:List Int) (i:Nat):Prop:=0≤r.getD i 0∧r.getD i 0<d.F.length
instance (d:Df) (r:List Int):DecidablePred (d.gH r):=fun i=>by unfold gH;infer_instance
def ku (d:Df) (q:Nat):Prop:=((d.N.getD q []).length:Int)=d.L∧∀i,i<(d.N.getD q []).length→d.gH (d.N.getD q []) i
instance (d:Df):DecidablePred d.ku:=fun i=>by unfold ku;infer_instance
def val (d:Df):Int:=
 if d.L<1∨6<d.L then 1
 else if 512<d.F.length then 3
 else if d.N.length≠d.F.length∨d.st<0∨(d.F.length:Int)≤d.st then 4
 else if∀q,q<d.N.length→d.ku q then 0 else 4
end Df
theorem EP {α:Type} {f:α→V} {l:List α} {i:Nat} {z:α} (h:i<l.length):idx (l.map f) (i:Int)=some (f (l.getD i z)):=by
 rw[ZE rfl h];simp[h]
section
variable {d:Df} (hd:d.Ok)
include hd
theorem RM {q:Nat} (h:q<d.N.length):(d.N.getD q []).length≤maxLen:=by
 rw[show d.N.getD q []=d.N[q] by simp[h]]
 exact (hd.row _ (List.getElem_mem h)).1
theorem abO {q:Nat} (hq:q<d.N.length) {t38:List V} {t39:Int} {a b:Int} {l1 l2:List V}:
  Loop (EK CC (d.F.length:Int) t38 t39 (q:Int) ((d.N.getD q []).map iV) (((d.N.getD q []).map iV).length:Int) a b l1 l2) 0=
   some (if∀i,i<(d.N.getD q []).length→d.gH (d.N.getD q []) i then .inr (((d.N.getD q []).length:Int),false) else .inl 4):=by
 have hl:=RM hd hq
 have hm:=rJ
 generalize d.N.getD q []=r at*
 refine rK (d.gH r) r.length (fun i=>(i:Int)) (.inl 4:Int ⊕ (Int × Bool)) (.inr ((r.length:Int),false)) (fun i hi=> ?_) ?_
 ·simp only[EK,zJ,List.length_map,aA]
  rw[if_pos (by omega),EP (z:=0) hi]
  simp only[Option.bind_some,V.toInt_int]
  by_cases h1:r.getD i 0<0
  ·rw[if_pos h1,if_neg (show¬d.gH r i from fun h=>by unfold Df.gH at h;omega)]
  ·rw[if_neg h1]
   by_cases h2:r.getD i 0≥(d.F.length:Int)
   ·rw[if_pos h2,if_neg (show¬d.gH r i from fun h=>by unfold Df.gH at h;omega)]
   ·rw[if_neg h2,if_pos (show d.gH r i from ⟨by omega,by omega⟩),wrap64 (by omega) (by omega)];rfl
 ·simp only[EK,zJ,List.length_map,aA]
  rw[if_neg (by omega),decide_eq_false (by omega)]
theorem abP {a b:Int} {l1 l2:List V}:
  Loop (EL CC (d.F.length:Int) (d.N.map kq) ((d.N.map kq).length:Int) d.L b l1 l2) 0=
   some (if∀q,q<d.N.length→d.ku q then .inr ((d.N.length:Int),false) else .inl 4):=by
 have hm:=rJ
 have hN:=hd.N
 refine rK d.ku d.N.length (fun i=>(i:Int)) (.inl 4:Int ⊕ (Int × Bool)) (.inr ((d.N.length:Int),false)) (fun q hq=> ?_) ?_
 ·simp only[EL,zK,List.length_map,aA]
  rw[if_pos (by omega),EP (z:=[]) hq]
  simp only[Option.bind_some,RL,List.length_map,o9]
  have:=abO hd hq (t38:=d.N.map kq) (t39:=(d.N.length:Int)) (a:=d.L) (b:=b) (l1:=l1) (l2:=l2)
  rw[List.length_map] at this
  by_cases h1:((d.N.getD q []).length:Int)=d.L
  ·rw[if_pos h1]
   refine bs this ?_
   by_cases h2: ∀i,i<(d.N.getD q []).length→d.gH (d.N.getD q []) i
   ·rw[if_pos h2,if_pos (show d.ku q from ⟨h1,h2⟩)]
    simp only[cY,un]
    rw[wrap64 (by omega) (by omega)];rfl
   ·rw[if_neg h2,if_neg (show¬d.ku q from fun h=>h2 h.2)];rfl
  ·rw[if_neg h1,if_neg (show¬d.ku q from fun h=>h1 h.1)]
 ·simp only[EL,zK,List.length_map,aA]
  rw[if_neg (by omega),decide_eq_false (by omega)]
theorem KM:CC oc (jb d [])=some [.int .i64 d.val]:=by
 refine abK ?_
 unfold RH Df.val
 simp only[List.length_map,aA,o9]
 have h:=abP hd (a:=0) (b:=d.st) (l1:=d.F.map V.bool) (l2:=d.N.map kq)
 rw[List.length_map] at h
 by_cases h1:d.L<1
 ·rw[if_pos h1,if_pos (.inl h1)]
 rw[if_neg h1]
 by_cases h2:d.L>6
 ·rw[if_pos h2,if_pos (.inr h2)]
 rw[if_neg h2,if_neg (show¬(d.L<1∨6<d.L) by omega)]
 by_cases h3:512<d.F.length
 ·rw[if_pos (show (d.F.length:Int)>512 by omega),if_pos h3]
 rw[if_neg (show¬(d.F.length:Int)>512 by omega),if_neg h3]
 by_cases h4:d.N.length=d.F.length
 ·rw[if_pos (show (d.N.length:Int)=(d.F.length:Int) by omega)]
  by_cases h5:d.st<0
  ·rw[if_pos h5,if_pos (.inr (.inl h5))]
  rw[if_neg h5]
  by_cases h6:d.st≥(d.F.length:Int)
  ·rw[if_pos h6,if_pos (.inr (.inr h6))]
  rw[if_neg h6,if_neg (show¬(d.N.length≠d.F.length∨d.st<0∨(d.F.length:Int)≤d.st) by omega)]
  refine bs h ?_
  split<;>rfl
 ·rw[if_neg (show¬(d.N.length:Int)=(d.F.length:Int) by omega),if_pos (.inl h4)]
theorem abQ {q:Nat} (hq:q<d.N.length) {t38:List V} {t39:Int} {a b:Int} {l1 l2:List V}:
  Loop (EN CC (d.F.length:Int) t38 t39 (q:Int) ((d.N.getD q []).map iV) (((d.N.getD q []).map iV).length:Int) a b l1 l2) 0=
   some (if∀i,i<(d.N.getD q []).length→d.gH (d.N.getD q []) i then .inr (((d.N.getD q []).length:Int),false) else .inl 4):=by
 have hl:=RM hd hq
 have hm:=rJ
 generalize d.N.getD q []=r at*
 refine rK (d.gH r) r.length (fun i=>(i:Int)) (.inl 4:Int ⊕ (Int × Bool)) (.inr ((r.length:Int),false)) (fun i hi=> ?_) ?_
 ·simp only[EN,zL,List.length_map,aA]
  rw[if_pos (by omega),EP (z:=0) hi]
  simp only[Option.bind_some,V.toInt_int]
  by_cases h1:r.getD i 0<0
  ·rw[if_pos h1,if_neg (show¬d.gH r i from fun h=>by unfold Df.gH at h;omega)]
  ·rw[if_neg h1]
   by_cases h2:r.getD i 0≥(d.F.length:Int)
   ·rw[if_pos h2,if_neg (show¬d.gH r i from fun h=>by unfold Df.gH at h;omega)]
   ·rw[if_neg h2,if_pos (show d.gH r i from ⟨by omega,by omega⟩),wrap64 (by omega) (by omega)];rfl
 ·simp only[EN,zL,List.length_map,aA]
  rw[if_neg (by omega),decide_eq_false (by omega)]
theorem abR {b:Int} {l1 l2:List V}:
  Loop (EO CC (d.F.length:Int) (d.N.map kq) ((d.N.map kq).length:Int) d.L b l1 l2) 0=
   some (if∀q,q<d.N.length→d.ku q then .inr ((d.N.length:Int),false) else .inl 4):=by
 have hm:=rJ
 have hN:=hd.N
 refine rK d.ku d.N.length (fun i=>(i:Int)) (.inl 4:Int ⊕ (Int × Bool)) (.inr ((d.N.length:Int),false)) (fun q hq=> ?_) ?_
 ·simp only[EO,zM,List.length_map,aA]
  rw[if_pos (by omega),EP (z:=[]) hq]
  simp only[Option.bind_some,RL,List.length_map,o9]
  have:=abQ hd hq (t38:=d.N.map kq) (t39:=(d.N.length:Int)) (a:=d.L) (b:=b) (l1:=l1) (l2:=l2)
  rw[List.length_map] at this
  by_cases h1:((d.N.getD q []).length:Int)=d.L
  ·rw[if_pos h1]
   refine bs this ?_
   by_cases h2: ∀i,i<(d.N.getD q []).length→d.gH (d.N.getD q []) i
   ·rw[if_pos h2,if_pos (show d.ku q from ⟨h1,h2⟩)]
    simp only[cY,un]
    rw[wrap64 (by omega) (by omega)];rfl
   ·rw[if_neg h2,if_neg (show¬d.ku q from fun h=>h2 h.2)];rfl
  ·rw[if_neg h1,if_neg (show¬d.ku q from fun h=>h1 h.1)]
 ·simp only[EO,zM,List.length_map,aA]
  rw[if_neg (by omega),decide_eq_false (by omega)]
theorem RN:CC yN (jb d [])=some [.int .i64 d.val]:=by
 refine abN ?_
 unfold RK Df.val
 refine bs (Qx d.L) ?_
 simp only[List.length_map,aA,o9,mQ,V.bQ,V.mP,gd]
 have h:=abR hd (b:=d.st) (l1:=d.F.map V.bool) (l2:=d.N.map kq)
 rw[List.length_map] at h
 by_cases h1:d.L<1∨6<d.L
 ·rw[if_pos h1,if_neg (show¬(1≤d.L∧d.L≤6) by omega)]
 rw[if_neg h1,if_pos (show 1≤d.L∧d.L≤6 by omega)]
 by_cases h3:512<d.F.length
 ·rw[if_pos (show (d.F.length:Int)>512 by omega),if_pos h3]
 rw[if_neg (show¬(d.F.length:Int)>512 by omega),if_neg h3]
 by_cases h0:d.F.length=0
 ·rw[if_pos (show (d.F.length:Int)=0 by omega),if_pos (by omega)]
 rw[if_neg (show¬(d.F.length:Int)=0 by omega)]
 by_cases h4:d.N.length=d.F.length
 ·rw[if_pos (show (d.N.length:Int)=(d.F.length:Int) by omega)]
  by_cases h5:d.st<0
  ·rw[if_pos h5,if_pos (.inr (.inl h5))]
  rw[if_neg h5]
  by_cases h6:d.st≥(d.F.length:Int)
  ·rw[if_pos h6,if_pos (.inr (.inr h6))]
  rw[if_neg h6,if_neg (show¬(d.N.length≠d.F.length∨d.st<0∨(d.F.length:Int)≤d.st) by omega)]
  refine bs h ?_
  split<;>rfl
 ·rw[if_neg (show¬(d.N.length:Int)=(d.F.length:Int) by omega),if_pos (.inl h4)]
end
def oq (r:List Nat):List Int:=r.map fun q:Nat=>(q:Int)
theorem RO (r:List Nat) (i:Nat):(oq r).getD i 0=((r.getD i 0:Nat):Int):=by
 unfold oq
 by_cases h:i<r.length
 ·rw[fN h,fN (by simpa using h)];simp
 ·simp[List.getElem?_eq_none (Nat.le_of_not_lt h)]
def Da.df (a:Da):Df:=⟨a.L,a.st,a.F,a.N.map oq⟩
theorem RP {d:Df} (h:d.val=0): ∃a:Da,a.Ok∧d=a.df:=by
 unfold Df.val at h
 split at h
 ·omega
 rename_i h1
 split at h
 ·omega
 rename_i h2
 split at h
 ·omega
 rename_i h3
 split at h
 case isFalse=>omega
 rename_i h4
 have hr: ∀r∈d.N,(r.length:Int)=d.L∧∀q∈r,0≤q∧q<d.F.length:=fun r hr=>by
  obtain ⟨i,hi,rfl⟩:=List.getElem_of_mem hr
  have:=h4 i hi
  unfold Df.ku at this
  rw[show d.N.getD i []=d.N[i] by simp[hi]] at this
  refine ⟨this.1,fun q hq=> ?_⟩
  obtain ⟨j,hj,rfl⟩:=List.getElem_of_mem hq
  have h5:=this.2 j hj
  unfold Df.gH at h5
  rwa [show d.N[i].getD j 0=d.N[i][j] by simp[hj]] at h5
 refine ⟨⟨d.L.toNat,d.st.toNat,d.F,d.N.map fun r=>r.map Int.toNat⟩,⟨by simp only;omega,by simp only;omega,by simp only[Da.n,List.length_map];omega,?_,by simp only[Da.n];omega,by simp only[Da.n];omega⟩,?_⟩
 ·intro r nW
  obtain ⟨r,hr3,rfl⟩:=List.mem_map.1 nW
  have:=hr r hr3
  refine ⟨by simp only[List.length_map];omega,fun q hq=> ?_⟩
  obtain ⟨q,oV,rfl⟩:=List.mem_map.1 hq
  have:=this.2 q oV
  simp only[Da.n]
  omega
 ·obtain ⟨L,st,F,N⟩:=d
  simp only[Da.df] at*
  have e1:L=(L.toNat:Int):=by omega
  have e2:st=(st.toNat:Int):=by omega
  rw[←e1,←e2]
  congr 1
  rw[List.map_map]
  calc N=N.map id:=(List.map_id N).symm
   _=_:=List.map_congr_left fun r h=>by
    have:=(hr r h).2
    simp only[Function.comp,oq,List.map_map,id]
    calc r=r.map id:=(List.map_id r).symm
     _=_:=List.map_congr_left fun q hq=>by
      have:=this q hq
      simp only[Function.comp,id];omega
theorem Da.Ok.abS {a:Da} (h:a.Ok):a.df.Ok:=by
 have h1:=h.l6
 have h2:=h.s
 have h3:=h.ew
 have h4:=h.nN
 unfold Da.n at*
 refine ⟨by simp only[Da.df];omega,by simp only[Da.df];omega,by simp only[Da.df];omega,by simp only[Da.df];omega,by simp only[Da.df];unfold maxLen;omega,by simp only[Da.df,List.length_map];unfold maxLen;omega,fun r hr=> ?_⟩
 obtain ⟨r,nW,rfl⟩:=List.mem_map.1 hr
 have:=h.row r nW
 refine ⟨by simp only[oq,List.length_map];unfold maxLen;omega,fun q hq=> ?_⟩
 obtain ⟨q,oV,rfl⟩:=List.mem_map.1 hq
 have:=this.2 q oV
 unfold Da.n at this
 omega
theorem Da.Ok.val {a:Da} (h:a.Ok):a.df.val=0:=by
 have h0:=h.l1
 have h1:=h.l6
 have h2:=h.s
 have h3:=h.ew
 have h4:=h.nN
 unfold Da.n at*
 unfold Df.val
 rw[if_neg (by simp only[Da.df];omega),if_neg (by simp only[Da.df];omega),if_neg (by simp only[Da.df,List.length_map];omega),if_pos]
 intro q hq
 simp only[Da.df,List.length_map] at hq
 have e:a.df.N.getD q []=oq (a.N.getD q []):=by simp[Da.df,hq]
 have hr:=h.row (a.N.getD q []) (by rw[show a.N.getD q []=a.N[q] by simp[hq]];exact List.getElem_mem hq)
 unfold Df.ku
 rw[e]
 refine ⟨by simp only[oq,List.length_map,Da.df];omega,fun i hi=> ?_⟩
 rw[oq,List.length_map] at hi
 have:=hr.2 ((a.N.getD q [])[i]) (List.getElem_mem hi)
 unfold Df.gH
 rw[RO,fN hi]
 simp only[Da.df]
 unfold Da.n at this
 omega
end Go.AM
set_option maxRecDepth 100000
set_option linter.unusedSimpArgs false
namespace Go.AM
open Go.Proofs
def tab {α:Type} (n:Nat) (g:Nat→α):List α:=(List.range n).map g
section
variable {α β:Type} {n i:Nat} {g h:Nat→α}
@[simp] theorem dA:(tab n g).length=n:=by simp[tab]
theorem zN (hi:i<n):(tab n g)[i]? =some (g i):=by simp[tab,hi]
theorem vY (hi:i<n) {z:α}:(tab n g).getD i z=g i:=by simp[tab,hi]
theorem KN (hi:i<(tab n g).length):(tab n g)[i]=g i:=by simp[tab]
theorem eh (e: ∀j,j<n→g j=h j):tab n g=tab n h:=List.map_congr_left fun j hj=>e j (List.mem_range.1 hj)
theorem mX {v:α}:(tab n g).set i v=tab n fun j=>if j=i then v else g j:=by
 refine List.ext_getElem (by simp) fun j h1 h2=> ?_
 rw[List.getElem_set,KN,KN]
 simp only[eq_comm]
theorem abT:tab n g++[g n]=tab (n+1) g:=by simp[tab,List.range_succ]
theorem jU:tab (n+1) g=tab n g++[g n]:=abT.symm
theorem KO:tab 0 g=[]:=rfl
theorem mY {v:α}:List.replicate n v=tab n fun _=>v:=by simp[tab,List.map_const']
theorem abU {f:α→β}:(tab n g).map f=tab n fun i=>f (g i):=by simp[tab,Function.comp]
theorem abV (l:List α) (z:α):l=tab l.length fun i=>l.getD i z:=by
 refine List.ext_getElem (by simp) fun j h1 h2=> ?_
 rw[KN];simp[h1]
theorem zO (l:List α) (z:α) {f:α→β}:l.map f=tab l.length fun i=>f (l.getD i z):=by
 rw[←abU,←abV]
theorem zP {a:α}:a∈tab n g↔∃i,i<n∧g i=a:=by simp[tab]
end
section
variable {γ:Type} {n i:Nat} {g:Nat→V}
theorem mZ (hi:i<n):idx (tab n g) (i:Int)=some (g i):=by rw[Iu rfl,zN hi]
theorem ey (hi:i<n) {K:V→Option γ}:(bif (decide (0≤(i:Int)))&&(decide ((i:Int)<((tab n g).length:Int))) then ((tab n g)[((i:Int)).toNat]?).bind K else none)=K (g i):=by
 rw[Int.toNat_natCast,zN hi,Bool.and_eq_true_iff.2 ⟨decide_eq_true (by omega),decide_eq_true (by rw[dA];omega)⟩]
 rfl
theorem lY {es:List V} {v:V} (hi:es[i]? =some v) {K:V→Option γ}:(bif (decide (0≤(i:Int)))&&(decide ((i:Int)<(es.length:Int))) then (es[((i:Int)).toNat]?).bind K else none)=K v:=by
 have hl:i<es.length:=by
  rcases Nat.lt_or_ge i es.length with h|h
  ·exact h
  ·rw[List.getElem?_eq_none h] at hi;cases hi
 rw[Int.toNat_natCast,hi,Bool.and_eq_true_iff.2 ⟨decide_eq_true (by omega),decide_eq_true (by omega)⟩]
 rfl
theorem KP {m:Nat} (hi:i<m):((decide (0≤(i:Int)))&&(decide ((i:Int)<(m:Int))))=true:=Bool.and_eq_true_iff.2 ⟨decide_eq_true (by omega),decide_eq_true (by omega)⟩
end
theorem cap {a b m:Nat} (h:a+b≤10000000) (hm:m≤1000):Nat.ble ((a+b)*m) bA=true:=by
 rw[Nat.ble_eq,tE]
 have:=Nat.mul_le_mul h hm
 omega
theorem lZ {n m:Nat} (h:n≤10000000) (hm:m≤1000):((decide (0≤(n:Int)))&&((decide ((n:Int)≤(n:Int)))&&(Nat.ble (((n:Int).toNat)*m) bA)))=true:=by
 have h2:=Nat.mul_le_mul h hm
 rw[Int.toNat_natCast]
 refine Bool.and_eq_true_iff.2 ⟨decide_eq_true (by omega),Bool.and_eq_true_iff.2 ⟨decide_eq_true (by omega),?_⟩⟩
 rw[Nat.ble_eq,tE]
 omega
theorem cz {i:Nat} (h:i≤1000000000):IntKind.wrap .i64 ((i:Int)+1)=((i+1:Nat):Int):=by rw[wrap64 (by omega) (by omega)];omega
theorem dm {i n:Nat} (h:i<n):decide ((i:Int)<(n:Int))=true:=decide_eq_true (by omega)
theorem bp {i n:Nat} (h:n≤i):decide ((i:Int)<(n:Int))=false:=decide_eq_false (by omega)
section
variable {X R:Type} {step:X→Option (X ⊕ R)}
theorem ej (n:Nat) (s:Nat→X) (r:R) (h: ∀i,i<n→step (s i)=some (.inl (s (i+1)))) (he:step (s n)=some (.inr r)):Loop step (s 0)=some r:=yJ s n h he
theorem zQ (P:Nat→X→Prop) (Q:R→Prop): ∀(n k:Nat) (x:X),(∀i,k≤i→i<k+n→∀x,P i x→∃y,step x=some (.inl y)∧P (i+1) y)→(∀x,P (k+n) x→∃r,step x=some (.inr r)∧Q r)→P k x→∃r,Loop step x=some r∧Q r
 | 0,k,x,_,he,hx=>by
  obtain ⟨r,h1,h2⟩:=he x hx
  exact ⟨r,bS h1,h2⟩
 | n+1,k,x,h,he,hx=>by
  obtain ⟨y,h1,h2⟩:=h k (Nat.le_refl _) (by omega) x hx
  obtain ⟨r,h3,h4⟩:=zQ P Q n (k+1) y (fun i hi hn=>h i (by omega) (by omega)) (by rw[show k+1+n=k+(n+1) by omega];exact he) h2
  exact ⟨r,(dU h1).trans h3,h4⟩
end
end Go.AM
set_option maxRecDepth 100000
namespace Go.AM
open Go.Proofs
noncomputable abbrev RQ:Code:=cx Tryd.prog (aw.aU 57)
noncomputable def zR (C:ag) (w:List UInt8) (bR t18 t19:Int) {β:Type} (kn:Int→Option β) (kr:((Bool) ⊕ (Int × Bool))→Option β):Option β:=
 bif decide ((t19:Int)<t18) then
  (bif decide (0≤t19) then (w[(t19:Int).toNat]?).map fun b=>V.int .u8 b.toNat else none).bind fun x1=>
  bif decide ((x1.toInt:Int)<97) then
  kr (.inl false)
  else
  (bif decide (0≤t19) then (w[(t19:Int).toNat]?).map fun b=>V.int .u8 b.toNat else none).bind fun x2=>
  bif decide (((IntKind.wrap .i64 (IntKind.wrap .u8 (x2.toInt-97))):Int)≥bR) then
   kr (.inl false)
  else
   kn (IntKind.wrap .i64 (t19+1))
 else
  kr (.inr (t19,decide ((t19:Int)<t18)))
noncomputable def ER (C:ag) (w:List UInt8) (bR t18:Int):(Int)→Option ((Int) ⊕ ((Bool) ⊕ (Int × Bool))):=fun t19=>zR C w bR t18 t19 (fun y=>some (.inl y)) (fun r=>some (.inr r))
noncomputable def RR (C:ag):ch:=fun β n ds k=>
 bif Nat.beq n 65 then bq I9 [false,false,false,true] [[0],[1,2,3,0,0]] (@zR C) ds k else
 none
abbrev abW (C:ag) (b:cd):Prop:=cf Tryd.prog aw C (RR C) 57 (cG Tryd.prog (aw.aU 57)) (aw.sin 57).aZ.length b
theorem abX (C:ag):abW C (.loop (ar [1,1,0,1,0,0] RQ)):=
 bu I9 [false,false,false,true] [[0],[1,2,3,0,0]] (@zR C) (by kernel_rfl) (aR (bs:=[]) (by kernel_rfl) av) (fun ds=>by kernel_rfl) (fun i x=>by kernel_rfl) (fun i x β k=>by kernel_rfl) (fun β ds k=>by kernel_rfl)
noncomputable def RS (C:ag) (w:List UInt8) (bR:Int):Option (List V):=
 bif decide ((bR:Int)<1) then
  some [.bool false]
 else
  bif decide ((bR:Int)>6) then
  some [.bool false]
  else
  bif decide (((w.length:Int):Int)>2048) then
   some [.bool false]
  else
   (Loop (ER C w bR (w.length:Int)) 0).bind (cY (fun (jR:Bool)=>
    some [.bool jR]) (un fun (js:Int) (la:Bool)=>
    some [.bool true]))
theorem abY {w:List UInt8} {bR:Int} {r:Option (List V)} (h:RS CC w bR=r):CC DR [.str w,.int .i64 bR]=r:=
 bj (key:=57) (L:=RR CC) (bs:=[.loop (ar [1,1,0,1,0,0] RQ)]) (by kernel_rfl) (bd (abX CC) av) (Eq.trans (by kernel_rfl) h)
end Go.AM
set_option maxRecDepth 100000
set_option linter.unusedSimpArgs false
namespace Go.AM
open Go.Proofs
def g9 (w:List UInt8) (i:Nat):Int:=((w.getD i 0).toNat:Int)-97
def ot (w:List UInt8) (L:Int):Prop:=1≤L∧L≤6∧w.length≤2048∧∀i,i<w.length→0≤g9 w i∧g9 w i<L
instance (w:List UInt8) (L:Int):Decidable (ot w L):=by unfold ot;infer_instance
theorem RT {w:List UInt8} {i:Nat} (h:i<w.length):(bif decide (0≤(i:Int)) then (w[((i:Nat):Int).toNat]?).map (fun b=>V.int .u8 b.toNat) else none)=some (.int .u8 ((w.getD i 0).toNat:Int)):=by
 rw[aA,if_pos (by omega),Int.toNat_natCast]
 simp[h]
theorem RU (b:UInt8):b.toNat<256:=b.toNat_lt
theorem RV {w:List UInt8} {i:Nat} (h:0≤g9 w i):IntKind.wrap .u8 (((w.getD i 0).toNat:Int)-97)=g9 w i:=by
 have:=RU (w.getD i 0)
 unfold g9 at*
 exact It h (by omega)
theorem abZ {w:List UInt8} {i:Nat}:g9 w i<256:=by
 have:=RU (w.getD i 0)
 unfold g9
 omega
theorem ab0 {w:List UInt8} {L:Int} (hl:w.length≤2048):Loop (ER CC w L (w.length:Int)) 0=some (if∀i,i<w.length→0≤g9 w i∧g9 w i<L then .inr ((w.length:Int),false) else .inl false):=by
 refine rK (good:=fun i=>0≤g9 w i∧g9 w i<L) w.length (fun i=>(i:Int)) (Sum.inl false:Bool ⊕ (Int × Bool)) (Sum.inr ((w.length:Int),false)) (fun i hi=> ?_) ?_
 ·simp only[ER,zR,un]
  rw[aA,if_pos (by omega),RT hi]
  simp only[Option.bind_some,V.toInt_int,aA]
  by_cases h1:0≤g9 w i
  ·have kK:=h1
   unfold g9 at kK
   rw[if_neg (by omega),RV h1,wrap64 (by omega) (by have:= @abZ w i;omega)]
   by_cases h2:g9 w i<L
   ·rw[if_neg (by omega),if_pos ⟨h1,h2⟩,wrap64 (by omega) (by omega)]
    simp
   ·rw[if_pos (by omega),if_neg (fun h=>h2 h.2)]
  ·have kK:=h1
   unfold g9 at kK
   rw[if_pos (by omega),if_neg (fun h=>h1 h.1)]
 ·simp only[ER,zR,un]
  rw[aA,if_neg (by omega)]
  simp
theorem ab1 (w:List UInt8) (L:Int):CC DR [.str w,.int .i64 L]=some [.bool (decide (ot w L))]:=by
 refine abY ?_
 unfold RS
 simp only[aA]
 by_cases h1:L<1
 ·rw[if_pos h1,decide_eq_false (fun h=>by have:=h.1;omega)]
 rw[if_neg h1]
 by_cases h2:L>6
 ·rw[if_pos h2,decide_eq_false (fun h=>by have:=h.2.1;omega)]
 rw[if_neg h2]
 by_cases h3:(w.length:Int)>2048
 ·rw[if_pos h3,decide_eq_false (fun h=>by have:=h.2.2.1;omega)]
 rw[if_neg h3,ab0 (by omega)]
 by_cases h4: ∀i,i<w.length→0≤g9 w i∧g9 w i<L
 ·rw[if_pos h4,decide_eq_true (show ot w L from ⟨by omega,by omega,by omega,h4⟩)]
  simp[cY,un]
 ·rw[if_neg h4,decide_eq_false (fun h=>h4 h.2.2.2)]
  simp[cY,un]
end Go.AM
set_option maxRecDepth 100000
namespace Go.AM
open Go.Proofs
noncomputable abbrev RW:Code:=cx Tryd.prog (aw.aU 58)
noncomputable def zS (C:ag) (w:List UInt8) (t30 aT ba:Int) (bm bh:List V) (state t31:Int) {β:Type} (kn:(Int × Int)→Option β) (kr:(Int × Int × Bool)→Option β):Option β:=
 bif decide ((t31:Int)<t30) then
  (idx bh state).bind fun x3=>
  (bif decide (0≤t31) then (w[(t31:Int).toNat]?).map fun b=>V.int .u8 b.toNat else none).bind fun x4=>
  (idx x3.toList (IntKind.wrap .u8 (x4.toInt-97))).bind fun x5=>
  kn (x5.toInt,IntKind.wrap .i64 (t31+1))
 else
  kr (state,t31,decide ((t31:Int)<t30))
noncomputable def ES (C:ag) (w:List UInt8) (t30 aT ba:Int) (bm bh:List V):(Int × Int)→Option ((Int × Int) ⊕ (Int × Int × Bool)):=un fun state t31=>zS C w t30 aT ba bm bh state t31 (fun y=>some (.inl y)) (fun r=>some (.inr r))
noncomputable def RX (C:ag):ch:=fun β n ds k=>
 bif Nat.beq n 65 then bq Ja [true,false,false,true,false,false,false,false] [[0,2,3,0,0,5,6,7,8]] (@zS C) ds k else
 none
abbrev ab2 (C:ag) (b:cd):Prop:=cf Tryd.prog aw C (RX C) 58 (cG Tryd.prog (aw.aU 58)) (aw.sin 58).aZ.length b
theorem ab3 (C:ag):ab2 C (.loop (ar [1,1,0,1,0,0] RW)):=
 bu Ja [true,false,false,true,false,false,false,false] [[0,2,3,0,0,5,6,7,8]] (@zS C) (by kernel_rfl) (aR (bs:=[]) (by kernel_rfl) av) (fun ds=>by kernel_rfl) (fun i x=>by kernel_rfl) (fun i x β k=>by kernel_rfl) (fun β ds k=>by kernel_rfl)
noncomputable def RY (C:ag) (aX aY:Int) (aG bc:List V) (state:Int) (w:List UInt8):Option (List V):=
 (C oc [.int .i64 aX,.int .i64 aY,.list ab aG,.list ae bc]).bind fun r1=>
 bif (((V.nth r1 0).toInt):Int) != 0 then
  some [.int .i64 (-1)]
 else
  bif decide ((state:Int)<0) then
  some [.int .i64 (-1)]
  else
  bif decide ((state:Int)≥(aG.length:Int)) then
   some [.int .i64 (-1)]
  else
   (C DR [.str w,.int .i64 aX]).bind fun r2=>
   bif !((V.nth r2 0).toBool) then
   some [.int .i64 (-1)]
   else
   (Loop (ES C w (w.length:Int) aX aY aG bc) (state,0)).bind (un fun (ab4:Int)=>un fun (kW:Int) (mU:Bool)=>
    some [.int .i64 ab4])
theorem ab5 {aX aY:Int} {aG bc:List V} {state:Int} {w:List UInt8} {r:Option (List V)} (h:RY CC aX aY aG bc state w=r):CC DS [.int .i64 aX,.int .i64 aY,.list ab aG,.list ae bc,.int .i64 state,.str w]=r:=
 bj (key:=58) (L:=RX CC) (bs:=[.loop (ar [1,1,0,1,0,0] RW)]) (by kernel_rfl) (bd (ab3 CC) av) (Eq.trans (by kernel_rfl) h)
end Go.AM
set_option maxRecDepth 100000
namespace Go.AM
open Go.Proofs
noncomputable def RZ (C:ag) (aX aY:Int) (aG bc:List V) (w:List UInt8):Option (List V):=
 (C DS [.int .i64 aX,.int .i64 aY,.list ab aG,.list ae bc,.int .i64 aY,.str w]).bind fun r1=>
 bif decide ((((V.nth r1 0).toInt):Int)≥0) then
  (idx aG ((V.nth r1 0).toInt)).bind fun x2=>
  some [.bool x2.toBool]
 else
  some [.bool false]
theorem ab6 {aX aY:Int} {aG bc:List V} {w:List UInt8} {r:Option (List V)} (h:RZ CC aX aY aG bc w=r):CC yQ [.int .i64 aX,.int .i64 aY,.list ab aG,.list ae bc,.str w]=r:=
 bj (key:=44) (L:=cT) (bs:=[]) (by kernel_rfl) av (Eq.trans (by kernel_rfl) h)
end Go.AM
set_option maxRecDepth 100000
set_option linter.unusedSimpArgs false
namespace Go.AM
open Go.Proofs
def fo (L:Nat) (f:Nat→Nat):V:= .list ah (tab L fun x=>iV (f x))
def Da.cC (a:Da):List V:=tab a.n fun q=>V.bool (a.fin q)
def Da.cD (a:Da):List V:=tab a.n fun q=>fo a.L (a.nx q)
@[simp] theorem Da.m7 {a:Da}:a.cC.length=a.n:=by simp[Da.cC]
@[simp] theorem Da.R0 {a:Da}:a.cD.length=a.n:=by simp[Da.cD]
@[simp] theorem m8 {L:Nat} {f:Nat→Nat}:(fo L f).toList=tab L fun x=>iV (f x):=by simp[fo]
def iF (a:Da) (l:List V):List V:= .int .i64 a.L:: .int .i64 a.st:: .list ab a.cC:: .list ae a.cD::l
def dv (a:Da):List V:=iF a []
theorem Da.Ok.leaves {a:Da} (h:a.Ok) (l:List V):jb a.df l=iF a l:=by
 unfold jb iF
 have e1:a.df.F.map V.bool=a.cC:=zO _ false
 have e2:a.df.N.map kq=a.cD:=by
  unfold Da.cD
  rw[zO _ [],show a.df.N.length=a.n by simp[Da.df,h.nN]]
  refine eh fun q hq=> ?_
  have bY:q<a.N.length:=by rw[h.nN];exact hq
  unfold kq fo
  rw[show a.df.N.getD q []=oq (a.N.getD q []) by simp[Da.df,bY],zO _ 0]
  have hl:(oq (a.N.getD q [])).length=a.L:=by simp only[oq,List.length_map];exact Da.KH h hq
  rw[hl]
  exact congrArg _ (eh fun x _=>by rw[RO];rfl)
 rw[e1,e2];rfl
theorem Da.rM {a:Da} {q:Nat} (hq:q<a.n):idx a.cC (q:Int)=some (.bool (a.fin q)):=mZ hq
theorem Da.ma {a:Da} {q:Nat} (hq:q<a.n):idx a.cD (q:Int)=some (fo a.L (a.nx q)):=mZ hq
theorem ou {L x:Nat} {f:Nat→Nat} (hx:x<L):idx (tab L fun x=>iV (f x)) (x:Int)=some (iV (f x)):=mZ hx
theorem tO {a:Da} (h:a.Ok):CC oc (dv a)=some [.int .i64 0]:=by
 have:=KM h.abS
 rwa [h.val,h.leaves] at this
def lets (w:List UInt8):List Nat:=w.map fun b=>b.toNat-97
theorem vZ {w:List UInt8}:(lets w).length=w.length:=by simp[lets]
theorem R3 {w:List UInt8} {i:Nat} (hi:i<w.length) (h:0≤g9 w i):(((lets w).getD i 0:Nat):Int)=g9 w i:=by
 unfold lets g9 at*
 rw[fN (by simpa using hi),fN hi] at*
 simp only[List.getElem_map]
 omega
theorem ot.WL {w:List UInt8} {L:Nat} (h:ot w (L:Int)):WL L (lets w):=fun x hx=>by
 obtain ⟨i,hi,rfl⟩:=List.getElem_of_mem hx
 rw[vZ] at hi
 obtain ⟨h1,h2⟩:=h.2.2.2 i hi
 have:=R3 hi h1
 rw[fN (by rw[vZ];exact hi)] at this
 omega
theorem ab7 {a:Da} {w:List UInt8} {q i:Nat} (hi:i<w.length):a.run q ((lets w).take (i+1))=a.nx (a.run q ((lets w).take i)) ((lets w).getD i 0):=by
 rw[List.take_succ_eq_append_getElem (by rw[vZ];exact hi),Da.abA,fN (by rw[vZ];exact hi)];rfl
theorem ab8 {w:List UInt8} {L i:Nat} (hw:ot w (L:Int)) (hi:i<w.length):(lets w).getD i 0<L:=hw.WL _ (by rw[fN (by rw[vZ];exact hi)];exact List.getElem_mem _)
section
variable {a:Da} (h:a.Ok) {w:List UInt8} (hw:ot w (a.L:Int)) {q:Nat} (hq:q<a.n)
include h hw hq
theorem ab9 {i:Nat}:a.run q ((lets w).take i)<a.n:=h.KE _ hq fun x hx=>hw.WL x (List.mem_of_mem_take hx)
theorem aca {x1 x2:Int} {l2:List V}:Loop (ES CC w (w.length:Int) x1 x2 l2 a.cD) ((q:Int),0)=some ((a.run q (lets w):Int),(w.length:Int),false):=by
 have hl:w.length≤2048:=hw.2.2.1
 have e:lets w=(lets w).take w.length:=by rw[List.take_of_length_le (by rw[vZ];omega)]
 refine (ej w.length (fun i=>((a.run q ((lets w).take i):Int),(i:Int))) ((a.run q ((lets w).take w.length):Int),(w.length:Int),false) (fun i hi=> ?_) ?_).trans (by rw[←e])
 ·simp only[ES,zS,un]
  refine bT (dm hi) ?_
  refine bs (Da.ma (ab9 h hw hq)) ?_
  refine bs (RT hi) ?_
  have h1:=(hw.2.2.2 i hi).1
  simp only[V.toInt_int,RV h1,m8]
  rw[←R3 hi h1]
  refine bs (ou (ab8 hw hi)) ?_
  rw[cz (by omega),ab7 hi];rfl
 ·simp only[ES,zS,un]
  exact bF (bp (Nat.le_refl _)) (by rw[bp (Nat.le_refl _)])
end
theorem acb {a:Da} (h:a.Ok) {q:Nat} (hq:q<a.n) (w:List UInt8):CC DS (iF a [.int .i64 (q:Int),.str w])=some [.int .i64 (if ot w (a.L:Int) then (a.run q (lets w):Int) else-1)]:=by
 refine ab5 ?_
 unfold RY
 refine bs (tO h) ?_
 refine bF rfl ?_
 refine bF (decide_eq_false (by omega)) ?_
 refine bF (decide_eq_false (by rw[Da.m7];omega)) ?_
 refine bs (ab1 w a.L) ?_
 by_cases hw:ot w (a.L:Int)
 ·rw[if_pos hw]
  refine bF (by simp[hw]) ?_
  exact bs (aca h hw hq) rfl
 ·rw[if_neg hw]
  exact bT (by simp[hw]) rfl
theorem R4 {a:Da} (h:a.Ok) {w:List UInt8} (hw:ot w (a.L:Int)):CC yQ (iF a [.str w])=some [.bool (a.acc a.st (lets w))]:=by
 refine ab6 ?_
 unfold RZ
 refine bs (acb h h.s w) ?_
 rw[if_pos hw]
 refine bT (decide_eq_true (by simp only[V.bQ,V.toInt_int];omega)) ?_
 refine bs (Da.rM (h.KE _ h.s hw.WL)) ?_
 rfl
end Go.AM
set_option maxRecDepth 100000
set_option linter.unusedSimpArgs false
namespace Go.AM
open Go.Proofs
section
variable {α:Type} (ke:α→V)
def fC (i:Nat):List α→List V
 | []=>[]
 | a::S=> .bf [ke a,iV (i:Int)]::fC (i+1) S
where iV (n:Int):V:= .int .i64 n
end
theorem v5 {α:Type} {ke:α→V}: ∀(S:List α) (i:Nat),(fC ke i S).length=S.length
 | [],_=>rfl
 | a::S,i=>by simp[fC,v5 S (i+1)]
section
variable {α:Type} [DecidableEq α] {ke:α→V}
variable (hk: ∀a b,iK (ke a) (ke b)=decide (a=b))
include hk
theorem tP (x:α): ∀(S:List α) (i:Nat),fu (ke x) (fC ke i S)=decide (x∈S)
 | [],_=>by simp[fC,fu]
 | a::S,i=>by
  have c: ∀(p q:V),(V.bf [p,q]).comp 0=p:=fun p q=>rfl
  rw[fC,fu,c,hk,tP x S (i+1)]
  rw[Bool.eq_iff_iff]
  simp
theorem v7 (x:α) (z:V): ∀(S:List α) (i:Nat),x∈S→gL (ke x) (fC ke i S) z= .int .i64 ((i+S.idxOf x:Nat):Int)
 | [],_,h=>by cases h
 | a::S,i,h=>by
  have c: ∀(p q:V),(V.bf [p,q]).comp 0=p:=fun p q=>rfl
  have c1: ∀(p q:V),(V.bf [p,q]).comp 1=q:=fun p q=>rfl
  rw[fC,gL,c,c1,hk]
  by_cases e:x=a
  ·subst e
   rw[decide_eq_true rfl]
   simp[fC.iV]
  ·rw[decide_eq_false e,cond_false,v7 x z S (i+1) ((List.mem_cons.1 h).resolve_left e),show (a::S).idxOf x=S.idxOf x+1 from by rw[List.idxOf_cons,show (a==x)=false from beq_eq_false_iff_ne.2 fun h=>e h.symm];rfl]
   congr 2
   omega
theorem v8 (x:α): ∀(S:List α) (i:Nat),x∉S→eS (ke x) (.int .i64 ((i+S.length:Nat):Int)) (fC ke i S)=fC ke i (S++[x])
 | [],i,_=>by simp[fC,eS,fC.iV]
 | a::S,i,h=>by
  have c: ∀(p q:V),(V.bf [p,q]).comp 0=p:=fun p q=>rfl
  have e:x≠a:=fun e=>h (by simp[e])
  rw[fC,eS,c,hk,decide_eq_false e,cond_false,List.cons_append,fC]
  congr 1
  have:=v8 x S (i+1) fun hx=>h (by simp[hx])
  rw[←this]
  simp only[List.length_cons]
  congr 3
  omega
end
theorem acd (a b:Nat):iK (.int .i64 (a:Int)) (.int .i64 (b:Int))=decide (a=b):=by
 simp only[iK,V.cells,oK,qW,Bool.and_true]
 rw[Bool.eq_iff_iff]
 simp
 omega
theorem ace (a b:Nat):iK (.int .u64 (a:Int)) (.int .u64 (b:Int))=decide (a=b):=by
 simp only[iK,V.cells,oK,qW,Bool.and_true]
 rw[Bool.eq_iff_iff]
 simp
 omega
theorem ET {n:Nat} (h:n≤1000000000000):cR .i64 (n:Int)=true:=by
 have e1:IntKind.min .i64= -9223372036854775808:=by decide
 have e2:IntKind.max .i64=9223372036854775807:=by decide
 unfold cR
 rw[e1,e2]
 exact Bool.and_eq_true_iff.2 ⟨decide_eq_true (by omega),decide_eq_true (by omega)⟩
theorem v9 {n:Nat} (h:n<2^64):cR .u64 (n:Int)=true:=by
 have e1:IntKind.min .u64=0:=by decide
 have e2:IntKind.max .u64=18446744073709551615:=by decide
 unfold cR
 rw[e1,e2]
 exact Bool.and_eq_true_iff.2 ⟨decide_eq_true (by omega),decide_eq_true (by omega)⟩
theorem KQ {α:Type} [DecidableEq α] {S:List α} {a:α}:(cN S a).idxOf a=if a∈S then S.idxOf a else S.length:=by
 unfold cN
 split
 ·rfl
 ·rename_i h
  rw[List.idxOf_append,if_neg h]
  simp
end Go.AM
set_option maxRecDepth 100000
namespace Go.AM
open Go.Proofs
noncomputable def R5 (C:ag) (q x bO bP:Int) (mb lg:List V):Option (List V):=
 (idx lg q).bind fun x1=>
 (idx x1.toList x).bind fun x2=>
 some [.int .i64 x2.toInt,.int .i64 bO,.int .i64 bP,.list ab mb,.list ae lg]
theorem acf {q x bO bP:Int} {mb lg:List V} {r:Option (List V)} (h:R5 CC q x bO bP mb lg=r):CC qm [.int .i64 q,.int .i64 x,.int .i64 bO,.int .i64 bP,.list ab mb,.list ae lg]=r:=
 bj (key:=123) (L:=cT) (bs:=[]) (by kernel_rfl) av (Eq.trans (by kernel_rfl) h)
end Go.AM
set_option maxRecDepth 100000
namespace Go.AM
open Go.Proofs
noncomputable def R6 (C:ag) (q qu qv:Int) (pg ph:List V):Option (List V):=
 (idx pg q).bind fun x1=>
 some [.bool x1.toBool,.int .i64 qu,.int .i64 qv,.list ab pg,.list ae ph]
theorem acg {q qu qv:Int} {pg ph:List V} {r:Option (List V)} (h:R6 CC q qu qv pg ph=r):CC qn [.int .i64 q,.int .i64 qu,.int .i64 qv,.list ab pg,.list ae ph]=r:=
 bj (key:=124) (L:=cT) (bs:=[]) (by kernel_rfl) av (Eq.trans (by kernel_rfl) h)
end Go.AM
set_option maxRecDepth 100000
namespace Go.AM
open Go.Proofs
noncomputable def R7 (C:ag) (x:Int) (bw:List V):Option (List V):=
 bif cR .i64 x&&true then
  bif cR .i64 x&&true then
  bif Nat.ble ((bw.length+([.int .i64 x]:List V).length)*8) bA then
   some [.int .i64 (bw.length:Int),.list ah (bw++([.int .i64 x]:List V)),.list fc (eS (.int .i64 x) (.int .i64 (bw.length:Int)) ([]:List V))]
  else none
  else none
 else none
theorem ach {x:Int} {bw:List V} {r:Option (List V)} (h:R7 CC x bw=r):CC za [.int .i64 x,.list ah bw]=r:=
 bj (key:=140) (L:=cT) (bs:=[]) (by kernel_rfl) av (Eq.trans (by kernel_rfl) h)
end Go.AM
set_option maxRecDepth 100000
namespace Go.AM
open Go.Proofs
noncomputable def R8 (C:ag) (x:Int) (bw dz:List V):Option (List V):=
 bif cR .i64 x&&true then
  bif !(fu (.int .i64 x) dz) then
  bif cR .i64 x&&true then
   bif Nat.ble ((bw.length+([.int .i64 x]:List V).length)*8) bA then
   some [.int .i64 (bw.length:Int),.list fc (eS (.int .i64 x) (.int .i64 (bw.length:Int)) dz),.list ah (bw++([.int .i64 x]:List V))]
   else none
  else none
  else
  some [.int .i64 ((gL (.int .i64 x) dz (.int .i64 0)).toInt),.list fc dz,.list ah bw]
 else none
theorem aci {x:Int} {bw dz:List V} {r:Option (List V)} (h:R8 CC x bw dz=r):CC IK [.int .i64 x,.list ah bw,.list fc dz]=r:=
 bj (key:=167) (L:=cT) (bs:=[]) (by kernel_rfl) av (Eq.trans (by kernel_rfl) h)
end Go.AM
set_option maxRecDepth 100000
namespace Go.AM
open Go.Proofs
noncomputable abbrev EU:Code:=cx Tryd.prog (aw.aU 122)
noncomputable def zT (C:ag) (bR i state t36 mc me aT ba:Int) (bZ bB cw dR:List V) (t37 lh lj:Int) (lk ll rows bx bC:List V) {β:Type} (kn:(Int × Int × Int × (List V) × (List V) × (List V) × (List V) × (List V))→Option β) (kr:(Int × Bool × Int × Int × (List V) × (List V) × (List V) × (List V) × (List V))→Option β):Option β:=
 bif decide ((t37:Int)<t36) then
  (C qm [.int .i64 state,.int .i64 t37,.int .i64 lh,.int .i64 lj,.list ab lk,.list ae ll]).bind fun r3=>
  (C IK [.int .i64 ((V.nth r3 0).toInt),.list ah bx,.list fc bC]).bind fun r4=>
  bif (decide (0≤t37))&&(decide (t37<(rows.length:Int))) then
  (rows[(t37:Int).toNat]?).bind fun x5=>
  kn (IntKind.wrap .i64 (t37+1),(V.nth (r3.drop 1) 0).toInt,(V.nth ((r3.drop 1).drop 1) 0).toInt,(V.nth (((r3.drop 1).drop 1).drop 1) 0).toList,(V.nth ((((r3.drop 1).drop 1).drop 1).drop 1) 0).toList,rows.set ((t37:Int).toNat) (.int .i64 ((V.nth r4 0).toInt)),(V.nth ((r4.drop 1).drop 1) 0).toList,(V.nth (r4.drop 1) 0).toList)
  else none
 else
  kr (t37,decide ((t37:Int)<t36),lh,lj,lk,ll,rows,bx,bC)
noncomputable def EV (C:ag) (bR i state t36 mc me aT ba:Int) (bZ bB cw dR:List V):(Int × Int × Int × (List V) × (List V) × (List V) × (List V) × (List V))→Option ((Int × Int × Int × (List V) × (List V) × (List V) × (List V) × (List V)) ⊕ (Int × Bool × Int × Int × (List V) × (List V) × (List V) × (List V) × (List V))):=un fun t37=>un fun lh=>un fun lj=>un fun lk=>un fun ll=>un fun rows=>un fun bx bC=>zT C bR i state t36 mc me aT ba bZ bB cw dR t37 lh lj lk ll rows bx bC (fun y=>some (.inl y)) (fun r=>some (.inr r))
noncomputable def zU (C:ag) (bR mc me aT ba:Int) (dd bZ:List V) (i lh lj:Int) (lk ll bB bx bC cw:List V) {β:Type} (kn:(Int × Int × Int × (List V) × (List V) × (List V) × (List V) × (List V) × (List V))→Option β) (kr:((Int × Int × Int × (List V) × (List V) × Int × Int × (List V) × (List V) × (List V)) ⊕ (Int × Bool × Int × Int × (List V) × (List V) × (List V) × (List V) × (List V) × (List V)))→Option β):Option β:=
 bif decide ((i:Int)<(bB.length:Int)) then
  bif (decide (0≤i))&&(decide (i<(bB.length:Int))) then
  (bB[(i:Int).toNat]?).bind fun x2=>
  bif (decide (0≤bR))&&((decide (bR≤bR))&&(Nat.ble (((bR:Int).toNat)*8) bA)) then
   (Loop (EV C bR i x2.toInt ((List.replicate ((bR:Int).toNat) (V.int .i64 0)).length:Int) mc me aT ba dd bZ bC cw) (0,lh,lj,lk,ll,List.replicate ((bR:Int).toNat) (V.int .i64 0),bB,bx)).bind (un fun (og:Int)=>un fun (kW:Bool)=>un fun (zV:Int)=>un fun (R9:Int)=>un fun (Sa:List V)=>un fun (Sb:List V)=>un fun (Sd:List V)=>un fun (rN:List V) (tQ:List V)=>
    bif decide (((rN.length:Int):Int)>512) then
    kr (.inl (3,zV,R9,Sa,Sb,0,0,([]:List V),([]:List V),([]:List V)))
    else
    bif Nat.ble ((cw.length+([.list ah Sd]:List V).length)*24) bA then
     (C qn [.int .i64 x2.toInt,.int .i64 zV,.int .i64 R9,.list ab Sa,.list ae Sb]).bind fun gf=>
     bif Nat.ble ((bC.length+([.bool ((V.nth gf 0).toBool)]:List V).length)*1) bA then
     kn (IntKind.wrap .i64 (i+1),(V.nth (gf.drop 1) 0).toInt,(V.nth ((gf.drop 1).drop 1) 0).toInt,(V.nth (((gf.drop 1).drop 1).drop 1) 0).toList,(V.nth ((((gf.drop 1).drop 1).drop 1).drop 1) 0).toList,rN,tQ,bC++([.bool ((V.nth gf 0).toBool)]:List V),cw++([.list ah Sd]:List V))
     else none
    else none)
  else none
  else none
 else
  kr (.inr (i,decide ((i:Int)<(bB.length:Int)),lh,lj,lk,ll,bB,bx,bC,cw))
noncomputable def EW (C:ag) (bR mc me aT ba:Int) (dd bZ:List V):(Int × Int × Int × (List V) × (List V) × (List V) × (List V) × (List V) × (List V))→Option ((Int × Int × Int × (List V) × (List V) × (List V) × (List V) × (List V) × (List V)) ⊕ ((Int × Int × Int × (List V) × (List V) × Int × Int × (List V) × (List V) × (List V)) ⊕ (Int × Bool × Int × Int × (List V) × (List V) × (List V) × (List V) × (List V) × (List V)))):=un fun i=>un fun lh=>un fun lj=>un fun lk=>un fun ll=>un fun bB=>un fun bx=>un fun bC cw=>zU C bR mc me aT ba dd bZ i lh lj lk ll bB bx bC cw (fun y=>some (.inl y)) (fun r=>some (.inr r))
noncomputable def Se (C:ag):ch:=fun β n ds k=>
 bif Nat.beq n 161 then bq JV [false,false,false,false,true,true,true,true,true,false,false,false,false,true,false,false,true,true,false,false] [[1,2,3,4,0,0,0,0,0,0,10,11,12,13,0,15,16,0,0,19,20]] (@zT C) ds k else
 bif Nat.beq n 81 then bq JW [false,true,true,true,true,true,false,false,false,false,false,false,true,true,true,true] [[0,0,0,0,0,0,0,0,0,0],[1,0,0,0,0,0,0,7,8,9,10,11,12,0,0,0,0]] (@zU C) ds k else
 none
abbrev Sf (C:ag) (b:cd):Prop:=cf Tryd.prog aw C (Se C) 122 (cG Tryd.prog (aw.aU 122)) (aw.sin 122).aZ.length b
theorem acj (C:ag):Sf C (.loop (ar [1,1,1,1,0,1,0,0,1,0,0,1,1,0,1,0,0] EU)):=
 bu JV [false,false,false,false,true,true,true,true,true,false,false,false,false,true,false,false,true,true,false,false] [[1,2,3,4,0,0,0,0,0,0,10,11,12,13,0,15,16,0,0,19,20]] (@zT C) (by kernel_rfl) (aR (bs:=[]) (by kernel_rfl) av) (fun ds=>by kernel_rfl) (fun i x=>by kernel_rfl) (fun i x β k=>by kernel_rfl) (fun β ds k=>by kernel_rfl)
theorem ack (C:ag):Sf C (.loop (ar [1,1,1,1,0,1,0,0] EU)):=
 bu JW [false,true,true,true,true,true,false,false,false,false,false,false,true,true,true,true] [[0,0,0,0,0,0,0,0,0,0],[1,0,0,0,0,0,0,7,8,9,10,11,12,0,0,0,0]] (@zU C) (by kernel_rfl) (aR (bs:=[.loop (ar [1,1,1,1,0,1,0,0,1,0,0,1,1,0,1,0,0] EU)]) (by kernel_rfl) (bd (acj C) av)) (fun ds=>by kernel_rfl) (fun i x=>by kernel_rfl) (fun i x β k=>by kernel_rfl) (fun β ds k=>by kernel_rfl)
noncomputable def Sg (C:ag) (bR start lh lj:Int) (lk ll:List V):Option (List V):=
 (C za [.int .i64 start,.list ah ([]:List V)]).bind fun r1=>
 (Loop (EW C bR 0 0 bR 0 ([]:List V) ([]:List V)) (0,lh,lj,lk,ll,(V.nth (r1.drop 1) 0).toList,(V.nth ((r1.drop 1).drop 1) 0).toList,([]:List V),([]:List V))).bind (cY (un fun (wa:Int)=>un fun (pj:Int)=>un fun (zW:Int)=>un fun (KR:List V)=>un fun (acm:List V)=>un fun (KS:Int)=>un fun (acn:Int)=>un fun (KT:List V)=>un fun (aco:List V) (acp:List V)=>
  some [.int .i64 KS,.int .i64 acn,.int .i64 wa,.int .i64 pj,.int .i64 zW,.list ab KR,.list ae acm,.list ab KT,.list ae aco,.list ah acp]) (un fun (ky:Int)=>un fun (acq:Bool)=>un fun (acr:Int)=>un fun (acs:Int)=>un fun (acu:List V)=>un fun (acv:List V)=>un fun (acw:List V)=>un fun (Sh:List V)=>un fun (Si:List V) (zX:List V)=>
  some [.int .i64 bR,.int .i64 0,.int .i64 0,.int .i64 acr,.int .i64 acs,.list ab acu,.list ae acv,.list ab Si,.list ae zX,.list ah acw]))
theorem acx {bR start lh lj:Int} {lk ll:List V} {r:Option (List V)} (h:Sg CC bR start lh lj lk ll=r):CC Ef [.int .i64 bR,.int .i64 start,.int .i64 lh,.int .i64 lj,.list ab lk,.list ae ll]=r:=
 bj (key:=122) (L:=Se CC) (bs:=[.loop (ar [1,1,1,1,0,1,0,0] EU)]) (by kernel_rfl) (bd (ack CC) av) (Eq.trans (by kernel_rfl) h)
end Go.AM
set_option maxRecDepth 100000
namespace Go.AM
open Go.Proofs
noncomputable abbrev EX:Code:=cx Tryd.prog (aw.aU 108)
noncomputable def zY (C:ag) (t31 bO bP zZ z0:Int) (dH dd bZ bB bx:List V) (t32:Int) (numbers:List V) {β:Type} (kn:(Int × (List V))→Option β) (kr:(Int × Bool × (List V))→Option β):Option β:=
 bif decide ((t32:Int)<t31) then
  bif (decide (0≤t32))&&(decide (t32<(numbers.length:Int))) then
  (numbers[(t32:Int).toNat]?).bind fun x3=>
  kn (IntKind.wrap .i64 (t32+1),numbers.set ((t32:Int).toNat) (.int .i64 (-1)))
  else none
 else
  kr (t32,decide ((t32:Int)<t31),numbers)
noncomputable def EY (C:ag) (t31 bO bP zZ z0:Int) (dH dd bZ bB bx:List V):(Int × (List V))→Option ((Int × (List V)) ⊕ (Int × Bool × (List V))):=un fun t32 numbers=>zY C t31 bO bP zZ z0 dH dd bZ bB bx t32 numbers (fun y=>some (.inl y)) (fun r=>some (.inr r))
noncomputable def z5 (C:ag) (t40 bO bP zZ z0:Int) (EZ dd bZ bB bx:List V) (t41:Int) (numbers:List V) {β:Type} (kn:(Int × (List V))→Option β) (kr:(Int × Bool × (List V))→Option β):Option β:=
 bif decide ((t41:Int)<t40) then
  bif (decide (0≤t41))&&(decide (t41<(EZ.length:Int))) then
  (EZ[(t41:Int).toNat]?).bind fun x7=>
  bif (decide (0≤x7.toInt))&&(decide (x7.toInt<(numbers.length:Int))) then
   (numbers[(x7.toInt:Int).toNat]?).bind fun x8=>
   kn (IntKind.wrap .i64 (t41+1),numbers.set ((x7.toInt:Int).toNat) (.int .i64 t41))
  else none
  else none
 else
  kr (t41,decide ((t41:Int)<t40),numbers)
noncomputable def E0 (C:ag) (t40 bO bP zZ z0:Int) (EZ dd bZ bB bx:List V):(Int × (List V))→Option ((Int × (List V)) ⊕ (Int × Bool × (List V))):=un fun t41 numbers=>z5 C t40 bO bP zZ z0 EZ dd bZ bB bx t41 numbers (fun y=>some (.inl y)) (fun r=>some (.inr r))
noncomputable def Sj (C:ag):ch:=fun β n ds k=>
 bif Nat.beq n 97 then bq JJ [false,true,false,false,false,false,false,true,false,false,false,false] [[1,0,0,3,4,5,6,7,0,9,10,11,12]] (@zY C) ds k else
 bif Nat.beq n 177 then bq JK [false,true,false,false,false,false,true,false,false,false,false,false] [[1,0,0,3,4,5,6,0,8,9,10,11,12]] (@z5 C) ds k else
 none
abbrev Sk (C:ag) (b:cd):Prop:=cf Tryd.prog aw C (Sj C) 108 (cG Tryd.prog (aw.aU 108)) (aw.sin 108).aZ.length b
theorem acy (C:ag):Sk C (.loop (ar [1,1,1,1,0,1,0,0] EX)):=
 bu JJ [false,true,false,false,false,false,false,true,false,false,false,false] [[1,0,0,3,4,5,6,7,0,9,10,11,12]] (@zY C) (by kernel_rfl) (aR (bs:=[]) (by kernel_rfl) av) (fun ds=>by kernel_rfl) (fun i x=>by kernel_rfl) (fun i x β k=>by kernel_rfl) (fun β ds k=>by kernel_rfl)
theorem acz (C:ag):Sk C (.loop (ar [1,1,1,1,1,0,1,0,0] EX)):=
 bu JK [false,true,false,false,false,false,true,false,false,false,false,false] [[1,0,0,3,4,5,6,0,8,9,10,11,12]] (@z5 C) (by kernel_rfl) (aR (bs:=[]) (by kernel_rfl) av) (fun ds=>by kernel_rfl) (fun i x=>by kernel_rfl) (fun i x β k=>by kernel_rfl) (fun β ds k=>by kernel_rfl)
noncomputable def Sl (C:ag) (aX aY:Int) (aG bc:List V):Option (List V):=
 (C oc [.int .i64 aX,.int .i64 aY,.list ab aG,.list ae bc]).bind fun r1=>
 bif (((V.nth r1 0).toInt):Int) != 0 then
  some [.int .i64 0,.int .i64 0,.list ab ([]:List V),.list ae ([]:List V),.list ah ([]:List V)]
 else
  (C Ef [.int .i64 aX,.int .i64 aY,.int .i64 aX,.int .i64 aY,.list ab aG,.list ae bc]).bind fun r2=>
  bif (decide (0≤(((V.nth (((r2.drop 3).drop 1).drop 1) 0).toList).length:Int)))&&((decide ((((V.nth (((r2.drop 3).drop 1).drop 1) 0).toList).length:Int)≤(((V.nth (((r2.drop 3).drop 1).drop 1) 0).toList).length:Int)))&&(Nat.ble ((((((V.nth (((r2.drop 3).drop 1).drop 1) 0).toList).length:Int):Int).toNat)*8) bA)) then
  (Loop (EY C ((List.replicate (((((V.nth (((r2.drop 3).drop 1).drop 1) 0).toList).length:Int):Int).toNat) (V.int .i64 0)).length:Int) 0 0 ((V.nth r2 0).toInt) ((V.nth (r2.drop 1) 0).toInt) ((V.nth ((((r2.drop 3).drop 4).drop 1).drop 1) 0).toList) ([]:List V) ([]:List V) ((V.nth ((r2.drop 3).drop 4) 0).toList) ((V.nth (((r2.drop 3).drop 4).drop 1) 0).toList)) (0,List.replicate (((((V.nth (((r2.drop 3).drop 1).drop 1) 0).toList).length:Int):Int).toNat) (V.int .i64 0))).bind (un fun (js:Int)=>un fun (la:Bool) (acA:List V)=>
   (Loop (E0 C (((V.nth ((((r2.drop 3).drop 4).drop 1).drop 1) 0).toList).length:Int) 0 0 ((V.nth r2 0).toInt) ((V.nth (r2.drop 1) 0).toInt) ((V.nth ((((r2.drop 3).drop 4).drop 1).drop 1) 0).toList) ([]:List V) ([]:List V) ((V.nth ((r2.drop 3).drop 4) 0).toList) ((V.nth (((r2.drop 3).drop 4).drop 1) 0).toList)) (0,acA)).bind (un fun (pf:Int)=>un fun (Sm:Bool) (acB:List V)=>
    some [.int .i64 ((V.nth r2 0).toInt),.int .i64 ((V.nth (r2.drop 1) 0).toInt),.list ab ((V.nth ((r2.drop 3).drop 4) 0).toList),.list ae ((V.nth (((r2.drop 3).drop 4).drop 1) 0).toList),.list ah acB]))
  else none
theorem acC {aX aY:Int} {aG bc:List V} {r:Option (List V)} (h:Sl CC aX aY aG bc=r):CC vR [.int .i64 aX,.int .i64 aY,.list ab aG,.list ae bc]=r:=
 bj (key:=108) (L:=Sj CC) (bs:=[.loop (ar [1,1,1,1,0,1,0,0] EX),.loop (ar [1,1,1,1,1,0,1,0,0] EX)]) (by kernel_rfl) (bd (acy CC) (bd (acz CC) av)) (Eq.trans (by kernel_rfl) h)
end Go.AM
set_option maxRecDepth 100000
set_option linter.unusedSimpArgs false
namespace Go.AM
open Go.Proofs
def nV (q:Nat):V:= .int .i64 (q:Int)
def nS (S:List Nat):List V:=S.map nV
def mS (S:List Nat):List V:=fC nV 0 S
theorem wc (a b:Nat):iK (nV a) (nV b)=decide (a=b):=acd a b
theorem ov {S:List Nat}:(nS S).length=S.length:=by simp[nS]
theorem we {S:List Nat} {i:Nat} (h:i<S.length):(nS S)[i]? =some (nV S[i]):=by simp[nS,h]
theorem acD {x:Nat} (hx:x≤1000000):CC za [nV x,.list ah []]=some [nV 0,.list ah (nS [x]),.list fc (mS [x])]:=by
 refine ach ?_
 unfold R7
 rw[ET (by omega)]
 exact bT rfl (bT rfl (bT (cap (by simp) (by omega)) rfl))
theorem acE {S:List Nat} {x:Nat} (hx:x≤1000000) (hl:S.length≤1000000):CC IK [nV x,.list ah (nS S),.list fc (mS S)]=some [nV ((cN S x).idxOf x),.list fc (mS (cN S x)),.list ah (nS (cN S x))]:=by
 refine aci ?_
 unfold R8
 have e1:=tP wc x S 0
 rw[ET (by omega)]
 refine bT rfl ?_
 rw[KQ]
 by_cases h:x∈S
 ·refine bF (by rw[show fu (.int .i64 (x:Int)) (mS S)=true from e1.trans (decide_eq_true h)];rfl) ?_
  have e2:=v7 wc x (.int .i64 0) S 0 h
  rw[show gL (.int .i64 (x:Int)) (mS S) (.int .i64 0)=_ from e2,if_pos h,Nat.zero_add,show cN S x=S by unfold cN;rw[if_pos h]]
  rfl
 ·refine bT (by rw[show fu (.int .i64 (x:Int)) (mS S)=false from e1.trans (decide_eq_false h)];rfl) ?_
  refine bT rfl ?_
  refine bT (cap (by rw[ov];simp;omega) (by omega)) ?_
  have e2:=v8 wc x S 0 h
  rw[Nat.zero_add] at e2
  rw[ov,show eS (.int .i64 (x:Int)) (.int .i64 (S.length:Int)) (mS S)=_ from e2,if_neg h,show cN S x=S++[x] by unfold cN;rw[if_neg h]]
  simp[nS,nV,mS]
theorem acF {a:Da} {q x:Nat} (hq:q<a.n) (hx:x<a.L):CC qm (nV q::nV x::dv a)=some (nV (a.nx q x)::dv a):=by
 refine acf ?_
 unfold R5
 refine bs (Da.ma hq) ?_
 rw[m8]
 exact bs (ou hx) rfl
theorem acG {a:Da} {q:Nat} (hq:q<a.n):CC qn (nV q::dv a)=some (.bool (a.fin q)::dv a):=by
 refine acg ?_
 unfold R6
 exact bs (Da.rM hq) rfl
section
variable {a:Da} (h:a.Ok)
include h
theorem acH {S U:List Nat} {q:Nat} (hq:q<a.n) (hS: ∀s∈S,s<a.n) (hSn:S.length≤1000) (hp:aW a.nx S q a.L <+: U) {i c1 c2:Int} {l1 l2 l3 l4:List V}:
  Loop (EV CC (a.L:Int) i (q:Int) ((List.replicate (((a.L:Nat):Int).toNat) (V.int .i64 0)).length:Int) c1 c2 (a.L:Int) 0 l1 l2 l3 l4) (0,(a.L:Int),(a.st:Int),a.cC,a.cD,List.replicate (((a.L:Nat):Int).toNat) (V.int .i64 0),nS S,mS S)=
   some ((a.L:Int),false,(a.L:Int),(a.st:Int),a.cC,a.cD,(tab a.L fun x=>nV (U.idxOf (a.nx q x))),nS (aW a.nx S q a.L),mS (aW a.nx S q a.L)):=by
 have h6:=h.l6
 rw[Int.toNat_natCast,mY,dA]
 refine (ej a.L (fun x=>((x:Int),(a.L:Int),(a.st:Int),a.cC,a.cD,(tab a.L fun j=>if j<x then nV (U.idxOf (a.nx q j)) else nV 0),nS (aW a.nx S q x),mS (aW a.nx S q x))) _ (fun x hx=> ?_) ?_)
 ·simp only[EV,zT,un]
  refine bT (dm hx) ?_
  refine bs (acF hq hx) ?_
  have hT:(aW a.nx S q x).length≤1000000:=by
   have: ∀x,(aW a.nx S q x).length≤S.length+x:=by
    intro x
    induction x with
    | zero=>exact Nat.le_refl _
    | succ x ih=>rw[aW,oo];split<;>omega
   have:=this x
   omega
  refine bs (acE (S:=aW a.nx S q x) (by have:=h.eO hq hx;have:=h.ew;omega) hT) ?_
  refine (ey hx).trans ?_
  rw[cz (by omega),Int.toNat_natCast,mX]
  have e:(cN (aW a.nx S q x) (a.nx q x)).idxOf (a.nx q x)=U.idxOf (a.nx q x):=(tM ((qt S q (show x+1≤a.L by omega)).trans hp) tJ).symm
  show some (Sum.inl _)=some (Sum.inl _)
  refine congrArg (fun x=>some (Sum.inl x)) ?_
  refine Prod.ext rfl (Prod.ext rfl (Prod.ext rfl (Prod.ext rfl (Prod.ext rfl (Prod.ext ?_ (Prod.ext rfl rfl))))))
  refine eh fun j _=> ?_
  by_cases hj:j=x
  ·rw[if_pos hj,if_pos (by omega),hj,←e];rfl
  ·rw[if_neg hj]
   by_cases bU:j<x
   ·rw[if_pos bU,if_pos (by omega)]
   ·rw[if_neg bU,if_neg (by omega)]
 ·simp only[EV,zT,un]
  refine bF (bp (Nat.le_refl _)) ?_
  rw[bp (Nat.le_refl _)]
  have:(tab a.L fun j=>if j<a.L then nV (U.idxOf (a.nx q j)) else nV 0)=tab a.L fun j=>nV (U.idxOf (a.nx q j)):=eh fun j hj=>if_pos hj
  rw[this]
theorem acI:CC Ef ([nV a.L,nV a.st]++dv a)=some ([nV a.L,nV 0,.int .i64 0]++(dv a++[.list ab a.trim.cC,.list ae a.trim.cD,.list ah (nS (aq a.L a.nx a.st a.n))])):=by
 have h6:=h.l6
 have hm:=h.ew
 have hd:=h.lW a.n
 refine acx ?_
 unfold Sg
 refine bs (acD (by have:=h.s;omega)) ?_
 have key:Loop (EW CC (a.L:Int) 0 0 (a.L:Int) 0 ([]:List V) ([]:List V)) (0,(a.L:Int),(a.st:Int),a.cC,a.cD,nS [a.st],mS [a.st],([]:List V),([]:List V))=
   some (.inr (((aq a.L a.nx a.st a.n).length:Int),false,(a.L:Int),(a.st:Int),a.cC,a.cD,nS (aq a.L a.nx a.st a.n),mS (aq a.L a.nx a.st a.n),a.trim.cC,a.trim.cD)):=by
  refine (ej (aq a.L a.nx a.st a.n).length (fun i=>((i:Int),(a.L:Int),(a.st:Int),a.cC,a.cD,nS (aq a.L a.nx a.st i),mS (aq a.L a.nx a.st i),(tab i fun j=>V.bool (a.trim.fin j)),(tab i fun j=>fo a.L (a.trim.nx j)))) _ (fun i hi=> ?_) ?_)
  ·have fj:=vW hd hi
   have tR:(aq a.L a.nx a.st i)[i]=(aq a.L a.nx a.st a.n)[i]:=(jT (show i≤a.n by omega)).getElem fj
   have hq:(aq a.L a.nx a.st a.n)[i]<a.n:=h.tN _ _ (List.getElem_mem hi)
   have hlen:(aq a.L a.nx a.st i).length≤512:=Nat.le_trans (h.lW i) hm
   have aiw:(aq a.L a.nx a.st (i+1)).length≤512:=Nat.le_trans (h.lW (i+1)) hm
   have gU:=vX hd hi
   simp only[EW,zU,un]
   refine bT (decide_eq_true (by rw[ov];omega)) ?_
   refine (lY (we fj)).trans ?_
   refine bT (lZ (by omega) (by omega)) ?_
   rw[tR]
   refine bs (acH h hq (h.tN i) (by omega) (U:=aq a.L a.nx a.st a.n) (by rw[←gU];exact jT (by omega))) ?_
   rw[←gU]
   refine bF (decide_eq_false (by rw[ov];omega)) ?_
   refine bT (cap (by rw[dA];simp;omega) (by omega)) ?_
   refine bs (acG hq) ?_
   refine bT (cap (by rw[dA];simp;omega) (by omega)) ?_
   rw[cz (by omega),jU,jU]
   have e1:a.trim.fin i=a.fin (aq a.L a.nx a.st a.n)[i]:=zH hi
   have e2:fo a.L (a.trim.nx i)= .list ah (tab a.L fun x=>nV ((aq a.L a.nx a.st a.n).idxOf (a.nx (aq a.L a.nx a.st a.n)[i] x))):=by
    unfold fo
    refine congrArg _ (eh fun x hx=> ?_)
    rw[show a.trim.nx i x=_ from tL hi hx];rfl
   rw[e1,e2]
   rfl
  ·simp only[EW,zU,un]
   rw[zI hd,ov]
   refine bF (bp (Nat.le_refl _)) ?_
   rw[bp (Nat.le_refl _)]
   have e3:a.trim.n=(aq a.L a.nx a.st a.n).length:=kp
   unfold Da.cC Da.cD
   rw[e3];rfl
 refine bs key ?_
 rfl
end
def iG (U:List Nat) (n:Nat):List V:=tab n fun q=>if q∈U then nV (U.idxOf q) else .int .i64 (-1)
theorem Sn {U:List Nat} {n i:Nat} (hU:U.Nodup) (hi:i<U.length):(tab n fun q=>if q∈U.take i then nV (U.idxOf q) else V.int .i64 (-1)).set U[i] (.int .i64 (i:Int))=tab n fun q=>if q∈U.take (i+1) then nV (U.idxOf q) else V.int .i64 (-1):=by
 rw[mX]
 refine eh fun q _=> ?_
 have e:q∈U.take (i+1)↔q∈U.take i∨q=U[i]:=by rw[List.take_succ_eq_append_getElem hi,List.mem_append,List.mem_singleton]
 by_cases hq:q=U[i]
 ·rw[if_pos hq,if_pos (e.2 (.inr hq)),hq,hU.idxOf_getElem i hi];rfl
 ·rw[if_neg hq]
  by_cases h2:q∈U.take i
  ·rw[if_pos h2,if_pos (e.2 (.inl h2))]
  ·rw[if_neg h2,if_neg fun h3=>(e.1 h3).elim h2 hq]
theorem So {a:Da} (h:a.Ok):CC vR (dv a)=some (dv a.trim++[.list ah (iG (aq a.L a.nx a.st a.n) a.n)]):=by
 have hm:=h.ew
 have hU:=h.tN a.n
 have hle:=h.lW a.n
 refine acC ?_
 unfold Sl
 refine bs (tO h) ?_
 refine bF rfl ?_
 refine bs (acI h) ?_
 have e0:((V.nth (((([nV a.L,nV 0,V.int .i64 0]++(dv a++[V.list ab a.trim.cC,V.list ae a.trim.cD,V.list ah (nS (aq a.L a.nx a.st a.n))])).drop 3).drop 1).drop 1) 0).toList)=a.cC:=rfl
 rw[e0,Da.m7]
 refine bT (lZ (by omega) (by omega)) ?_
 rw[Int.toNat_natCast,mY,dA]
 generalize hUd:aq a.L a.nx a.st a.n=U at*
 have l1: ∀{c1 c2 c3 c4:Int} {s1 s2 s3 s4 s5:List V},Loop (EY CC (a.n:Int) c1 c2 c3 c4 s1 s2 s3 s4 s5) (0,tab a.n fun _=>V.int .i64 0)=some ((a.n:Int),false,tab a.n fun q=>if q∈U.take 0 then nV (U.idxOf q) else V.int .i64 (-1)):=by
  intro c1 c2 c3 c4 s1 s2 s3 s4 s5
  refine (ej a.n (fun i=>((i:Int),(tab a.n fun j=>if j<i then V.int .i64 (-1) else V.int .i64 0))) _ (fun i hi=> ?_) ?_)
  ·simp only[EY,zY,un]
   refine bT (dm hi) ?_
   refine (ey hi).trans ?_
   rw[cz (by omega),Int.toNat_natCast,mX]
   refine congrArg (fun x=>some (Sum.inl (((i+1:Nat):Int),x))) (eh fun j _=> ?_)
   by_cases hj:j=i
   ·rw[if_pos hj,if_pos (by omega)]
   ·rw[if_neg hj]
    by_cases bU:j<i
    ·rw[if_pos bU,if_pos (by omega)]
    ·rw[if_neg bU,if_neg (by omega)]
  ·simp only[EY,zY,un]
   refine bF (bp (Nat.le_refl _)) ?_
   rw[bp (Nat.le_refl _)]
   refine congrArg (fun x=>some (Sum.inr ((a.n:Int),false,x))) (eh fun j hj=> ?_)
   rw[if_pos hj,List.take_zero,if_neg (by simp)]
 refine bs l1 ?_
 simp only[un]
 have KU:U.Nodup:=by rw[←hUd];exact tK _
 have l2: ∀{c1 c2 c3 c4:Int} {s2 s3 s4 s5:List V},Loop (E0 CC ((nS U).length:Int) c1 c2 c3 c4 (nS U) s2 s3 s4 s5) (0,tab a.n fun q=>if q∈U.take 0 then nV (U.idxOf q) else V.int .i64 (-1))=some ((U.length:Int),false,iG U a.n):=by
  intro c1 c2 c3 c4 s2 s3 s4 s5
  rw[ov]
  refine (ej U.length (fun i=>((i:Int),(tab a.n fun q=>if q∈U.take i then nV (U.idxOf q) else V.int .i64 (-1)))) _ (fun i hi=> ?_) ?_)
  ·have hq:=hU U[i] (List.getElem_mem hi)
   simp only[E0,z5,un]
   refine bT (dm hi) ?_
   refine (lY (we hi)).trans ?_
   refine (ey (i:=U[i]) hq).trans ?_
   rw[cz (by omega)]
   refine congrArg (fun x=>some (Sum.inl (((i+1:Nat):Int),x))) ?_
   exact Sn KU hi
  ·simp only[E0,z5,un]
   refine bF (bp (Nat.le_refl _)) ?_
   rw[bp (Nat.le_refl _),List.take_length]
   rfl
 refine bs l2 ?_
 rfl
end Go.AM
set_option maxRecDepth 100000
set_option linter.unusedSimpArgs false
namespace Go.AM
section
variable {β:Type} [DecidableEq β]
def aQ (g:Nat→β):Nat→List β
 | 0=>[]
 | n+1=>cN (aQ g n) (g n)
theorem KV (g:Nat→β): ∀n,(aQ g n).Nodup
 | 0=>List.nodup_nil
 | n+1=>Ru (KV g n)
theorem iH {g:Nat→β} {v:β}: ∀{n},v∈aQ g n↔∃q,q<n∧g q=v
 | 0=>⟨fun h=>(by cases h),fun ⟨q,h,_⟩=>(by omega)⟩
 | n+1=>by
  have ih:=iH (g:=g) (v:=v) (n:=n)
  rw[aQ]
  unfold cN
  constructor
  ·intro h
   split at h
   ·obtain ⟨q,h1,h2⟩:=ih.1 h;exact ⟨q,by omega,h2⟩
   ·rcases List.mem_append.1 h with h|h
    ·obtain ⟨q,h1,h2⟩:=ih.1 h;exact ⟨q,by omega,h2⟩
    ·exact ⟨n,by omega,(List.mem_singleton.1 h).symm⟩
  ·rintro ⟨q,h1,h2⟩
   rcases Nat.lt_or_ge q n with c|c
   ·exact (EI (aQ g n) (g n)).subset (ih.2 ⟨q,c,h2⟩)
   ·obtain rfl:q=n:=by omega
    rw[←h2];exact tJ
theorem acJ {g:Nat→β} {m n:Nat} (h:m≤n):aQ g m <+: aQ g n:=by
 induction n with
 | zero=>rw[Nat.le_zero.1 h];exact List.prefix_refl _
 | succ n ih=>
  rcases Nat.lt_or_ge m (n+1) with c|c
  ·exact (ih (by omega)).trans (EI _ _)
  ·rw[show m=n+1 by omega];exact List.prefix_refl _
theorem qw (g:Nat→β): ∀n,(aQ g n).length≤n
 | 0=>Nat.le_refl _
 | n+1=>by
  have:=qw g n
  rw[aQ,oo]
  split<;>omega
def cl (g:Nat→β) (n q:Nat):Nat:=(aQ g n).idxOf (g q)
theorem z6 {g:Nat→β} {n q:Nat} (h:q<n):cl g n q<(aQ g n).length:=List.idxOf_lt_length_of_mem (iH.2 ⟨q,h,rfl⟩)
theorem z7 {g:Nat→β} {n p q:Nat} (hp:p<n) (hq:q<n):cl g n p=cl g n q↔g p=g q:=by
 constructor
 ·intro h
  have h1:=List.getElem_idxOf (z6 (g:=g) hp)
  have h2:=List.getElem_idxOf (z6 (g:=g) hq)
  rw[←h1,←h2]
  exact getElem_congr_idx h
 ·intro h;unfold cl;rw[h]
theorem z8 {g:Nat→β} {m n q:Nat} (h:q<m) (hm:m≤n):cl g n q=cl g m q:=tM (acJ hm) (iH.2 ⟨q,h,rfl⟩)
theorem KW {g:Nat→β} {q:Nat} (h:g q∈aQ g q):aQ g (q+1)=aQ g q:=by rw[aQ];unfold cN;rw[if_pos h]
theorem E1 {g:Nat→β} {q:Nat} (h:g q∉aQ g q):aQ g (q+1)=aQ g q++[g q]:=by rw[aQ];unfold cN;rw[if_neg h]
theorem Sp {g:Nat→β} {n q:Nat} (hq:q<n) (h:g q∈aQ g q):cl g n q=(aQ g q).idxOf (g q):=by
 rw[z8 (show q<q+1 by omega) (by omega)]
 unfold cl
 rw[KW h]
theorem Sq {g:Nat→β} {n q:Nat} (hq:q<n) (h:g q∉aQ g q):cl g n q=(aQ g q).length:=by
 rw[z8 (show q<q+1 by omega) (by omega)]
 unfold cl
 rw[E1 h,List.idxOf_append,if_neg h]
 simp
def m9 (p:Nat→Nat) (n:Nat):Prop:= ∀m,m≤n→aQ p m=List.range (aQ p m).length
theorem Sr (g:Nat→β) (n:Nat): ∀m,m≤n→aQ (cl g n) m=List.range (aQ g m).length:=by
 intro m
 induction m with
 | zero=>intro _;rfl
 | succ m ih=>
  intro hm
  have ih:=ih (by omega)
  have e1:cl g n m=cl g (m+1) m:=z8 (by omega) hm
  have e2:cl g (m+1) m=if g m∈aQ g m then (aQ g m).idxOf (g m) else (aQ g m).length:=by
   unfold cl
   rw[aQ]
   unfold cN
   split
   ·rfl
   ·rename_i h
    rw[List.idxOf_append,if_neg h]
    simp
  rw[aQ,ih,aQ,oo]
  unfold cN
  by_cases h:g m∈aQ g m
  ·have:=List.idxOf_lt_length_of_mem h
   rw[if_pos h] at e2
   rw[if_pos h,if_pos (by rw[e1,e2];exact List.mem_range.2 this)]
  ·rw[if_neg h] at e2
   rw[if_neg h,if_neg (by rw[e1,e2];simp),e1,e2,List.range_succ]
theorem KX (g:Nat→β) (n:Nat):m9 (cl g n) n:=fun m hm=>by
 rw[Sr g n m hm,List.length_range]
theorem KY {γ:Type} [DecidableEq γ] {f:Nat→β} {c:Nat→γ} {n:Nat} (hr: ∀q q',q<n→q'<n→f q=f q'→c q=c q') (hl:(aQ f n).length≤(aQ c n).length):
  ∀q q',q<n→q'<n→c q=c q'→f q=f q':=by
 intro q q' hq bY hc
 refine Decidable.byContradiction fun hf=> ?_
 have rep: ∀v∈aQ f n,∃q,q<n∧f q=v:=fun v hv=>iH.1 hv
 have: ∃R:β→Nat,∀v∈aQ f n,R v<n∧f (R v)=v:=by
  classical
  refine ⟨fun v=>if h:v∈aQ f n then Classical.choose (rep v h) else 0,fun v hv=> ?_⟩
  simp only[hv,dif_pos]
  exact Classical.choose_spec (rep v hv)
 obtain ⟨R,hR⟩:=this
 have gX:aQ c n ⊆ ((aQ f n).filter fun v=>decide (v≠f q')).map fun v=>c (R v):=by
  intro u hu
  obtain ⟨s,hs,rfl⟩:=iH.1 hu
  by_cases h:f s=f q'
  ·refine List.mem_map.2 ⟨f q,List.mem_filter.2 ⟨iH.2 ⟨q,hq,rfl⟩,decide_eq_true hf⟩,?_⟩
   have h1:=hR (f q) (iH.2 ⟨q,hq,rfl⟩)
   rw[hr _ _ h1.1 hq h1.2,hc,hr _ _ hs bY h]
  ·refine List.mem_map.2 ⟨f s,List.mem_filter.2 ⟨iH.2 ⟨s,hs,rfl⟩,decide_eq_true h⟩,?_⟩
   have h1:=hR (f s) (iH.2 ⟨s,hs,rfl⟩)
   exact hr _ _ h1.1 hs h1.2
 have h1:=List.Nodup.length_le_of_subset (KV c n) gX
 rw[List.length_map] at h1
 have h2:((aQ f n).filter fun v=>decide (v≠f q')).length<(aQ f n).length:=by
  have hm:f q'∈aQ f n:=iH.2 ⟨q',bY,rfl⟩
  have aS:=List.length_filter_lt_length_iff_exists (p:=fun v=>decide (v≠f q')) (l:=aQ f n)
  exact aS.2 ⟨f q',hm,by simp⟩
 omega
theorem Ss {γ:Type} [DecidableEq γ] {f:Nat→β} {c:Nat→γ} {n:Nat} (hr: ∀q q',q<n→q'<n→f q=f q'→c q=c q'):(aQ c n).length≤(aQ f n).length:=by
 rcases Nat.lt_or_ge (aQ f n).length (aQ c n).length with h|h
 ·have:=KY hr (by omega)
  have rep: ∀v∈aQ f n,∃q,q<n∧f q=v:=fun v hv=>iH.1 hv
  have: ∃R:β→Nat,∀v∈aQ f n,R v<n∧f (R v)=v:=by
   classical
   refine ⟨fun v=>if h:v∈aQ f n then Classical.choose (rep v h) else 0,fun v hv=> ?_⟩
   simp only[hv,dif_pos]
   exact Classical.choose_spec (rep v hv)
  obtain ⟨R,hR⟩:=this
  have gX:aQ c n ⊆ (aQ f n).map fun v=>c (R v):=by
   intro u hu
   obtain ⟨s,hs,rfl⟩:=iH.1 hu
   have h1:=hR (f s) (iH.2 ⟨s,hs,rfl⟩)
   exact List.mem_map.2 ⟨f s,iH.2 ⟨s,hs,rfl⟩,hr _ _ h1.1 hs h1.2⟩
  have h1:=List.Nodup.length_le_of_subset (KV c n) gX
  rw[List.length_map] at h1
  omega
 ·exact h
theorem acK {γ:Type} [DecidableEq γ] {f:Nat→β} {c:Nat→γ} {n:Nat} (h: ∀q q',q<n→q'<n→(f q=f q'↔c q=c q')): ∀q,q<n→cl f n q=cl c n q:=by
 have key: ∀m,m≤n→(aQ f m).length=(aQ c m).length∧∀q,q<m→cl f m q=cl c m q:=by
  intro m
  induction m with
  | zero=>intro _;exact ⟨rfl,fun q hq=>by omega⟩
  | succ m ih=>
   intro hm
   obtain ⟨i1,i2⟩:=ih (by omega)
   have kf:f m∈aQ f m↔c m∈aQ c m:=by
    rw[iH,iH]
    exact ⟨fun ⟨q,h1,h2⟩=>⟨q,h1,(h q m (by omega) (by omega)).1 h2⟩,fun ⟨q,h1,h2⟩=>⟨q,h1,(h q m (by omega) (by omega)).2 h2⟩⟩
   refine ⟨?_,fun q hq=> ?_⟩
   ·rw[aQ,aQ,oo,oo,i1]
    by_cases hx:f m∈aQ f m
    ·rw[if_pos hx,if_pos (kf.1 hx)]
    ·rw[if_neg hx,if_neg fun h=>hx (kf.2 h)]
   ·rcases Nat.lt_or_ge q m with c1|c1
    ·exact (z8 (g:=f) c1 (by omega)).trans ((i2 q c1).trans (z8 (g:=c) c1 (by omega)).symm)
    ·obtain rfl:q=m:=by omega
     unfold cl
     rw[aQ,aQ]
     by_cases hx:f q∈aQ f q
     ·obtain ⟨r,h1,h2⟩:=iH.1 hx
      have h3:=(h r q (by omega) (by omega)).1 h2
      have:=i2 r h1
      unfold cl at this
      unfold cN
      rw[if_pos hx,if_pos (kf.1 hx),←h2,←h3,this]
     ·unfold cN
      rw[if_neg hx,if_neg fun h=>hx (kf.2 h),List.idxOf_append,List.idxOf_append,if_neg hx,if_neg fun h=>hx (kf.2 h)]
      simp[i1]
 exact (key n (Nat.le_refl _)).2
end
namespace Da
structure Part (a:Da) (c:Nat→Nat):Prop where
 coarse: ∀q q',q<a.n→q'<a.n→a.mV q a q'→c q=c q'
 fin: ∀q q',q<a.n→q'<a.n→c q=c q'→a.fin q=a.fin q'
def sig (a:Da) (c:Nat→Nat) (q:Nat):List Nat:=c q::(List.range a.L).map fun x=>c (a.nx q x)
theorem tS {a:Da} {c:Nat→Nat} {q q':Nat}:a.sig c q=a.sig c q'↔c q=c q'∧∀x,x<a.L→c (a.nx q x)=c (a.nx q' x):=by
 unfold sig
 rw[List.cons.injEq]
 refine and_congr Iff.rfl ⟨fun h x hx=> ?_,fun h=>List.map_congr_left fun x hx=>h x (List.mem_range.1 hx)⟩
 have:=congrArg (fun l=>l.getD x 0) h
 simpa[hx] using this
def E2 (a:Da) (c f:Nat→Nat):Prop:= ∀q q',q<a.n→q'<a.n→(f q=f q'↔a.sig c q=a.sig c q')
theorem E2.part {a:Da} {c f:Nat→Nat} (h:a.E2 c f) (ha:a.Ok) (hc:a.Part c):a.Part f where
 coarse q q' hq bY he:=(h q q' hq bY).2 (tS.2 ⟨hc.coarse q q' hq bY he,fun x hx=>hc.coarse _ _ (ha.eO hq hx) (ha.eO bY hx) (he.nx hx)⟩)
 fin q q' hq bY he:=hc.fin q q' hq bY (tS.1 ((h q q' hq bY).1 he)).1
def tT (a:Da) (p:Nat→Nat):Prop:=(∀q q',q<a.n→q'<a.n→(p q=p q'↔a.mV q a q'))∧m9 p a.n
theorem Part.Su {a:Da} {c:Nat→Nat} (hc:a.Part c) (ha:a.Ok) (hs: ∀q q',q<a.n→q'<a.n→c q=c q'→a.sig c q=a.sig c q'): ∀q q',q<a.n→q'<a.n→(c q=c q'↔a.mV q a q'):=by
 intro q q' hq bY
 refine ⟨fun h w=> ?_,hc.coarse q q' hq bY⟩
 induction w generalizing q q' with
 | nil=>intro _;rw[mW,mW];exact hc.fin q q' hq bY h
 | cons x w ih=>
  intro hw
  rw[EH,EH]
  exact ih _ _ (ha.eO hq hw.head) (ha.eO bY hw.head) ((tS.1 (hs q q' hq bY h)).2 x hw.head) hw.tail
def dE (p:Nat→Nat):Nat→List Nat
 | 0=>[]
 | n+1=>if p n∈aQ p n then dE p n else dE p n++[n]
theorem E3 {p:Nat→Nat}: ∀n,(dE p n).map p=aQ p n
 | 0=>rfl
 | n+1=>by
  rw[dE,aQ]
  unfold cN
  split
  ·exact E3 n
  ·rw[List.map_append,E3 n];rfl
theorem wg {p:Nat→Nat} {n:Nat}:(dE p n).length=(aQ p n).length:=by rw[←E3,List.length_map]
theorem tU {p:Nat→Nat}: ∀{n q},q∈dE p n→q<n
 | 0,q,h=>by cases h
 | n+1,q,h=>by
  rw[dE] at h
  split at h
  ·have:=tU h;omega
  ·rcases List.mem_append.1 h with h|h
   ·have:=tU h;omega
   ·rw[List.mem_singleton.1 h];omega
theorem wh {p:Nat→Nat} {n:Nat} (ho:m9 p n) {c:Nat} (hc:c<(dE p n).length):p (dE p n)[c]=c:=by
 have h1:=ho n (Nat.le_refl _)
 have h2:((dE p n).map p)[c]? =some c:=by rw[E3,h1,List.getElem?_range (by rw[wg] at hc;exact hc)]
 rw[List.getElem?_map,List.getElem?_eq_getElem hc] at h2
 exact Option.some.inj h2
theorem z9 {p:Nat→Nat} {n q:Nat} (ho:m9 p n) (hq:q<n):p q<(dE p n).length:=by
 have h1:p q∈aQ p n:=iH.2 ⟨q,hq,rfl⟩
 rw[ho n (Nat.le_refl _),List.mem_range] at h1
 rw[wg];exact h1
def quo (a:Da) (p:Nat→Nat):Da where
 L:=a.L
 st:=p a.st
 F:=(dE p a.n).map a.fin
 N:=(dE p a.n).map fun q=>tab a.L fun x=>p (a.nx q x)
theorem qx {a:Da} {p:Nat→Nat}:(a.quo p).n=(dE p a.n).length:=by simp[quo,n]
theorem Sv {a:Da} {p:Nat→Nat} {c:Nat} (hc:c<(dE p a.n).length):(a.quo p).fin c=a.fin (dE p a.n)[c]:=by
 show ((dE p a.n).map a.fin).getD c false=_
 rw[fN (by simpa using hc),List.getElem_map]
theorem Sw {a:Da} {p:Nat→Nat} {c x:Nat} (hc:c<(dE p a.n).length) (hx:x<a.L):(a.quo p).nx c x=p (a.nx (dE p a.n)[c] x):=by
 show (((dE p a.n).map fun q=>tab a.L fun x=>p (a.nx q x)).getD c []).getD x 0=_
 rw[fN (l:=(dE p a.n).map fun q=>tab a.L fun x=>p (a.nx q x)) (by simpa using hc),List.getElem_map,vY hx]
section
variable {a:Da} {p:Nat→Nat} (ha:a.Ok) (hp:a.tT p)
include ha hp
theorem E4:(a.quo p).Ok where
 l1:=ha.l1
 l6:=ha.l6
 nN:=by rw[qx];simp[quo]
 row r hr:=by
  rw[qx]
  obtain ⟨q,hq,rfl⟩:=List.mem_map.1 (show r∈(dE p a.n).map _ from hr)
  refine ⟨by simp[quo],fun s hs=> ?_⟩
  obtain ⟨x,hx,rfl⟩:=zP.1 hs
  exact z9 hp.2 (ha.eO (tU hq) hx)
 s:=by rw[qx];exact z9 hp.2 ha.s
 ew:=by
  rw[qx,wg]
  have:=qw p a.n
  have:=ha.ew
  omega
theorem E5: ∀(w:List Nat) {q:Nat},q<a.n→WL a.L w→(a.quo p).acc (p q) w=a.acc q w
 | [],q,hq,_=>by
  have hc:=z9 hp.2 hq
  rw[mW,mW,Sv hc]
  have h1:=(hp.1 _ _ (tU (List.getElem_mem hc)) hq).1 (wh hp.2 hc)
  have:=h1 [] WL.nil
  rwa [mW,mW] at this
 | x::w,q,hq,hw=>by
  have hc:=z9 hp.2 hq
  have hr:=tU (List.getElem_mem hc)
  have h1:=(hp.1 _ _ hr hq).1 (wh hp.2 hc)
  have h2:=(hp.1 _ _ (ha.eO hr hw.head) (ha.eO hq hw.head)).2 (h1.nx hw.head)
  rw[EH,EH,Sw hc hw.head,h2]
  exact E5 w (ha.eO hq hw.head) hw.tail
theorem acL: ∀c d,c<(a.quo p).n→d<(a.quo p).n→(a.quo p).mV c (a.quo p) d→c=d:=by
 intro c d hc hd he
 rw[qx] at hc hd
 have r1:=tU (List.getElem_mem hc)
 have r2:=tU (List.getElem_mem hd)
 rw[←wh hp.2 hc,←wh hp.2 hd]
 refine (hp.1 _ _ r1 r2).2 fun w hw=> ?_
 rw[←E5 ha hp w r1 hw,←E5 ha hp w r2 hw,wh hp.2 hc,wh hp.2 hd]
 exact he w hw
theorem KZ:(a.quo p).trim.Canon a.L (a.acc a.st):=by
 have h:=(E4 ha hp).abH (acL ha hp)
 exact ⟨h.ok,h.hL,h.st,h.num,h.red,fun w hw=>(h.lf w hw).trans (E5 ha hp w ha.s hw)⟩
end
end Da
end Go.AM
set_option maxRecDepth 100000
namespace Go.AM
open Go.Proofs
noncomputable abbrev rO:Code:=cx Tryd.prog (aw.aU 109)
noncomputable def Aa (C:ag) (t24:List V) (t25 aT ba:Int) (bm bh:List V) (count t26:Int) (di:List V) {β:Type} (kn:(Int × Int × (List V))→Option β) (kr:(Int × Int × Bool × (List V))→Option β):Option β:=
 bif decide ((t26:Int)<t25) then
  (idx t24 t26).bind fun x2=>
  (bm[0]?).bind fun x3=>
  bif !(x2.toBool==x3.toBool) then
  bif (decide (0≤t26))&&(decide (t26<(di.length:Int))) then
   (di[(t26:Int).toNat]?).bind fun x4=>
   kn (2,IntKind.wrap .i64 (t26+1),di.set ((t26:Int).toNat) (.int .i64 1))
  else none
  else
  kn (count,IntKind.wrap .i64 (t26+1),di)
 else
  kr (count,t26,decide ((t26:Int)<t25),di)
noncomputable def E6 (C:ag) (t24:List V) (t25 aT ba:Int) (bm bh:List V):(Int × Int × (List V))→Option ((Int × Int × (List V)) ⊕ (Int × Int × Bool × (List V))):=un fun count=>un fun t26 di=>Aa C t24 t25 aT ba bm bh count t26 di (fun y=>some (.inl y)) (fun r=>some (.inr r))
noncomputable def Ab (C:ag) (count q:Int) (t46:List V) (t47 t48:Int) (t58:List V) (t59 aT ba:Int) (bm bh di numbers mf:List V) (t60 E7 E8 E9 Fa Fb Fc Fe:Int) {β:Type} (kn:(Int × Int × Int × Int × Int × Int × Int × Int)→Option β) (kr:(Int × Bool × Int × Int × Int × Int × Int × Int × Int)→Option β):Option β:=
 bif decide ((t60:Int)<t59) then
  (idx t58 t60).bind fun eY=>
  bif (decide (0≤eY.toInt))&&(decide (eY.toInt<(di.length:Int))) then
  (di[(eY.toInt:Int).toNat]?).bind fun lV=>
  bif (decide (0≤(IntKind.wrap .i64 (1+t60))))&&(decide ((IntKind.wrap .i64 (1+t60))<7)) then
   bif Nat.blt (0+(((IntKind.wrap .i64 (1+t60):Int).toNat)*1)) 7 then
   kn (IntKind.wrap .i64 (t60+1),bif Nat.beq (0+(((IntKind.wrap .i64 (1+t60):Int).toNat)*1)) 0 then lV.toInt else E7,bif Nat.beq (0+(((IntKind.wrap .i64 (1+t60):Int).toNat)*1)) 1 then lV.toInt else E8,bif Nat.beq (0+(((IntKind.wrap .i64 (1+t60):Int).toNat)*1)) 2 then lV.toInt else E9,bif Nat.beq (0+(((IntKind.wrap .i64 (1+t60):Int).toNat)*1)) 3 then lV.toInt else Fa,bif Nat.beq (0+(((IntKind.wrap .i64 (1+t60):Int).toNat)*1)) 4 then lV.toInt else Fb,bif Nat.beq (0+(((IntKind.wrap .i64 (1+t60):Int).toNat)*1)) 5 then lV.toInt else Fc,bif Nat.beq (0+(((IntKind.wrap .i64 (1+t60):Int).toNat)*1)) 6 then lV.toInt else Fe)
   else none
  else none
  else none
 else
  kr (t60,decide ((t60:Int)<t59),E7,E8,E9,Fa,Fb,Fc,Fe)
noncomputable def Ff (C:ag) (count q:Int) (t46:List V) (t47 t48:Int) (t58:List V) (t59 aT ba:Int) (bm bh di numbers mf:List V):(Int × Int × Int × Int × Int × Int × Int × Int)→Option ((Int × Int × Int × Int × Int × Int × Int × Int) ⊕ (Int × Bool × Int × Int × Int × Int × Int × Int × Int)):=un fun t60=>un fun E7=>un fun E8=>un fun E9=>un fun Fa=>un fun Fb=>un fun Fc Fe=>Ab C count q t46 t47 t48 t58 t59 aT ba bm bh di numbers mf t60 E7 E8 E9 Fa Fb Fc Fe (fun y=>some (.inl y)) (fun r=>some (.inr r))
noncomputable def Ac (C:ag) (count:Int) (t46:List V) (t47 aT ba:Int) (bm bh di:List V) (t48:Int) (numbers mf:List V) {β:Type} (kn:(Int × (List V) × (List V))→Option β) (kr:(Int × Bool × (List V) × (List V))→Option β):Option β:=
 bif decide ((t48:Int)<t47) then
  (idx t46 t48).bind fun x9=>
  bif (decide (0≤t48))&&(decide (t48<(di.length:Int))) then
  (di[(t48:Int).toNat]?).bind fun gG=>
  (Loop (Ff C count t48 t46 t47 t48 x9.toList (x9.toList.length:Int) aT ba bm bh di numbers mf) (0,gG.toInt,0,0,0,0,0,0)).bind (un fun (oj:Int)=>un fun (zB:Bool)=>un fun (Ad:Int)=>un fun (Ae:Int)=>un fun (Af:Int)=>un fun (Ag:Int)=>un fun (Ah:Int)=>un fun (Ai:Int) (Aj:Int)=>
   bif (cR .i64 Ad&&(cR .i64 Ae&&(cR .i64 Af&&(cR .i64 Ag&&(cR .i64 Ah&&(cR .i64 Ai&&(cR .i64 Aj&&true)))))))&&true then
    bif !(fu (.agg [.int .i64 Ad,.int .i64 Ae,.int .i64 Af,.int .i64 Ag,.int .i64 Ah,.int .i64 Ai,.int .i64 Aj]) numbers) then
    bif (cR .i64 Ad&&(cR .i64 Ae&&(cR .i64 Af&&(cR .i64 Ag&&(cR .i64 Ah&&(cR .i64 Ai&&(cR .i64 Aj&&true)))))))&&true then
     bif (decide (0≤t48))&&(decide (t48<(mf.length:Int))) then
     (mf[(t48:Int).toNat]?).bind fun x22=>
     kn (IntKind.wrap .i64 (t48+1),eS (.agg [.int .i64 Ad,.int .i64 Ae,.int .i64 Af,.int .i64 Ag,.int .i64 Ah,.int .i64 Ai,.int .i64 Aj]) (.int .i64 (numbers.length:Int)) numbers,mf.set ((t48:Int).toNat) (.int .i64 (numbers.length:Int)))
     else none
    else none
    else
    bif (decide (0≤t48))&&(decide (t48<(mf.length:Int))) then
     (mf[(t48:Int).toNat]?).bind fun ln=>
     kn (IntKind.wrap .i64 (t48+1),numbers,mf.set ((t48:Int).toNat) (.int .i64 ((gL (.agg [.int .i64 Ad,.int .i64 Ae,.int .i64 Af,.int .i64 Ag,.int .i64 Ah,.int .i64 Ai,.int .i64 Aj]) numbers (.int .i64 0)).toInt)))
    else none
   else none)
  else none
 else
  kr (t48,decide ((t48:Int)<t47),numbers,mf)
noncomputable def Fg (C:ag) (count:Int) (t46:List V) (t47 aT ba:Int) (bm bh di:List V):(Int × (List V) × (List V))→Option ((Int × (List V) × (List V)) ⊕ (Int × Bool × (List V) × (List V))):=un fun t48=>un fun numbers mf=>Ac C count t46 t47 aT ba bm bh di t48 numbers mf (fun y=>some (.inl y)) (fun r=>some (.inr r))
noncomputable def Ak (C:ag) (aT ba:Int) (bm bh:List V) (count:Int) (di:List V) {β:Type} (kn:(Int × (List V))→Option β) (kr:(List V)→Option β):Option β:=
 bif (decide (0≤(di.length:Int)))&&((decide ((di.length:Int)≤(di.length:Int)))&&(Nat.ble ((((di.length:Int):Int).toNat)*8) bA)) then
  (Loop (Fg C count bh (bh.length:Int) aT ba bm bh di) (0,([]:List V),List.replicate (((di.length:Int):Int).toNat) (V.int .i64 0))).bind (un fun (aix:Int)=>un fun (K0:Bool)=>un fun (Sy:List V) (Sz:List V)=>
   bif ((Sy.length:Int):Int)==count then
   kr Sz
   else
   kn ((Sy.length:Int),Sz))
 else none
noncomputable def Al (C:ag) (aT ba:Int) (bm bh:List V):(Int × (List V))→Option ((Int × (List V)) ⊕ (List V)):=un fun count di=>Ak C aT ba bm bh count di (fun y=>some (.inl y)) (fun r=>some (.inr r))
noncomputable def SA (C:ag):ch:=fun β n ds k=>
 bif Nat.beq n 81 then bq JL [true,false,false,true,false,false,false,false,true] [[0,2,3,0,0,5,6,7,8,0]] (@Aa C) ds k else
 bif Nat.beq n 273 then bq JM [false,false,false,false,false,false,false,true,false,false,false,false,false,false,false,true,true,true,true,true,true,true] [[1,2,3,4,5,6,7,0,0,9,10,11,12,13,14,15,0,0,0,0,0,0,0]] (@Ab C) ds k else
 bif Nat.beq n 209 then bq JN [false,false,false,true,false,false,false,false,false,true,true] [[1,2,3,0,0,5,6,7,8,9,0,0]] (@Ac C) ds k else
 bif Nat.beq n 161 then bq JO [true,false,false,false,false,true] [[0]] (@Ak C) ds k else
 none
abbrev Fh (C:ag) (b:cd):Prop:=cf Tryd.prog aw C (SA C) 109 (cG Tryd.prog (aw.aU 109)) (aw.sin 109).aZ.length b
theorem acM (C:ag):Fh C (.loop (ar [1,1,1,0,1,0,0] rO)):=
 bu JL [true,false,false,true,false,false,false,false,true] [[0,2,3,0,0,5,6,7,8,0]] (@Aa C) (by kernel_rfl) (aR (bs:=[]) (by kernel_rfl) av) (fun ds=>by kernel_rfl) (fun i x=>by kernel_rfl) (fun i x β k=>by kernel_rfl) (fun β ds k=>by kernel_rfl)
theorem acN (C:ag):Fh C (.loop (ar [1,1,1,1,0,0,0,1,1,0,1,0,0,1,1,0,0,1,1,0,1,0,0] rO)):=
 bu JM [false,false,false,false,false,false,false,true,false,false,false,false,false,false,false,true,true,true,true,true,true,true] [[1,2,3,4,5,6,7,0,0,9,10,11,12,13,14,15,0,0,0,0,0,0,0]] (@Ab C) (by kernel_rfl) (aR (bs:=[]) (by kernel_rfl) av) (fun ds=>by kernel_rfl) (fun i x=>by kernel_rfl) (fun i x β k=>by kernel_rfl) (fun β ds k=>by kernel_rfl)
theorem acO (C:ag):Fh C (.loop (ar [1,1,1,1,0,0,0,1,1,0,1,0,0] rO)):=
 bu JN [false,false,false,true,false,false,false,false,false,true,true] [[1,2,3,0,0,5,6,7,8,9,0,0]] (@Ac C) (by kernel_rfl) (aR (bs:=[.loop (ar [1,1,1,1,0,0,0,1,1,0,1,0,0,1,1,0,0,1,1,0,1,0,0] rO)]) (by kernel_rfl) (bd (acN C) av)) (fun ds=>by kernel_rfl) (fun i x=>by kernel_rfl) (fun i x β k=>by kernel_rfl) (fun β ds k=>by kernel_rfl)
theorem acP (C:ag):Fh C (.loop (ar [1,1,1,1,0,0] rO)):=
 bu JO [true,false,false,false,false,true] [[0]] (@Ak C) (by kernel_rfl) (aR (bs:=[.loop (ar [1,1,1,1,0,0,0,1,1,0,1,0,0] rO)]) (by kernel_rfl) (bd (acO C) av)) (fun ds=>by kernel_rfl) (fun i x=>by kernel_rfl) (fun i x β k=>by kernel_rfl) (fun β ds k=>by kernel_rfl)
noncomputable def SB (C:ag) (aX aY:Int) (aG bc:List V):Option (List V):=
 (C oc [.int .i64 aX,.int .i64 aY,.list ab aG,.list ae bc]).bind fun r1=>
 bif (((V.nth r1 0).toInt):Int) != 0 then
  some [.list ah ([]:List V)]
 else
  bif (decide (0≤(aG.length:Int)))&&((decide ((aG.length:Int)≤(aG.length:Int)))&&(Nat.ble ((((aG.length:Int):Int).toNat)*8) bA)) then
  (Loop (E6 C aG (aG.length:Int) aX aY aG bc) (1,0,List.replicate (((aG.length:Int):Int).toNat) (V.int .i64 0))).bind (un fun (acQ:Int)=>un fun (og:Int)=>un fun (kW:Bool) (acR:List V)=>
   (Loop (Al C aX aY aG bc) (acQ,acR)).bind (fun (acS:List V)=>
    some [.list ah acS]))
  else none
theorem acT {aX aY:Int} {aG bc:List V} {r:Option (List V)} (h:SB CC aX aY aG bc=r):CC Ea [.int .i64 aX,.int .i64 aY,.list ab aG,.list ae bc]=r:=
 bj (key:=109) (L:=SA CC) (bs:=[.loop (ar [1,1,1,0,1,0,0] rO),.loop (ar [1,1,1,1,0,0] rO)]) (by kernel_rfl) (bd (acM CC) (bd (acP CC) av)) (Eq.trans (by kernel_rfl) h)
end Go.AM
set_option maxRecDepth 100000
set_option linter.unusedSimpArgs false
namespace Go.AM
open Go.Proofs
def dB (a:Da) (c:Nat→Nat) (q t j:Nat):Nat:=if j=0 then c q else if j≤t then c (a.nx q (j-1)) else 0
def dw (a:Da) (c:Nat→Nat) (q:Nat):List Nat:=tab 7 (dB a c q a.L)
def Am (s:List Nat):V:= .agg (s.map nV)
theorem SC: ∀s t:List Nat,oK (s.map nV) (t.map nV)=decide (s=t)
 | [],[]=>rfl
 | [],b::t=>rfl
 | a::s,[]=>rfl
 | a::s,b::t=>by
  simp only[List.map_cons,oK]
  rw[SC s t,Bool.eq_iff_iff]
  simp only[nV,qW]
  simp only[Bool.and_eq_true,beq_iff_eq,decide_eq_true_eq,List.cons.injEq]
  exact and_congr (by omega) Iff.rfl
theorem K1 (s t:List Nat):iK (Am s) (Am t)=decide (s=t):=SC s t
theorem K3 {a:Da} (h:a.Ok) {c:Nat→Nat} {q q':Nat}:dw a c q=dw a c q'↔a.sig c q=a.sig c q':=by
 rw[Da.tS]
 have h6:=h.l6
 constructor
 ·intro e
  have g:=fun j (hj:j<7)=>congrArg (fun l:List Nat=>l.getD j 0) e
  unfold dw at g
  refine ⟨?_,fun x hx=> ?_⟩
  ·have:=g 0 (by omega)
   rw[vY (by omega),vY (by omega)] at this
   exact this
  ·have:=g (x+1) (by omega)
   rw[vY (by omega),vY (by omega)] at this
   unfold dB at this
   rwa [if_neg (by omega),if_pos (by omega),if_neg (by omega),if_pos (by omega)] at this
 ·rintro ⟨h1,h2⟩
  refine eh fun j _=> ?_
  unfold dB
  by_cases hj:j=0
  ·rw[if_pos hj,if_pos hj,h1]
  ·rw[if_neg hj,if_neg hj]
   by_cases bU:j≤a.L
   ·rw[if_pos bU,if_pos bU,h2 (j-1) (by omega)]
   ·rw[if_neg bU,if_neg bU]
theorem tW {a:Da} {c:Nat→Nat} {q t:Nat} (j:Nat):(bif Nat.beq (0+(t+1)*1) j then ((c (a.nx q t):Nat):Int) else ((dB a c q t j:Nat):Int))=((dB a c q (t+1) j:Nat):Int):=by
 by_cases hj:t+1=j
 ·rw[show Nat.beq (0+(t+1)*1) j=true from by rw[Nat.beq_eq];omega,cond_true,←hj]
  unfold dB
  rw[if_neg (by omega),if_pos (by omega)]
  rfl
 ·rw[show Nat.beq (0+(t+1)*1) j=false from by rw[←Bool.not_eq_true,Nat.beq_eq];omega,cond_false]
  unfold dB
  by_cases h0:j=0
  ·rw[if_pos h0,if_pos h0]
  ·rw[if_neg h0,if_neg h0]
   by_cases h1:j≤t
   ·rw[if_pos h1,if_pos (by omega)]
   ·rw[if_neg h1,if_neg (by omega)]
def cV (n:Nat) (c:Nat→Nat):List V:=tab n fun q=>nV (c q)
section
variable {a:Da} (h:a.Ok) {c:Nat→Nat}
include h
theorem acU {q:Nat} (hq:q<a.n) {k1 k2 k3 k4 k5 k6:Int} {l1 l2 l3 l4 l5:List V}:
  Loop (Ff CC k1 k2 l1 k3 k4 (tab a.L fun x=>iV (a.nx q x)) ((tab a.L fun x=>iV (a.nx q x)).length:Int) k5 k6 l2 l3 (cV a.n c) l4 l5) (0,(c q:Int),0,0,0,0,0,0)=
   some ((a.L:Int),false,(dB a c q a.L 0:Int),(dB a c q a.L 1:Int),(dB a c q a.L 2:Int),(dB a c q a.L 3:Int),(dB a c q a.L 4:Int),(dB a c q a.L 5:Int),(dB a c q a.L 6:Int)):=by
 have h6:=h.l6
 rw[dA]
 refine (ej a.L (fun t=>((t:Int),(dB a c q t 0:Int),(dB a c q t 1:Int),(dB a c q t 2:Int),(dB a c q t 3:Int),(dB a c q t 4:Int),(dB a c q t 5:Int),(dB a c q t 6:Int))) _ (fun t ht=> ?_) ?_)
 ·simp only[Ff,Ab,un]
  refine bT (dm ht) ?_
  refine bs (ou ht) ?_
  refine (ey (i:=a.nx q t) (h.eO hq ht)).trans ?_
  have w:IntKind.wrap .i64 (1+(t:Int))=((t+1:Nat):Int):=by rw[wrap64 (by omega) (by omega)];omega
  rw[w,cz (by omega),Int.toNat_natCast]
  refine bT (Bool.and_eq_true_iff.2 ⟨decide_eq_true (by omega),decide_eq_true (by omega)⟩) ?_
  refine bT (show Nat.ble (0+(t+1)*1+1) 7=true by rw[Nat.ble_eq];omega) ?_
  show some (Sum.inl _)=some (Sum.inl _)
  refine congrArg (fun x=>some (Sum.inl x)) ?_
  exact Prod.ext rfl (Prod.ext (tW 0) (Prod.ext (tW 1) (Prod.ext (tW 2) (Prod.ext (tW 3) (Prod.ext (tW 4) (Prod.ext (tW 5) (tW 6)))))))
 ·simp only[Ff,Ab,un]
  refine bF (bp (Nat.le_refl _)) ?_
  rw[bp (Nat.le_refl _)]
theorem acV (hc: ∀q,q<a.n→c q≤1000) {q:Nat} (hq:q<a.n) (j:Nat):dB a c q a.L j≤1000:=by
 unfold dB
 split
 ·exact hc q hq
 ·split
  ·exact hc _ (h.eO hq (by omega))
  ·omega
theorem acW (hc: ∀q,q<a.n→c q≤1000) {k1 k2 k3:Int} {l2:List V}:
  Loop (Fg CC k1 a.cD (a.cD.length:Int) k2 k3 l2 a.cD (cV a.n c)) (0,([]:List V),List.replicate ((((cV a.n c).length:Int):Int).toNat) (V.int .i64 0))=
   some ((a.n:Int),false,fC Am 0 (aQ (dw a c) a.n),cV a.n (cl (dw a c) a.n)):=by
 have hm:=h.ew
 have hl:(cV a.n c).length=a.n:=by simp[cV]
 rw[hl,Int.toNat_natCast,mY,Da.R0]
 refine (ej a.n (fun i=>((i:Int),fC Am 0 (aQ (dw a c) i),(tab a.n fun q=>if q<i then nV (cl (dw a c) a.n q) else nV 0))) _ (fun q hq=> ?_) ?_)
 ·have hle:=qw (dw a c) q
  simp only[Fg,Ac,un]
  refine bT (dm hq) ?_
  refine bs (Da.ma hq) ?_
  refine (ey (i:=q) hq).trans ?_
  simp only[m8]
  refine bs (acU h hq) ?_
  have k0:=acV h hc hq
  have kk: ∀j,cR .i64 ((dB a c q a.L j:Nat):Int)=true:=fun j=>ET (by have:=k0 j;omega)
  have SD:((cR .i64 ((dB a c q a.L 0:Nat):Int)&&(cR .i64 ((dB a c q a.L 1:Nat):Int)&&(cR .i64 ((dB a c q a.L 2:Nat):Int)&&(cR .i64 ((dB a c q a.L 3:Nat):Int)&&(cR .i64 ((dB a c q a.L 4:Nat):Int)&&(cR .i64 ((dB a c q a.L 5:Nat):Int)&&(cR .i64 ((dB a c q a.L 6:Nat):Int)&&true)))))))&&true)=true:=by
   simp only[kk,Bool.and_self]
  refine bT SD ?_
  have ek:V.agg [V.int .i64 (dB a c q a.L 0:Int),V.int .i64 (dB a c q a.L 1:Int),V.int .i64 (dB a c q a.L 2:Int),V.int .i64 (dB a c q a.L 3:Int),V.int .i64 (dB a c q a.L 4:Int),V.int .i64 (dB a c q a.L 5:Int),V.int .i64 (dB a c q a.L 6:Int)]=Am (dw a c q):=rfl
  simp only[un,ek]
  have e1:=tP K1 (dw a c q) (aQ (dw a c) q) 0
  have fin: ∀v,v=nV (cl (dw a c) a.n q)→(tab a.n fun j=>if j<q then nV (cl (dw a c) a.n j) else nV 0).set q v=tab a.n fun j=>if j<q+1 then nV (cl (dw a c) a.n j) else nV 0:=by
   rintro v rfl
   rw[mX]
   refine eh fun j _=> ?_
   by_cases hj:j=q
   ·rw[if_pos hj,if_pos (by omega),hj]
   ·rw[if_neg hj]
    by_cases bU:j<q
    ·rw[if_pos bU,if_pos (by omega)]
    ·rw[if_neg bU,if_neg (by omega)]
  rw[cz (by omega)]
  by_cases hx:dw a c q∈aQ (dw a c) q
  ·refine bF (by rw[e1];simpa using hx) ?_
   refine (ey hq).trans ?_
   have e2:=v7 K1 (dw a c q) (.int .i64 0) (aQ (dw a c) q) 0 hx
   rw[Nat.zero_add,←Sp hq hx] at e2
   rw[e2,V.toInt_int,Int.toNat_natCast,show (V.int .i64 (cl (dw a c) a.n q:Int))=nV (cl (dw a c) a.n q) from rfl,fin _ rfl,KW hx]
  ·refine bT (by rw[e1];simpa using hx) ?_
   refine bT SD ?_
   refine (ey hq).trans ?_
   have e2:=v8 K1 (dw a c q) (aQ (dw a c) q) 0 hx
   rw[Nat.zero_add] at e2
   rw[v5,e2,Int.toNat_natCast,←Sq hq hx,show (V.int .i64 (cl (dw a c) a.n q:Int))=nV (cl (dw a c) a.n q) from rfl,fin _ rfl,E1 hx]
 ·simp only[Fg,Ac,un]
  refine bF (bp (Nat.le_refl _)) ?_
  rw[bp (Nat.le_refl _)]
  have:(tab a.n fun q=>if q<a.n then nV (cl (dw a c) a.n q) else nV 0)=cV a.n (cl (dw a c) a.n):=eh fun q hq=>if_pos hq
  rw[this]
def kz (a:Da):Nat→Nat
 | 0=>1
 | i+1=>if a.fin i=a.fin 0 then kz a i else 2
def fe (a:Da) (q:Nat):Nat:=if a.fin q=a.fin 0 then 0 else 1
theorem acX:(aQ (fe a) a.n).length=kz a a.n:=by
 have key: ∀m,(aQ (fe a) (m+1)=[0]∧kz a (m+1)=1)∨(aQ (fe a) (m+1)=[0,1]∧kz a (m+1)=2):=by
  intro m
  induction m with
  | zero=>left;simp[aQ,cN,fe,kz]
  | succ m ih=>
   rw[aQ,kz]
   unfold fe cN
   by_cases hf:a.fin (m+1)=a.fin 0
   ·rw[if_pos hf,if_pos hf]
    rcases ih with ⟨i1,i2⟩|⟨i1,i2⟩
    ·left;refine ⟨?_,i2⟩;unfold fe at i1;rw[i1];rfl
    ·right;refine ⟨?_,i2⟩;unfold fe at i1;rw[i1];rfl
   ·rw[if_neg hf,if_neg hf]
    rcases ih with ⟨i1,i2⟩|⟨i1,i2⟩
    ·right;refine ⟨?_,rfl⟩;unfold fe at i1;rw[i1];rfl
    ·right;refine ⟨?_,rfl⟩;unfold fe at i1;rw[i1];rfl
 have hs:=h.s
 obtain ⟨m,hm⟩: ∃m,a.n=m+1:=⟨a.n-1,by omega⟩
 rw[hm]
 rcases key m with ⟨e1,e2⟩|⟨e1,e2⟩<;>rw[e1,e2]<;>rfl
theorem acY {k2 k3:Int} {l2:List V}:Loop (E6 CC a.cC (a.cC.length:Int) k2 k3 a.cC l2) (1,0,List.replicate ((((a.cC.length:Nat):Int)).toNat) (V.int .i64 0))=some ((kz a a.n:Int),(a.n:Int),false,cV a.n (fe a)):=by
 have hm:=h.ew
 have hs:=h.s
 rw[Da.m7,Int.toNat_natCast,mY]
 refine (ej a.n (fun i=>((kz a i:Int),(i:Int),(tab a.n fun q=>if q<i then nV (fe a q) else nV 0))) _ (fun q hq=> ?_) ?_)
 ·simp only[E6,Aa,un]
  refine bT (dm hq) ?_
  refine bs (Da.rM hq) ?_
  refine bs (a:= .bool (a.fin 0)) (by unfold Da.cC;exact zN (by omega)) ?_
  rw[cz (by omega)]
  have fin:(tab a.n fun j=>if j<q then nV (fe a j) else nV 0).set q (nV (fe a q))=tab a.n fun j=>if j<q+1 then nV (fe a j) else nV 0:=by
   rw[mX]
   refine eh fun j _=> ?_
   by_cases hj:j=q
   ·rw[if_pos hj,if_pos (by omega),hj]
   ·rw[if_neg hj]
    by_cases bU:j<q
    ·rw[if_pos bU,if_pos (by omega)]
    ·rw[if_neg bU,if_neg (by omega)]
  simp only[V.mP]
  by_cases hf:a.fin q=a.fin 0
  ·refine bF (by rw[hf];simp) ?_
   have e:kz a (q+1)=kz a q:=by rw[kz,if_pos hf]
   have e2:(tab a.n fun j=>if j<q then nV (fe a j) else nV 0)=tab a.n fun j=>if j<q+1 then nV (fe a j) else nV 0:=eh fun j _=>by
    by_cases hj:j=q
    ·rw[if_neg (by omega),if_pos (by omega),hj];unfold fe;rw[if_pos hf]
    ·by_cases bU:j<q
     ·rw[if_pos bU,if_pos (by omega)]
     ·rw[if_neg bU,if_neg (by omega)]
   rw[e,e2]
  ·refine bT (by simpa using hf) ?_
   refine (ey hq).trans ?_
   have e:kz a (q+1)=2:=by rw[kz,if_neg hf]
   have e3:fe a q=1:=by unfold fe;rw[if_neg hf]
   rw[e3] at fin
   rw[e,Int.toNat_natCast,show (V.int .i64 1)=nV 1 from rfl,fin];rfl
 ·simp only[E6,Aa,un]
  refine bF (bp (Nat.le_refl _)) ?_
  rw[bp (Nat.le_refl _)]
  have:(tab a.n fun q=>if q<a.n then nV (fe a q) else nV 0)=cV a.n (fe a):=eh fun q hq=>if_pos hq
  rw[this]
theorem acZ {k2 k3:Int} {l2:List V}: ∃p,Loop (Al CC k2 k3 l2 a.cD) ((kz a a.n:Int),cV a.n (fe a))=some (cV a.n p)∧a.tT p∧∀q,q<a.n→p q≤1000:=by
 have hm:=h.ew
 have:=P8 (step:=Al CC k2 k3 l2 a.cD)
  (fun x=> ∃c,x=(((aQ c a.n).length:Int),cV a.n c)∧a.Part c∧∀q,q<a.n→c q≤1000)
  (fun x=>a.n-x.1.toNat)
  (fun r=> ∃p,r=cV a.n p∧a.tT p∧∀q,q<a.n→p q≤1000) (fun x hx=> ?_) ((kz a a.n:Int),cV a.n (fe a)) ⟨fe a,by rw[acX h],⟨?_,?_⟩,?_⟩
 ·obtain ⟨r,h1,p,rfl,h2,h3⟩:=this
  exact ⟨p,h1,h2,h3⟩
 ·obtain ⟨c,rfl,hp,hc⟩:=hx
  have hl:(cV a.n c).length=a.n:=by simp[cV]
  have na:a.E2 c (cl (dw a c) a.n):=fun q q' hq bY=>(z7 hq bY).trans (K3 h)
  have hle:=qw (dw a c) a.n
  have hb: ∀q,q<a.n→cl (dw a c) a.n q≤1000:=fun q hq=>by have:=z6 (g:=dw a c) hq;omega
  have tX: ∀q q',q<a.n→q'<a.n→dw a c q=dw a c q'→c q=c q':=fun q q' hq bY e=>(Da.tS.1 ((K3 h).1 e)).1
  have ac0:=Ss tX
  have cr:=acW h hc (k1:=((aQ c a.n).length:Int)) (k2:=k2) (k3:=k3) (l2:=l2)
  by_cases he:(aQ (dw a c) a.n).length=(aQ c a.n).length
  ·right
   refine ⟨_,?_,cl (dw a c) a.n,rfl,⟨fun q q' hq bY=> ?_,KX _ _⟩,hb⟩
   ·simp only[Al,Ak,un]
    refine bT (by rw[hl];exact lZ (by omega) (by omega)) ?_
    refine bs cr ?_
    refine bT (by rw[v5];simp[he]) ?_
    rfl
   ·have bJ:=KY tX (by omega)
    rw[z7 hq bY,←hp.Su h (fun s s' hs rv e=>(K3 h).1 (bJ s s' hs rv e)) q q' hq bY]
    exact ⟨tX q q' hq bY,bJ q q' hq bY⟩
  ·left
   have e2:(aQ (cl (dw a c) a.n) a.n).length=(aQ (dw a c) a.n).length:=by rw[Sr _ _ _ (Nat.le_refl _),List.length_range]
   refine ⟨(((aQ (dw a c) a.n).length:Int),cV a.n (cl (dw a c) a.n)),?_,⟨cl (dw a c) a.n,by rw[e2],na.part h hp,hb⟩,?_⟩
   ·simp only[Al,Ak,un]
    refine bT (by rw[hl];exact lZ (by omega) (by omega)) ?_
    refine bs cr ?_
    refine bF (by rw[v5];simpa using fun e=>he (by omega)) ?_
    rw[v5]
   ·simp only[Int.toNat_natCast]
    omega
 ·intro q q' hq bY he
  have:=he [] WL.nil
  rw[Da.mW,Da.mW] at this
  unfold fe;rw[this]
 ·intro q q' hq bY he
  unfold fe at he
  split at he<;>split at he
  ·rename_i h1 h2;rw[h1,h2]
  ·omega
  ·omega
  ·rename_i h1 h2
   revert h1 h2
   cases a.fin q<;>cases a.fin q'<;>cases a.fin 0<;>simp
 ·intro q _
  unfold fe;split<;>omega
theorem ac1: ∃p,CC Ea (dv a)=some [.list ah (cV a.n p)]∧a.tT p∧∀q,q<a.n→p q≤1000:=by
 have hm:=h.ew
 obtain ⟨p,h1,h2,h3⟩:=acZ h (k2:=(a.L:Int)) (k3:=(a.st:Int)) (l2:=a.cC)
 refine ⟨p,acT ?_,h2,h3⟩
 unfold SB
 refine bs (tO h) ?_
 refine bF rfl ?_
 refine bT (by rw[Da.m7];exact lZ (by omega) (by omega)) ?_
 refine bs (acY h) ?_
 refine bs h1 ?_
 rfl
end
end Go.AM
set_option maxRecDepth 100000
namespace Go.AM
open Go.Proofs
noncomputable abbrev wi:Code:=cx Tryd.prog (aw.aU 86)
noncomputable def An (C:ag) (q t29 t30:Int) (t47:List V) (t48 aT ba:Int) (bm bh:List V) (bO bP wj wk:Int) (places di:List V) (wm wo:Int) (bx bC cw dR e7 kA:List V) (t49:Int) (rows:List V) {β:Type} (kn:(Int × (List V))→Option β) (kr:(Int × Bool × (List V))→Option β):Option β:=
 bif decide ((t49:Int)<t48) then
  (idx t47 t49).bind fun x5=>
  bif (decide (0≤x5.toInt))&&(decide (x5.toInt<(di.length:Int))) then
  (di[(x5.toInt:Int).toNat]?).bind fun x6=>
  bif (decide (0≤t49))&&(decide (t49<(rows.length:Int))) then
   (rows[(t49:Int).toNat]?).bind fun x7=>
   kn (IntKind.wrap .i64 (t49+1),rows.set ((t49:Int).toNat) (.int .i64 x6.toInt))
  else none
  else none
 else
  kr (t49,decide ((t49:Int)<t48),rows)
noncomputable def Fi (C:ag) (q t29 t30:Int) (t47:List V) (t48 aT ba:Int) (bm bh:List V) (bO bP wj wk:Int) (places di:List V) (wm wo:Int) (bx bC cw dR e7 kA:List V):(Int × (List V))→Option ((Int × (List V)) ⊕ (Int × Bool × (List V))):=un fun t49 rows=>An C q t29 t30 t47 t48 aT ba bm bh bO bP wj wk places di wm wo bx bC cw dR e7 kA t49 rows (fun y=>some (.inl y)) (fun r=>some (.inr r))
noncomputable def Ao (C:ag) (t29 aT ba:Int) (bm bh:List V) (bO bP wj wk:Int) (places di:List V) (wm wo:Int) (bB bx bC cw:List V) (t30:Int) (dR e7:List V) {β:Type} (kn:(Int × (List V) × (List V))→Option β) (kr:(Int × Bool × (List V) × (List V))→Option β):Option β:=
 bif decide ((t30:Int)<t29) then
  bif (decide (0≤t30))&&(decide (t30<(di.length:Int))) then
  (di[(t30:Int).toNat]?).bind fun x3=>
  bif decide ((x3.toInt:Int)<(dR.length:Int)) then
   kn (IntKind.wrap .i64 (t30+1),dR,e7)
  else
   bif (decide (0≤aT))&&((decide (aT≤aT))&&(Nat.ble (((aT:Int).toNat)*8) bA)) then
   bif (decide (0≤t30))&&(decide (t30<(cw.length:Int))) then
    (cw[(t30:Int).toNat]?).bind fun x4=>
    (Loop (Fi C t30 t29 t30 x4.toList (x4.toList.length:Int) aT ba bm bh bO bP wj wk places di wm wo bB bx bC cw dR e7) (0,List.replicate ((aT:Int).toNat) (V.int .i64 0))).bind (un fun (mU:Int)=>un fun (pf:Bool) (SE:List V)=>
     bif (decide (0≤t30))&&(decide (t30<(bC.length:Int))) then
     (bC[(t30:Int).toNat]?).bind fun eY=>
     bif Nat.ble ((dR.length+([.bool eY.toBool]:List V).length)*1) bA then
      bif Nat.ble ((e7.length+([.list ah SE]:List V).length)*24) bA then
      kn (IntKind.wrap .i64 (t30+1),dR++([.bool eY.toBool]:List V),e7++([.list ah SE]:List V))
      else none
     else none
     else none)
   else none
   else none
  else none
 else
  kr (t30,decide ((t30:Int)<t29),dR,e7)
noncomputable def Fj (C:ag) (t29 aT ba:Int) (bm bh:List V) (bO bP wj wk:Int) (places di:List V) (wm wo:Int) (bB bx bC cw:List V):(Int × (List V) × (List V))→Option ((Int × (List V) × (List V)) ⊕ (Int × Bool × (List V) × (List V))):=un fun t30=>un fun dR e7=>Ao C t29 aT ba bm bh bO bP wj wk places di wm wo bB bx bC cw t30 dR e7 (fun y=>some (.inl y)) (fun r=>some (.inr r))
noncomputable def Ap (C:ag) (t88 bO bP:Int) (di:List V) (hG hO:Int) (numbers Fk bB bx bC cw:List V) (t89:Int) (dH:List V) {β:Type} (kn:(Int × (List V))→Option β) (kr:(Int × Bool × (List V))→Option β):Option β:=
 bif decide ((t89:Int)<t88) then
  bif (decide (0≤t89))&&(decide (t89<(Fk.length:Int))) then
  (Fk[(t89:Int).toNat]?).bind fun pk=>
  bif (decide (0≤t89))&&(decide (t89<(dH.length:Int))) then
   (dH[(t89:Int).toNat]?).bind fun rP=>
   bif decide ((pk.toInt:Int)≥0) then
   bif (decide (0≤pk.toInt))&&(decide (pk.toInt<(di.length:Int))) then
    (di[(pk.toInt:Int).toNat]?).bind fun lp=>
    bif (decide (0≤lp.toInt))&&(decide (lp.toInt<(numbers.length:Int))) then
    (numbers[(lp.toInt:Int).toNat]?).bind fun qy=>
    bif (decide (0≤t89))&&(decide (t89<((dH.set ((t89:Int).toNat) (.int .i64 (-1))).length:Int))) then
     ((dH.set ((t89:Int).toNat) (.int .i64 (-1)))[(t89:Int).toNat]?).bind fun Aq=>
     kn (IntKind.wrap .i64 (t89+1),(dH.set ((t89:Int).toNat) (.int .i64 (-1))).set ((t89:Int).toNat) (.int .i64 qy.toInt))
    else none
    else none
   else none
   else
   kn (IntKind.wrap .i64 (t89+1),dH.set ((t89:Int).toNat) (.int .i64 (-1)))
  else none
  else none
 else
  kr (t89,decide ((t89:Int)<t88),dH)
noncomputable def Fl (C:ag) (t88 bO bP:Int) (di:List V) (hG hO:Int) (numbers Fk bB bx bC cw:List V):(Int × (List V))→Option ((Int × (List V)) ⊕ (Int × Bool × (List V))):=un fun t89 dH=>Ap C t88 bO bP di hG hO numbers Fk bB bx bC cw t89 dH (fun y=>some (.inl y)) (fun r=>some (.inr r))
noncomputable def SF (C:ag):ch:=fun β n ds k=>
 bif Nat.beq n 161 then bq Jr [false,false,false,false,false,true,false,false,false,false,false,false,false,false,false,false,false,false,true,false,false,false,false,false,false] [[1,2,3,4,5,0,0,7,8,9,10,11,12,13,14,15,16,17,18,0,20,21,22,23,24,25]] (@An C) ds k else
 bif Nat.beq n 81 then bq Js [false,true,false,false,false,false,false,false,false,false,false,false,false,false,false,false,false,false,true,true] [[1,0,0,3,4,5,6,7,8,9,10,11,12,13,14,15,16,17,18,0,0]] (@Ao C) ds k else
 bif Nat.beq n 321 then bq Jt [false,true,false,false,false,false,false,false,true,false,false,false,false,false] [[1,0,0,3,4,5,6,7,8,0,10,11,12,13,14]] (@Ap C) ds k else
 none
abbrev K4 (C:ag) (b:cd):Prop:=cf Tryd.prog aw C (SF C) 86 (cG Tryd.prog (aw.aU 86)) (aw.sin 86).aZ.length b
theorem ac2 (C:ag):K4 C (.loop (ar [1,1,1,1,0,1,0,0,1,1,0,0,1,1,1,0,1,0,0] wi)):=
 bu Jr [false,false,false,false,false,true,false,false,false,false,false,false,false,false,false,false,false,false,true,false,false,false,false,false,false] [[1,2,3,4,5,0,0,7,8,9,10,11,12,13,14,15,16,17,18,0,20,21,22,23,24,25]] (@An C) (by kernel_rfl) (aR (bs:=[]) (by kernel_rfl) av) (fun ds=>by kernel_rfl) (fun i x=>by kernel_rfl) (fun i x β k=>by kernel_rfl) (fun β ds k=>by kernel_rfl)
theorem ac3 (C:ag):K4 C (.loop (ar [1,1,1,1,0,1,0,0] wi)):=
 bu Js [false,true,false,false,false,false,false,false,false,false,false,false,false,false,false,false,false,false,true,true] [[1,0,0,3,4,5,6,7,8,9,10,11,12,13,14,15,16,17,18,0,0]] (@Ao C) (by kernel_rfl) (aR (bs:=[.loop (ar [1,1,1,1,0,1,0,0,1,1,0,0,1,1,1,0,1,0,0] wi)]) (by kernel_rfl) (bd (ac2 C) av)) (fun ds=>by kernel_rfl) (fun i x=>by kernel_rfl) (fun i x β k=>by kernel_rfl) (fun β ds k=>by kernel_rfl)
theorem ac4 (C:ag):K4 C (.loop (ar [1,1,1,1,1,1,1,0,1,0,0] wi)):=
 bu Jt [false,true,false,false,false,false,false,false,true,false,false,false,false,false] [[1,0,0,3,4,5,6,7,8,0,10,11,12,13,14]] (@Ap C) (by kernel_rfl) (aR (bs:=[]) (by kernel_rfl) av) (fun ds=>by kernel_rfl) (fun i x=>by kernel_rfl) (fun i x β k=>by kernel_rfl) (fun β ds k=>by kernel_rfl)
noncomputable def SG (C:ag) (aX aY:Int) (aG bc:List V):Option (List V):=
 (C vR [.int .i64 aX,.int .i64 aY,.list ab aG,.list ae bc]).bind fun r1=>
 (C Ea [.int .i64 ((V.nth r1 0).toInt),.int .i64 ((V.nth (r1.drop 1) 0).toInt),.list ab ((V.nth (r1.drop 2) 0).toList),.list ae ((V.nth ((r1.drop 2).drop 1) 0).toList)]).bind fun r2=>
 (Loop (Fj C (((V.nth r2 0).toList).length:Int) aX aY aG bc 0 0 ((V.nth r1 0).toInt) ((V.nth (r1.drop 1) 0).toInt) ((V.nth (((r1.drop 2).drop 1).drop 1) 0).toList) ((V.nth r2 0).toList) aX 0 ([]:List V) ([]:List V) ((V.nth (r1.drop 2) 0).toList) ((V.nth ((r1.drop 2).drop 1) 0).toList)) (0,([]:List V),([]:List V))).bind (un fun (wq:Int)=>un fun (oj:Bool)=>un fun (tQ:List V) (tI:List V)=>
  (C vR [.int .i64 aX,.int .i64 0,.list ab tQ,.list ae tI]).bind fun ju=>
  bif (decide (0≤(((V.nth (((r1.drop 2).drop 1).drop 1) 0).toList).length:Int)))&&((decide ((((V.nth (((r1.drop 2).drop 1).drop 1) 0).toList).length:Int)≤(((V.nth (((r1.drop 2).drop 1).drop 1) 0).toList).length:Int)))&&(Nat.ble ((((((V.nth (((r1.drop 2).drop 1).drop 1) 0).toList).length:Int):Int).toNat)*8) bA)) then
   (Loop (Fl C (((V.nth (((r1.drop 2).drop 1).drop 1) 0).toList).length:Int) 0 0 ((V.nth r2 0).toList) ((V.nth ju 0).toInt) ((V.nth (ju.drop 1) 0).toInt) ((V.nth (((ju.drop 2).drop 1).drop 1) 0).toList) ((V.nth (((r1.drop 2).drop 1).drop 1) 0).toList) ([]:List V) ([]:List V) ((V.nth (ju.drop 2) 0).toList) ((V.nth ((ju.drop 2).drop 1) 0).toList)) (0,List.replicate (((((V.nth (((r1.drop 2).drop 1).drop 1) 0).toList).length:Int):Int).toNat) (V.int .i64 0))).bind (un fun (ac5:Int)=>un fun (SH:Bool) (ac6:List V)=>
    some [.int .i64 ((V.nth ju 0).toInt),.int .i64 ((V.nth (ju.drop 1) 0).toInt),.list ab ((V.nth (ju.drop 2) 0).toList),.list ae ((V.nth ((ju.drop 2).drop 1) 0).toList),.list ah ac6])
  else none)
theorem ac7 {aX aY:Int} {aG bc:List V} {r:Option (List V)} (h:SG CC aX aY aG bc=r):CC D0 [.int .i64 aX,.int .i64 aY,.list ab aG,.list ae bc]=r:=
 bj (key:=86) (L:=SF CC) (bs:=[.loop (ar [1,1,1,1,0,1,0,0] wi),.loop (ar [1,1,1,1,1,1,1,0,1,0,0] wi)]) (by kernel_rfl) (bd (ac3 CC) (bd (ac4 CC) av)) (Eq.trans (by kernel_rfl) h)
end Go.AM
set_option maxRecDepth 100000
namespace Go.AM
open Go.Proofs
noncomputable def SI (C:ag) (aX aY:Int) (aG bc:List V):Option (List V):=
 (C oc [.int .i64 aX,.int .i64 aY,.list ab aG,.list ae bc]).bind fun r1=>
 bif (((V.nth r1 0).toInt):Int) != 0 then
  some [.int .i64 0,.int .i64 0,.list ab ([]:List V),.list ae ([]:List V)]
 else
  (C D0 [.int .i64 aX,.int .i64 aY,.list ab aG,.list ae bc]).bind fun r2=>
  some [.int .i64 ((V.nth r2 0).toInt),.int .i64 ((V.nth (r2.drop 1) 0).toInt),.list ab ((V.nth (r2.drop 2) 0).toList),.list ae ((V.nth ((r2.drop 2).drop 1) 0).toList)]
theorem ac8 {aX aY:Int} {aG bc:List V} {r:Option (List V)} (h:SI CC aX aY aG bc=r):CC rF [.int .i64 aX,.int .i64 aY,.list ab aG,.list ae bc]=r:=
 bj (key:=54) (L:=cT) (bs:=[]) (by kernel_rfl) av (Eq.trans (by kernel_rfl) h)
end Go.AM
set_option maxRecDepth 100000
set_option linter.unusedSimpArgs false
namespace Go.AM
open Go.Proofs
theorem ac9 {p:Nat→Nat} {n:Nat} (h:m9 p n) (hn:0<n):p 0=0:=by
 simpa[aQ,cN] using h 1 (by omega)
theorem K5 {p:Nat→Nat} {n i:Nat} (h:m9 p n) (hi:i<n):p i∈aQ p i↔p i<(Da.dE p i).length:=by
 rw[Da.wg]
 constructor
 ·intro hm
  rw[h i (by omega)] at hm
  simpa using hm
 ·intro hm
  rw[h i (by omega)]
  simpa using hm
theorem K6 (p:Nat→Nat) (n:Nat):(Da.dE p n).length≤n:=by rw[Da.wg];exact qw p n
def qF (a:Da) (p:Nat→Nat) (i:Nat):List V:=(Da.dE p i).map fun r=>V.bool (a.fin r)
def qN (a:Da) (p:Nat→Nat) (i:Nat):List V:=(Da.dE p i).map fun r=>fo a.L fun x=>p (a.nx r x)
theorem SJ {a:Da} {p:Nat→Nat}:(a.quo p).cC=qF a p a.n∧(a.quo p).cD=qN a p a.n:=by
 constructor
 ·unfold Da.cC qF
  rw[zO _ 0,Da.qx]
  exact eh fun i hi=>by rw[Da.Sv hi,fN hi]
 ·unfold Da.cD qN
  rw[zO _ 0,Da.qx]
  refine eh fun i hi=> ?_
  unfold fo
  exact congrArg _ (eh fun x hx=>by rw[Da.Sw hi hx,fN hi])
section
variable {a:Da} (h:a.Ok) {p:Nat→Nat}
include h
theorem ada {q:Nat} (hq:q<a.n) {k1 k2 k3 k4 k5 k6 k7 k8 k9 K7 k11:Int} {l1 l2 l3 l4 l5 l6 l7 l8 l9:List V}:
  Loop (Fi CC k1 k2 k3 (tab a.L fun x=>iV (a.nx q x)) ((tab a.L fun x=>iV (a.nx q x)).length:Int) k4 k5 l1 l2 k6 k7 k8 k9 l3 (cV a.n p) K7 k11 l4 l5 l6 l7 l8 l9) (0,List.replicate (((a.L:Nat):Int).toNat) (V.int .i64 0))=
   some ((a.L:Int),false,(tab a.L fun x=>nV (p (a.nx q x)))):=by
 have h6:=h.l6
 rw[dA,Int.toNat_natCast,mY]
 refine (ej a.L (fun t=>((t:Int),(tab a.L fun x=>if x<t then nV (p (a.nx q x)) else nV 0))) _ (fun t ht=> ?_) ?_)
 ·simp only[Fi,An,un]
  refine bT (dm ht) ?_
  refine bs (ou ht) ?_
  refine (ey (i:=a.nx q t) (h.eO hq ht)).trans ?_
  refine (ey ht).trans ?_
  rw[cz (by omega),Int.toNat_natCast,mX]
  refine congrArg (fun x=>some (Sum.inl (((t+1:Nat):Int),x))) (eh fun j _=> ?_)
  by_cases hj:j=t
  ·rw[if_pos hj,if_pos (by omega),hj];rfl
  ·rw[if_neg hj]
   by_cases bU:j<t
   ·rw[if_pos bU,if_pos (by omega)]
   ·rw[if_neg bU,if_neg (by omega)]
 ·simp only[Fi,An,un]
  refine bF (bp (Nat.le_refl _)) ?_
  rw[bp (Nat.le_refl _)]
  refine congrArg (fun x=>some (Sum.inr ((a.L:Int),false,x))) (eh fun j hj=>if_pos hj)
theorem adb (ho:m9 p a.n) {k3 k4 k5 k6 k7 k8 k9:Int} {l1 l2 l3 l4 l5:List V}:
  Loop (Fj CC ((cV a.n p).length:Int) (a.L:Int) k3 l1 l2 k4 k5 k6 k7 l3 (cV a.n p) k8 k9 l4 l5 a.cC a.cD) (0,([]:List V),([]:List V))=
   some ((a.n:Int),false,qF a p a.n,qN a p a.n):=by
 have h6:=h.l6
 have hm:=h.ew
 rw[show (cV a.n p).length=a.n by simp[cV]]
 refine (ej a.n (fun i=>((i:Int),qF a p i,qN a p i)) _ (fun q hq=> ?_) ?_)
 ·have hle:=K6 p q
  have hF:(qF a p q).length=(Da.dE p q).length:=by simp[qF]
  have hN:(qN a p q).length=(Da.dE p q).length:=by simp[qN]
  simp only[Fj,Ao,un]
  refine bT (dm hq) ?_
  refine (ey (i:=q) hq).trans ?_
  rw[cz (by omega)]
  simp only[nV,V.toInt_int]
  by_cases hx:p q∈aQ p q
  ·refine bT (decide_eq_true (by rw[hF];have:=(K5 ho hq).1 hx;omega)) ?_
   unfold qF qN
   rw[Da.dE,if_pos hx]
  ·refine bF (decide_eq_false (by rw[hF];intro h2;exact hx ((K5 ho hq).2 (by omega)))) ?_
   refine bT (lZ (by omega) (by omega)) ?_
   refine (ey (i:=q) hq).trans ?_
   simp only[m8]
   refine bs (ada h hq) ?_
   refine (ey (i:=q) hq).trans ?_
   refine bT (cap (by rw[hF];simp;omega) (by omega)) ?_
   refine bT (cap (by rw[hN];simp;omega) (by omega)) ?_
   unfold qF qN
   rw[Da.dE,if_neg hx,List.map_append,List.map_append]
   rfl
 ·simp only[Fj,Ao,un]
  refine bF (bp (Nat.le_refl _)) ?_
  rw[bp (Nat.le_refl _)]
end
def qz (U U':List Nat) (p:Nat→Nat) (q:Nat):V:=if q∈U then iV ((if p (U.idxOf q)∈U' then nV (U'.idxOf (p (U.idxOf q))) else V.int .i64 (-1)).toInt) else V.int .i64 (-1)
theorem ade {n m k:Nat} {U U':List Nat} {p:Nat→Nat} (hn:n≤512) (hU:U.length≤m) (hp: ∀q,q<m→p q<k) {k1 k2 k3 k4:Int} {l1 l2 l3 l4:List V}:
  ∃X,Loop (Fl CC ((iG U n).length:Int) k1 k2 (cV m p) k3 k4 (iG U' k) (iG U n) l1 l2 l3 l4) (0,List.replicate ((((iG U n).length:Int):Int).toNat) (V.int .i64 0))=some ((n:Int),false,X):=by
 rw[show (iG U n).length=n by simp[iG],Int.toNat_natCast,mY]
 refine ⟨tab n fun q=>if q<n then qz U U' p q else V.int .i64 0,ej n (fun i=>((i:Int),(tab n fun q=>if q<i then qz U U' p q else V.int .i64 0))) _ (fun q hq=> ?_) ?_⟩
 ·simp only[Fl,Ap,un]
  refine bT (dm hq) ?_
  refine (ey (i:=q) hq).trans ?_
  refine (ey (i:=q) hq).trans ?_
  rw[cz (by omega)]
  have fin: ∀v,v=qz U U' p q→((tab n fun j=>if j<q then qz U U' p j else V.int .i64 0).set q v)=tab n fun j=>if j<q+1 then qz U U' p j else V.int .i64 0:=by
   rintro v rfl
   rw[mX]
   refine eh fun j _=> ?_
   by_cases hj:j=q
   ·rw[if_pos hj,if_pos (show j<q+1 by omega),hj]
   ·rw[if_neg hj]
    by_cases bU:j<q
    ·rw[if_pos bU,if_pos (show j<q+1 by omega)]
    ·rw[if_neg bU,if_neg (show¬j<q+1 by omega)]
  by_cases hx:q∈U
  ·have es:qz U U' p q=iV ((if p (U.idxOf q)∈U' then nV (U'.idxOf (p (U.idxOf q))) else V.int .i64 (-1)).toInt):=by unfold qz;rw[if_pos hx]
   have hi:=List.idxOf_lt_length_of_mem hx
   rw[if_pos hx]
   refine bT (decide_eq_true (by simp only[nV,V.toInt_int];omega)) ?_
   simp only[nV,V.toInt_int]
   refine (ey (i:=U.idxOf q) (by omega)).trans ?_
   simp only[nV,V.toInt_int]
   refine (ey (i:=p (U.idxOf q)) (hp _ (by omega))).trans ?_
   refine bT (by rw[List.length_set,dA];exact KP hq) ?_
   refine bs (a:= .int .i64 (-1)) (by rw[Int.toNat_natCast,List.getElem?_set];simp[hq]) ?_
   rw[Int.toNat_natCast,List.set_set,←fin _ es.symm]
  ·rw[if_neg hx]
   refine bF (decide_eq_false (by simp)) ?_
   rw[Int.toNat_natCast,←fin _ (show V.int .i64 (-1)=qz U U' p q by unfold qz;rw[if_neg hx])]
 ·simp only[Fl,Ap,un]
  refine bF (bp (Nat.le_refl _)) ?_
  rw[bp (Nat.le_refl _)]
theorem Canon.congr {m:Da} {L:Nat} {K K':List Nat→Bool} (h:m.Canon L K) (e: ∀w,WL L w→K w=K' w):m.Canon L K':=⟨h.ok,h.hL,h.st,h.num,h.red,fun w hw=>(h.lf w hw).trans (e w hw)⟩
theorem adf {a:Da} (h:a.Ok): ∃m X,CC D0 (dv a)=some (dv m++[.list ah X])∧m.Canon a.L (a.acc a.st):=by
 have ht:=h.RD
 have hm:=h.ew
 have hle:=h.lW a.n
 have e3:a.trim.n=(aq a.L a.nx a.st a.n).length:=kp
 obtain ⟨p,c1,c2,c3⟩:=ac1 ht
 have hq:=Da.E4 ht c2
 obtain ⟨q1,q2⟩:=SJ (a:=a.trim) (p:=p)
 have adg:=Da.KZ ht c2
 have bJ:(a.trim.quo p).st=0:=ac9 c2.2 ht.s
 have vm:=So hq
 obtain ⟨X,hX⟩:=ade (n:=a.n) (m:=a.trim.n) (k:=(a.trim.quo p).n) (U:=aq a.L a.nx a.st a.n) (U':=aq (a.trim.quo p).L (a.trim.quo p).nx (a.trim.quo p).st (a.trim.quo p).n) (p:=p) hm (by omega) (fun q hq=>by rw[Da.qx];exact Da.z9 c2.2 hq) (k1:=0) (k2:=0) (k3:=((a.trim.quo p).trim.L:Int)) (k4:=((a.trim.quo p).trim.st:Int)) (l1:=[]) (l2:=[]) (l3:=(a.trim.quo p).trim.cC) (l4:=(a.trim.quo p).trim.cD)
 refine ⟨(a.trim.quo p).trim,X,ac7 ?_,Canon.congr adg fun w hw=>h.RE hw⟩
 unfold SG
 refine bs (So h) ?_
 refine bs c1 ?_
 refine bs (adb ht c2.2) ?_
 simp only[un]
 rw[←q1,←q2]
 have adh:CC vR [.int .i64 (a.L:Int),.int .i64 0,.list ab (a.trim.quo p).cC,.list ae (a.trim.quo p).cD]=some (dv (a.trim.quo p).trim++[.list ah (iG (aq (a.trim.quo p).L (a.trim.quo p).nx (a.trim.quo p).st (a.trim.quo p).n) (a.trim.quo p).n)]):=by
  rw[←vm]
  unfold dv iF
  rw[bJ];rfl
 refine bs adh ?_
 have e0:(iG (aq a.L a.nx a.st a.n) a.n).length=a.n:=by simp[iG]
 refine bT (show ((decide (0≤((iG (aq a.L a.nx a.st a.n) a.n).length:Int)))&&((decide (((iG (aq a.L a.nx a.st a.n) a.n).length:Int)≤((iG (aq a.L a.nx a.st a.n) a.n).length:Int)))&&(Nat.ble (((((iG (aq a.L a.nx a.st a.n) a.n).length:Nat):Int).toNat)*8) bA)))=true from lZ (by rw[e0];omega) (by omega)) ?_
 refine bs hX ?_
 rfl
theorem SK {a:Da} (h:a.Ok): ∃m,CC rF (dv a)=some (dv m)∧m.Canon a.L (a.acc a.st):=by
 obtain ⟨m,X,h1,h2⟩:=adf h
 refine ⟨m,ac8 ?_,h2⟩
 unfold SI
 refine bs (tO h) ?_
 refine bF rfl ?_
 refine bs h1 ?_
 rfl
open Classical in
noncomputable def minD (a:Da):Da:=if h: ∃m:Da,m.Canon a.L (a.acc a.st) then Classical.choose h else a
theorem wu {a:Da} (h:a.Ok):(minD a).Canon a.L (a.acc a.st):=by
 obtain ⟨m,_,h2⟩:=SK h
 have: ∃m:Da,m.Canon a.L (a.acc a.st):=⟨m,h2⟩
 unfold minD
 rw[dif_pos this]
 exact Classical.choose_spec this
theorem wv {a m:Da} (h:a.Ok) (hm:m.Canon a.L (a.acc a.st)):m=minD a:=hm.eq (wu h)
theorem Fm {a:Da} (h:a.Ok):CC rF (dv a)=some (dv (minD a)):=by
 obtain ⟨m,h1,h2⟩:=SK h
 rw[h1,wv h h2]
end Go.AM
set_option maxRecDepth 100000
set_option linter.unusedSimpArgs false
namespace Go.AM
section
variable {α:Type} [DecidableEq α] {L:Nat} {next:α→Nat→α} {a0:α}
theorem SM (S:List α) (a:α): ∀x,(aW next S a x).length≤S.length+x
 | 0=>Nat.le_refl _
 | x+1=>by
  have:=SM S a x
  rw[aW,oo]
  split<;>omega
theorem adi {m:Nat} (h:(aq L next a0 m).length≤m) (i:Nat):(aq L next a0 i).length≤m:=by
 rcases Nat.lt_or_ge m i with c|c
 ·rw[zE h (by omega)];exact h
 ·exact Nat.le_trans (jT c).length_le h
theorem SN {k:Nat} (hd:(aq L next a0 k).length≤k) (i:Nat):(aq L next a0 i).length≤(aq L next a0 k).length:=by
 rcases Nat.lt_or_ge k i with c|c
 ·rw[zE hd (by omega)];exact Nat.le_refl _
 ·exact (jT c).length_le
theorem SO {k m:Nat} (h:m<(aq L next a0 k).length):m<(aq L next a0 m).length:=by
 rcases Nat.lt_or_ge m (aq L next a0 m).length with c|c
 ·exact c
 ·have:=adi c k
  omega
theorem SP {m:Nat} (h:m<(aq L next a0 m).length) (hm:1≤m): ∃i,i<m∧(∀j,j≤i→j<(aq L next a0 j).length∧(aq L next a0 j).length≤m)∧m<(aq L next a0 (i+1)).length:=by
 have key: ∀d k,k+d=m→(∀j,j≤k→(aq L next a0 j).length≤m)→∃i,i<m∧(∀j,j≤i→j<(aq L next a0 j).length∧(aq L next a0 j).length≤m)∧m<(aq L next a0 (i+1)).length:=by
  intro d
  induction d with
  | zero=>
   intro k hk hj
   have:=hj k (Nat.le_refl _)
   rw[show k=m by omega] at this
   omega
  | succ d ih=>
   intro k hk hj
   rcases Nat.lt_or_ge m (aq L next a0 (k+1)).length with c|c
   ·refine ⟨k,by omega,fun j SQ=>⟨?_,hj j SQ⟩,c⟩
    rcases Nat.lt_or_ge j (aq L next a0 j).length with c1|c1
    ·exact c1
    ·have h1:=hj j SQ
     rw[←zE c1 (show j≤m by omega)] at h1
     omega
   ·refine ih (k+1) (by omega) fun j bU=> ?_
    rcases Nat.lt_or_ge j (k+1) with c1|c1
    ·exact hj j (by omega)
    ·rw[show j=k+1 by omega];exact c
 exact key m 0 (by omega) fun j hj=>by rw[Nat.le_zero.1 hj];simp[aq];omega
theorem adj {S:List α} {a:α} {m:Nat} (hS:S.length≤m) (h:m<(aW next S a L).length): ∃x,x<L∧(aW next S a x).length=m∧next a x∉aW next S a x∧∀y,y≤x→(aW next S a y).length≤m:=by
 have key: ∀d k,k+d=L→(∀y,y≤k→(aW next S a y).length≤m)→∃x,x<L∧(aW next S a x).length=m∧next a x∉aW next S a x∧∀y,y≤x→(aW next S a y).length≤m:=by
  intro d
  induction d with
  | zero=>
   intro k hk hj
   have:=hj k (Nat.le_refl _)
   rw[show k=L by omega] at this
   omega
  | succ d ih=>
   intro k hk hj
   rcases Nat.lt_or_ge m (aW next S a (k+1)).length with c|c
   ·have h0:=hj k (Nat.le_refl _)
    rw[aW,oo] at c
    split at c
    ·omega
    ·rename_i hn
     exact ⟨k,by omega,by omega,hn,hj⟩
   ·refine ih (k+1) (by omega) fun j bU=> ?_
    rcases Nat.lt_or_ge j (k+1) with c1|c1
    ·exact hj j (by omega)
    ·rw[show j=k+1 by omega];exact c
 exact key L 0 (by omega) fun y hy=>by rw[Nat.le_zero.1 hy];exact hS
theorem adk {P:α→Prop} (h0:P a0) (hP: ∀a,P a→∀x,x<L→P (next a x)) (i:Nat): ∀a∈aq L next a0 i,P a:=by
 intro a ha
 obtain ⟨w,hw,rfl⟩:=zG i a ha
 have: ∀(w:List Nat) (b:α),P b→WL L w→P (w.foldl next b):=by
  intro w
  induction w with
  | nil=>intro b hb _;exact hb
  | cons x w ih=>intro b hb hw;exact ih _ (hP b hb x hw.head) hw.tail
 exact this w a0 h0 hw
end
end Go.AM
set_option maxRecDepth 100000
set_option linter.unusedSimpArgs false
namespace Go.AM
open Go.Proofs
structure NP where
 p:Nat
 q:Nat
deriving DecidableEq
section
variable {a b:Da} (ha:a.Ok) (hb:b.Ok) (hL:a.L=b.L) {op:Nat}
include ha hb hL
end
def zD:Da:=⟨0,0,[],[]⟩
def mg (m:Da) (e:Int):List V:=[.int .i64 (m.L:Int),.int .i64 (m.st:Int),.int .i64 e,.list ab m.cC,.list ae m.cD]
section
variable {a b:Da} (ha:a.Ok) (hb:b.Ok) (hL:a.L=b.L) {op:Nat}
include ha hb hL
end
section
variable {a b:Da} (ha:a.Ok) (hb:b.Ok) (hL:a.L=b.L) {op:Nat}
include ha hb hL
end
end Go.AM
set_option maxRecDepth 100000
namespace Go.AM
open Go.Proofs
noncomputable def SR (C:ag) (dk letter:Int) (Ar:List V):Option (List V):=
 (idx Ar letter).bind fun x1=>
 (C Ej [.list a9 x1.toList,.int .u64 dk]).bind fun r2=>
 some [.int .u64 ((V.nth r2 0).toInt),.list cZ Ar]
theorem adl {dk letter:Int} {Ar:List V} {r:Option (List V)} (h:SR CC dk letter Ar=r):CC pe [.int .u64 dk,.int .i64 letter,.list cZ Ar]=r:=
 bj (key:=138) (L:=cT) (bs:=[]) (by kernel_rfl) av (Eq.trans (by kernel_rfl) h)
end Go.AM
set_option maxRecDepth 100000
namespace Go.AM
open Go.Proofs
noncomputable def SS (C:ag) (dk qu qv pg ph:Int) (Fo:List V):Option (List V):=
 some [.bool (((IntKind.wrap .u64 ((BitVec.ofInt (IntKind.bits .u64) dk&&&BitVec.ofInt (IntKind.bits .u64) ph).toNat)):Int) != 0),.int .i64 qu,.int .i64 qv,.int .u64 pg,.int .u64 ph,.list af Fo]
theorem adm {dk qu qv pg ph:Int} {Fo:List V} {r:Option (List V)} (h:SS CC dk qu qv pg ph Fo=r):CC ql [.int .u64 dk,.int .i64 qu,.int .i64 qv,.int .u64 pg,.int .u64 ph,.list af Fo]=r:=
 bj (key:=119) (L:=cT) (bs:=[]) (by kernel_rfl) av (Eq.trans (by kernel_rfl) h)
end Go.AM
set_option maxRecDepth 100000
namespace Go.AM
open Go.Proofs
noncomputable def SU (C:ag) (x:Int) (bw:List V):Option (List V):=
 bif cR .u64 x&&true then
  bif cR .u64 x&&true then
  bif Nat.ble ((bw.length+([.int .u64 x]:List V).length)*8) bA then
   some [.int .i64 (bw.length:Int),.list a9 (bw++([.int .u64 x]:List V)),.list dO (eS (.int .u64 x) (.int .i64 (bw.length:Int)) ([]:List V))]
  else none
  else none
 else none
theorem adn {x:Int} {bw:List V} {r:Option (List V)} (h:SU CC x bw=r):CC y9 [.int .u64 x,.list a9 bw]=r:=
 bj (key:=137) (L:=cT) (bs:=[]) (by kernel_rfl) av (Eq.trans (by kernel_rfl) h)
end Go.AM
set_option maxRecDepth 100000
namespace Go.AM
open Go.Proofs
noncomputable def SV (C:ag) (x:Int) (bw dz:List V):Option (List V):=
 bif cR .u64 x&&true then
  bif !(fu (.int .u64 x) dz) then
  bif cR .u64 x&&true then
   bif Nat.ble ((bw.length+([.int .u64 x]:List V).length)*8) bA then
   some [.int .i64 (bw.length:Int),.list dO (eS (.int .u64 x) (.int .i64 (bw.length:Int)) dz),.list a9 (bw++([.int .u64 x]:List V))]
   else none
  else none
  else
  some [.int .i64 ((gL (.int .u64 x) dz (.int .i64 0)).toInt),.list dO dz,.list a9 bw]
 else none
theorem ado {x:Int} {bw dz:List V} {r:Option (List V)} (h:SV CC x bw dz=r):CC IP [.int .u64 x,.list a9 bw,.list dO dz]=r:=
 bj (key:=183) (L:=cT) (bs:=[]) (by kernel_rfl) av (Eq.trans (by kernel_rfl) h)
end Go.AM
set_option maxRecDepth 100000
namespace Go.AM
open Go.Proofs
noncomputable abbrev Fp:Code:=cx Tryd.prog (aw.aU 117)
noncomputable def As (C:ag) (bR i state t36 lq lr lu lx:Int) (ly:List V) (mc me aT ba:Int) (bB bx dR e7:List V) (t37:Int) (lz rows bC cw:List V) {β:Type} (kn:(Int × (List V) × (List V) × (List V) × (List V))→Option β) (kr:(Int × Bool × (List V) × (List V) × (List V) × (List V))→Option β):Option β:=
 bif decide ((t37:Int)<t36) then
  (C pe [.int .u64 state,.int .i64 t37,.list cZ lz]).bind fun r3=>
  (C IP [.int .u64 ((V.nth r3 0).toInt),.list a9 bC,.list dO cw]).bind fun r4=>
  bif (decide (0≤t37))&&(decide (t37<(rows.length:Int))) then
  (rows[(t37:Int).toNat]?).bind fun x5=>
  kn (IntKind.wrap .i64 (t37+1),(V.nth (r3.drop 1) 0).toList,rows.set ((t37:Int).toNat) (.int .i64 ((V.nth r4 0).toInt)),(V.nth ((r4.drop 1).drop 1) 0).toList,(V.nth (r4.drop 1) 0).toList)
  else none
 else
  kr (t37,decide ((t37:Int)<t36),lz,rows,bC,cw)
noncomputable def Fq (C:ag) (bR i state t36 lq lr lu lx:Int) (ly:List V) (mc me aT ba:Int) (bB bx dR e7:List V):(Int × (List V) × (List V) × (List V) × (List V))→Option ((Int × (List V) × (List V) × (List V) × (List V)) ⊕ (Int × Bool × (List V) × (List V) × (List V) × (List V))):=un fun t37=>un fun lz=>un fun rows=>un fun bC cw=>As C bR i state t36 lq lr lu lx ly mc me aT ba bB bx dR e7 t37 lz rows bC cw (fun y=>some (.inl y)) (fun r=>some (.inr r))
noncomputable def Au (C:ag) (bR mc me aT ba:Int) (bZ bB:List V) (i:Int) (lz:List V) (lq lr lu lx:Int) (ly bx bC cw dR:List V) {β:Type} (kn:(Int × (List V) × Int × Int × Int × Int × (List V) × (List V) × (List V) × (List V) × (List V))→Option β) (kr:((Int × (List V) × Int × Int × Int × Int × (List V) × Int × Int × (List V) × (List V) × (List V)) ⊕ (Int × Bool × (List V) × Int × Int × Int × Int × (List V) × (List V) × (List V) × (List V) × (List V)))→Option β):Option β:=
 bif decide ((i:Int)<(bx.length:Int)) then
  bif (decide (0≤i))&&(decide (i<(bx.length:Int))) then
  (bx[(i:Int).toNat]?).bind fun x2=>
  bif (decide (0≤bR))&&((decide (bR≤bR))&&(Nat.ble (((bR:Int).toNat)*8) bA)) then
   (Loop (Fq C bR i x2.toInt ((List.replicate ((bR:Int).toNat) (V.int .i64 0)).length:Int) lq lr lu lx ly mc me aT ba bZ bB cw dR) (0,lz,List.replicate ((bR:Int).toNat) (V.int .i64 0),bx,bC)).bind (un fun (og:Int)=>un fun (kW:Bool)=>un fun (zV:List V)=>un fun (Av:List V)=>un fun (rQ:List V) (K8:List V)=>
    bif decide (((rQ.length:Int):Int)>512) then
    kr (.inl (3,zV,lq,lr,lu,lx,ly,0,0,([]:List V),([]:List V),([]:List V)))
    else
    bif Nat.ble ((dR.length+([.list ah Av]:List V).length)*24) bA then
     (C ql [.int .u64 x2.toInt,.int .i64 lq,.int .i64 lr,.int .u64 lu,.int .u64 lx,.list af ly]).bind fun kB=>
     bif Nat.ble ((cw.length+([.bool ((V.nth kB 0).toBool)]:List V).length)*1) bA then
     kn (IntKind.wrap .i64 (i+1),zV,(V.nth (kB.drop 1) 0).toInt,(V.nth ((kB.drop 1).drop 1) 0).toInt,(V.nth (((kB.drop 1).drop 1).drop 1) 0).toInt,(V.nth ((((kB.drop 1).drop 1).drop 1).drop 1) 0).toInt,(V.nth (((((kB.drop 1).drop 1).drop 1).drop 1).drop 1) 0).toList,rQ,K8,cw++([.bool ((V.nth kB 0).toBool)]:List V),dR++([.list ah Av]:List V))
     else none
    else none)
  else none
  else none
 else
  kr (.inr (i,decide ((i:Int)<(bx.length:Int)),lz,lq,lr,lu,lx,ly,bx,bC,cw,dR))
noncomputable def wx (C:ag) (bR mc me aT ba:Int) (bZ bB:List V):(Int × (List V) × Int × Int × Int × Int × (List V) × (List V) × (List V) × (List V) × (List V))→Option ((Int × (List V) × Int × Int × Int × Int × (List V) × (List V) × (List V) × (List V) × (List V)) ⊕ ((Int × (List V) × Int × Int × Int × Int × (List V) × Int × Int × (List V) × (List V) × (List V)) ⊕ (Int × Bool × (List V) × Int × Int × Int × Int × (List V) × (List V) × (List V) × (List V) × (List V)))):=un fun i=>un fun lz=>un fun lq=>un fun lr=>un fun lu=>un fun lx=>un fun ly=>un fun bx=>un fun bC=>un fun cw dR=>Au C bR mc me aT ba bZ bB i lz lq lr lu lx ly bx bC cw dR (fun y=>some (.inl y)) (fun r=>some (.inr r))
noncomputable def SW (C:ag):ch:=fun β n ds k=>
 bif Nat.beq n 161 then bq JR [false,false,false,false,true,true,false,false,false,false,false,false,false,false,false,true,false,false,true,true,false,false] [[1,2,3,4,0,0,0,7,8,9,10,11,12,13,14,15,0,17,18,0,0,21,22]] (@As C) ds k else
 bif Nat.beq n 81 then bq JS [false,true,true,true,true,true,true,true,false,false,false,false,false,false,true,true,true,true] [[0,0,0,0,0,0,0,0,0,0,0,0],[1,0,0,0,0,0,0,0,0,9,10,11,12,13,14,0,0,0,0]] (@Au C) ds k else
 none
abbrev SX (C:ag) (b:cd):Prop:=cf Tryd.prog aw C (SW C) 117 (cG Tryd.prog (aw.aU 117)) (aw.sin 117).aZ.length b
theorem adp (C:ag):SX C (.loop (ar [1,1,1,1,0,1,0,0,1,0,0,1,1,0,1,0,0] Fp)):=
 bu JR [false,false,false,false,true,true,false,false,false,false,false,false,false,false,false,true,false,false,true,true,false,false] [[1,2,3,4,0,0,0,7,8,9,10,11,12,13,14,15,0,17,18,0,0,21,22]] (@As C) (by kernel_rfl) (aR (bs:=[]) (by kernel_rfl) av) (fun ds=>by kernel_rfl) (fun i x=>by kernel_rfl) (fun i x β k=>by kernel_rfl) (fun β ds k=>by kernel_rfl)
theorem adq (C:ag):SX C (.loop (ar [1,1,1,1,0,1,0,0] Fp)):=
 bu JS [false,true,true,true,true,true,true,true,false,false,false,false,false,false,true,true,true,true] [[0,0,0,0,0,0,0,0,0,0,0,0],[1,0,0,0,0,0,0,0,0,9,10,11,12,13,14,0,0,0,0]] (@Au C) (by kernel_rfl) (aR (bs:=[.loop (ar [1,1,1,1,0,1,0,0,1,0,0,1,1,0,1,0,0] Fp)]) (by kernel_rfl) (bd (adp C) av)) (fun ds=>by kernel_rfl) (fun i x=>by kernel_rfl) (fun i x β k=>by kernel_rfl) (fun β ds k=>by kernel_rfl)
noncomputable def K9 (C:ag) (bR start:Int) (lz:List V) (lq lr lu lx:Int) (ly:List V):Option (List V):=
 (C y9 [.int .u64 start,.list a9 ([]:List V)]).bind fun r1=>
 (Loop (wx C bR 0 0 bR 0 ([]:List V) ([]:List V)) (0,lz,lq,lr,lu,lx,ly,(V.nth (r1.drop 1) 0).toList,(V.nth ((r1.drop 1).drop 1) 0).toList,([]:List V),([]:List V))).bind (cY (un fun (oj:Int)=>un fun (tQ:List V)=>un fun (tI:Int)=>un fun (La:Int)=>un fun (pj:Int)=>un fun (zW:Int)=>un fun (KR:List V)=>un fun (adr:Int)=>un fun (KS:Int)=>un fun (Lb:List V)=>un fun (KT:List V) (ads:List V)=>
  some [.int .i64 adr,.int .i64 KS,.int .i64 oj,.list cZ tQ,.int .i64 tI,.int .i64 La,.int .u64 pj,.int .u64 zW,.list af KR,.list ab Lb,.list ae KT,.list a9 ads]) (un fun (aiy:Int)=>un fun (adt:Bool)=>un fun (adu:List V)=>un fun (adv:Int)=>un fun (adw:Int)=>un fun (adx:Int)=>un fun (ady:Int)=>un fun (adz:List V)=>un fun (Sh:List V)=>un fun (Si:List V)=>un fun (zX:List V) (Lc:List V)=>
  some [.int .i64 bR,.int .i64 0,.int .i64 0,.list cZ adu,.int .i64 adv,.int .i64 adw,.int .u64 adx,.int .u64 ady,.list af adz,.list ab zX,.list ae Lc,.list a9 Sh]))
theorem SY {bR start:Int} {lz:List V} {lq lr lu lx:Int} {ly:List V} {r:Option (List V)} (h:K9 CC bR start lz lq lr lu lx ly=r):CC tC [.int .i64 bR,.int .u64 start,.list cZ lz,.int .i64 lq,.int .i64 lr,.int .u64 lu,.int .u64 lx,.list af ly]=r:=
 bj (key:=117) (L:=SW CC) (bs:=[.loop (ar [1,1,1,1,0,1,0,0] Fp)]) (by kernel_rfl) (bd (adq CC) av) (Eq.trans (by kernel_rfl) h)
end Go.AM
set_option maxRecDepth 100000
namespace Go.AM
open Go.Proofs
noncomputable def Ld (C:ag) (cp cK cq dh:Int) (cv:List V):Option (List V):=
 (C D3 [.int .i64 cp,.int .i64 cK,.int .u64 cq,.int .u64 dh,.list af cv]).bind fun r1=>
 bif (((V.nth r1 0).toInt):Int) != 0 then
  some [.int .i64 0,.int .i64 0,.int .i64 ((V.nth r1 0).toInt),.list ab ([]:List V),.list ae ([]:List V),.list a9 ([]:List V)]
 else
  (C Ec [.int .i64 cp,.int .i64 cK,.int .u64 cq,.int .u64 dh,.list af cv]).bind fun r2=>
  (C tC [.int .i64 cp,.int .u64 cq,.list cZ ((V.nth r2 0).toList),.int .i64 cp,.int .i64 cK,.int .u64 cq,.int .u64 dh,.list af cv]).bind fun r3=>
  some [.int .i64 ((V.nth r3 0).toInt),.int .i64 ((V.nth (r3.drop 1) 0).toInt),.int .i64 ((V.nth (r3.drop 2) 0).toInt),.list ab ((V.nth (((r3.drop 3).drop 1).drop 5) 0).toList),.list ae ((V.nth ((((r3.drop 3).drop 1).drop 5).drop 1) 0).toList),.list a9 ((V.nth (((((r3.drop 3).drop 1).drop 5).drop 1).drop 1) 0).toList)]
theorem SZ {cp cK cq dh:Int} {cv:List V} {r:Option (List V)} (h:Ld CC cp cK cq dh cv=r):CC yZ [.int .i64 cp,.int .i64 cK,.int .u64 cq,.int .u64 dh,.list af cv]=r:=
 bj (key:=99) (L:=cT) (bs:=[]) (by kernel_rfl) av (Eq.trans (by kernel_rfl) h)
end Go.AM
set_option maxRecDepth 100000
set_option linter.unusedSimpArgs false
namespace Go.AM
open Go.Proofs
def uV (q:Nat):V:= .int .u64 (q:Int)
def uM (S:List Nat):List V:=fC uV 0 S
theorem tY (a b:Nat):iK (uV a) (uV b)=decide (a=b):=ace a b
theorem Fs {S:List Nat} {i:Nat} (h:i<S.length):(U1 S)[i]? =some (uV S[i]):=KA (List.getElem?_eq_getElem h)
theorem S3 {x:Nat} (hx:x<2^64):CC y9 [uV x,.list a9 []]=some [nV 0,.list a9 (U1 [x]),.list dO (uM [x])]:=by
 refine adn ?_
 unfold SU
 rw[v9 hx]
 exact bT rfl (bT rfl (bT (cap (by simp) (by omega)) rfl))
theorem adA {S:List Nat} {x:Nat} (hx:x<2^64) (hl:S.length≤1000000):CC IP [uV x,.list a9 (U1 S),.list dO (uM S)]=some [nV ((cN S x).idxOf x),.list dO (uM (cN S x)),.list a9 (U1 (cN S x))]:=by
 refine ado ?_
 unfold SV
 have e1:=tP tY x S 0
 rw[v9 hx]
 refine bT rfl ?_
 rw[show (V.int .u64 (x:Int))=uV x from rfl,KQ]
 by_cases h:x∈S
 ·refine bF (by rw[show fu (uV x) (uM S)=_ from e1];simpa using h) ?_
  have e2:=v7 tY x (.int .i64 0) S 0 h
  rw[show gL (uV x) (uM S) (.int .i64 0)=_ from e2,if_pos h,Nat.zero_add,show cN S x=S by unfold cN;rw[if_pos h]]
  rfl
 ·refine bT (by rw[show fu (uV x) (uM S)=_ from e1];simpa using h) ?_
  refine bT rfl ?_
  refine bT (cap (by rw[jS];simp;omega) (by omega)) ?_
  have e2:=v8 tY x S 0 h
  rw[Nat.zero_add] at e2
  rw[jS,show eS (uV x) (.int .i64 (S.length:Int)) (uM S)=_ from e2,if_neg h,show cN S x=S++[x] by unfold cN;rw[if_neg h]]
  simp[U1,nV,uM,uV]
def sn (E:List Ed) (s x:Nat):Nat:=gn E s (x:Int)
def sf (fin s:Nat):Bool:= !((s&&&fin)==0)
structure Nat6 (n:Nf) (L S:Nat):Prop where
 code:n.code=0
 ok:n.Ok
 hL:n.L=(L:Int)
 hS:n.S=(S:Int)
namespace Nat6
variable {n:Nf} {L S:Nat} (h:Nat6 n L S)
include h
theorem good:n.Good:=Nf.aam h.code
theorem l1:1≤L:=by have:=h.good.L1;have:=h.hL;omega
theorem l6:L≤6:=by have:=h.good.L6;have:=h.hL;omega
theorem om:S≤64:=by have:=h.good.S64;have:=h.hS;omega
theorem sS:n.S.toNat=S:=by have:=h.hS;omega
theorem lL:n.L.toNat=L:=by have:=h.hL;omega
theorem edF: ∀e∈n.E,e.f.toNat<S:=fun e he=>by have:=h.good.E e he;have:=h.hS;unfold Ed.In at*;omega
theorem S4: ∀e∈n.E,e.t.toNat<S:=fun e he=>by have:=h.good.E e he;have:=h.hS;unfold Ed.In at*;omega
theorem st:n.st<2^S:=by have:=h.good.st;rwa [h.sS] at this
theorem fin:n.fin<2^S:=by have:=h.good.fin;rwa [h.sS] at this
theorem pow:2^S≤2^64:=Nat.pow_le_pow_right (by omega) h.om
theorem next (s x:Nat):sn n.E s x<2^S:=Kw h.S4
end Nat6
def dP (n:Nf) (L S:Nat):List Nat:=aq L (sn n.E) n.st (2^S)
def eE (n:Nf) (L S:Nat):Da:=eZ L (sn n.E) (sf n.fin) (dP n L S)
def fO (n:Nf) (L S:Nat):Prop:=512<(dP n L S).length
def tV (n:Nf) (L S:Nat):List V:=U2 (jt L S n.E)
def Ft (m:Da) (e:Int) (X:V):List V:=[.int .i64 (m.L:Int),.int .i64 (m.st:Int),.int .i64 e,.list ab m.cC,.list ae m.cD,X]
section
variable {n:Nf} {L S:Nat} (h:Nat6 n L S)
include h
theorem adB {s x:Nat} (hs:s<2^S) (hx:x<L):CC pe [uV s,nV x,.list cZ (tV n L S)]=some [uV (sn n.E s x),.list cZ (tV n L S)]:=by
 have hp:=h.pow
 refine adl ?_
 unfold SR
 have e1:idx (tV n L S) (x:Int)=some (.list a9 (U1 (ld S n.E (x:Int)))):=by
  rw[Iu rfl]
  unfold tV U2
  rw[List.getElem?_map,KB hx];rfl
 refine bs e1 ?_
 have hr:vV (ld S n.E (x:Int)):=aby h.om h.S4
 have e2:=abx hr (s:=s) (by omega)
 have hl:(ld S n.E (x:Int)).length=S:=by simp[ld]
 rw[hl,abz (by omega) h.om h.edF] at e2
 refine bs e2 ?_
 rfl
theorem adC {s:Nat} (hs:s<2^S):CC ql (uV s::jr n [])=some (.bool (sf n.fin s)::jr n []):=by
 have hp:=h.pow
 have hf:=h.fin
 refine adm ?_
 unfold SS
 have e:IntKind.wrap .u64 ((BitVec.ofInt (IntKind.bits .u64) (s:Int)&&&BitVec.ofInt (IntKind.bits .u64) (n.fin:Int)).toNat)=((s&&&n.fin:Nat):Int):=u64_and (by omega) (by omega)
 rw[e]
 have e2:(((s&&&n.fin:Nat):Int) != 0)=sf n.fin s:=by
  unfold sf
  rw[Bool.eq_iff_iff]
  simp
 rw[e2];rfl
theorem sub_lt (i:Nat): ∀s∈aq L (sn n.E) n.st i,s<2^S:=adk (P:=fun s=>s<2^S) h.st (fun s _ x _=>h.next s x) i
theorem tZ (i:Nat):(aq L (sn n.E) n.st i).length≤2^S:=by
 have:=RC (L:=L) (next:=sn n.E) (a0:=n.st) (U:=List.range (2^S)) (List.mem_range.2 h.st) (fun s _ x _=>List.mem_range.2 (h.next s x)) i
 simpa using this
theorem adD {T U:List Nat} {s:Nat} (hs:s<2^S) (hT:T.length≤1000) (hp:aW (sn n.E) T s L <+: U) {i c1 c2:Int} {l1 l2 l3 l4:List V}:
  Loop (Fq CC (L:Int) i (s:Int) ((List.replicate (((L:Nat):Int).toNat) (V.int .i64 0)).length:Int) n.L n.S (n.st:Int) (n.fin:Int) (n.E.map Ed.enc) c1 c2 (L:Int) 0 l1 l2 l3 l4) (0,tV n L S,List.replicate (((L:Nat):Int).toNat) (V.int .i64 0),U1 T,uM T)=
   some ((L:Int),false,tV n L S,(tab L fun x=>nV (U.idxOf (sn n.E s x))),U1 (aW (sn n.E) T s L),uM (aW (sn n.E) T s L)):=by
 have h6:=h.l6
 have wy:=h.pow
 rw[Int.toNat_natCast,mY,dA]
 refine (ej L (fun x=>((x:Int),tV n L S,(tab L fun j=>if j<x then nV (U.idxOf (sn n.E s j)) else nV 0),U1 (aW (sn n.E) T s x),uM (aW (sn n.E) T s x))) _ (fun x hx=> ?_) ?_)
 ·simp only[Fq,As,un]
  refine bT (dm hx) ?_
  refine bs (adB h hs hx) ?_
  have hl:=SM (next:=sn n.E) T s x
  have hn:=h.next s x
  refine bs (adA (S:=aW (sn n.E) T s x) (x:=sn n.E s x) (by omega) (by omega)) ?_
  refine (ey hx).trans ?_
  rw[cz (by omega),Int.toNat_natCast,mX]
  have e:(cN (aW (sn n.E) T s x) (sn n.E s x)).idxOf (sn n.E s x)=U.idxOf (sn n.E s x):=(tM ((qt T s (show x+1≤L by omega)).trans hp) tJ).symm
  show some (Sum.inl _)=some (Sum.inl _)
  refine congrArg (fun x=>some (Sum.inl x)) ?_
  refine Prod.ext rfl (Prod.ext rfl (Prod.ext ?_ (Prod.ext rfl rfl)))
  refine eh fun j _=> ?_
  by_cases hj:j=x
  ·rw[if_pos hj,if_pos (by omega),hj,←e];rfl
  ·rw[if_neg hj]
   by_cases bU:j<x
   ·rw[if_pos bU,if_pos (by omega)]
   ·rw[if_neg bU,if_neg (by omega)]
 ·simp only[Fq,As,un]
  refine bF (bp (Nat.le_refl _)) ?_
  rw[bp (Nat.le_refl _)]
  have:(tab L fun j=>if j<L then nV (U.idxOf (sn n.E s j)) else nV 0)=tab L fun j=>nV (U.idxOf (sn n.E s j)):=eh fun j hj=>if_pos hj
  rw[this]
theorem Lf {i:Nat} (fj:i<(aq L (sn n.E) n.st i).length) (hlen:(aq L (sn n.E) n.st i).length≤512) {U:List Nat} (hp:aq L (sn n.E) n.st (i+1) <+: U) {l1 l2 l3 l4:List V} (hl3:l3.length≤1000) (hl4:l4.length≤1000):
  wx CC (L:Int) 0 0 (L:Int) 0 l1 l2 ((i:Int),tV n L S,n.L,n.S,(n.st:Int),(n.fin:Int),n.E.map Ed.enc,U1 (aq L (sn n.E) n.st i),uM (aq L (sn n.E) n.st i),l3,l4)=
   if 512<(aq L (sn n.E) n.st (i+1)).length then some (.inr (.inl (3,tV n L S,n.L,n.S,(n.st:Int),(n.fin:Int),n.E.map Ed.enc,0,0,[],[],[])))
   else some (.inl (((i+1:Nat):Int),tV n L S,n.L,n.S,(n.st:Int),(n.fin:Int),n.E.map Ed.enc,U1 (aq L (sn n.E) n.st (i+1)),uM (aq L (sn n.E) n.st (i+1)),l3++[V.bool (sf n.fin (aq L (sn n.E) n.st i)[i])],l4++[V.list ah (tab L fun x=>nV (U.idxOf (sn n.E (aq L (sn n.E) n.st i)[i] x)))])):=by
 have h6:=h.l6
 have hq:=sub_lt h i _ (List.getElem_mem fj)
 have gU:aq L (sn n.E) n.st (i+1)=aW (sn n.E) (aq L (sn n.E) n.st i) (aq L (sn n.E) n.st i)[i] L:=KI (List.getElem?_eq_getElem fj)
 simp only[wx,Au,un]
 refine bT (decide_eq_true (by rw[jS];omega)) ?_
 refine (lY (Fs fj)).trans ?_
 refine bT (lZ (by omega) (by omega)) ?_
 refine bs (adD h hq (by omega) (U:=U) (by rw[←gU];exact hp)) ?_
 rw[←gU]
 by_cases nY:512<(aq L (sn n.E) n.st (i+1)).length
 ·rw[if_pos nY]
  refine bT (decide_eq_true (by rw[jS];omega)) ?_
  rfl
 ·rw[if_neg nY]
  refine bF (decide_eq_false (by rw[jS];omega)) ?_
  refine bT (cap (by simp;omega) (by omega)) ?_
  refine bs (adC h hq) ?_
  refine bT (cap (by simp;omega) (by omega)) ?_
  rw[cz (by omega)]
  rfl
theorem adE (hn: ¬fO n L S): ∃X,CC tC (nV L::uV n.st:: .list cZ (tV n L S)::jr n [])=some ([nV L,nV 0,.int .i64 0,.list cZ (tV n L S)]++(jr n []++[.list ab (eE n L S).cC,.list ae (eE n L S).cD,X])):=by
 have h6:=h.l6
 have bJ:=h.st
 have wy:=h.pow
 have hd:(aq L (sn n.E) n.st (2^S)).length≤2^S:=tZ h _
 have hle: ∀i,(aq L (sn n.E) n.st i).length≤(dP n L S).length:=SN hd
 have adF:(dP n L S).length≤512:=by unfold fO at hn;omega
 refine ⟨.list a9 (U1 (dP n L S)),SY ?_⟩
 unfold K9
 refine bs (S3 (x:=n.st) (by omega)) ?_
 have key:Loop (wx CC (L:Int) 0 0 (L:Int) 0 ([]:List V) ([]:List V)) (0,tV n L S,n.L,n.S,(n.st:Int),(n.fin:Int),n.E.map Ed.enc,U1 [n.st],uM [n.st],([]:List V),([]:List V))=
   some (.inr (((dP n L S).length:Int),false,tV n L S,n.L,n.S,(n.st:Int),(n.fin:Int),n.E.map Ed.enc,U1 (dP n L S),uM (dP n L S),(eE n L S).cC,(eE n L S).cD)):=by
  refine (ej (dP n L S).length (fun i=>((i:Int),tV n L S,n.L,n.S,(n.st:Int),(n.fin:Int),n.E.map Ed.enc,U1 (aq L (sn n.E) n.st i),uM (aq L (sn n.E) n.st i),(tab i fun j=>V.bool ((eE n L S).fin j)),(tab i fun j=>fo L ((eE n L S).nx j)))) _ (fun i hi=> ?_) ?_)
  ·have fj:=vW hd hi
   have hiK:i<2^S:=Nat.lt_of_lt_of_le hi hd
   have tR:(aq L (sn n.E) n.st i)[i]=(dP n L S)[i]:=(jT (show i≤2^S by omega)).getElem fj
   have adG:=hle (i+1)
   have adH:=hle i
   have:=Lf h fj (by omega) (U:=dP n L S) (jT (by omega)) (l1:=[]) (l2:=[]) (l3:=(tab i fun j=>V.bool ((eE n L S).fin j))) (l4:=(tab i fun j=>fo L ((eE n L S).nx j))) (by rw[dA];omega) (by rw[dA];omega)
   rw[if_neg (by omega),tR] at this
   rw[this,jU,jU]
   have e1:(eE n L S).fin i=sf n.fin (dP n L S)[i]:=zH hi
   have e2:fo L ((eE n L S).nx i)= .list ah (tab L fun x=>nV ((dP n L S).idxOf (sn n.E (dP n L S)[i] x))):=by
    unfold fo
    refine congrArg _ (eh fun x hx=> ?_)
    rw[show (eE n L S).nx i x=_ from tL hi hx];rfl
   rw[e1,e2]
  ·simp only[wx,Au,un]
   rw[show aq L (sn n.E) n.st (dP n L S).length=dP n L S from zI hd,jS]
   refine bF (bp (Nat.le_refl _)) ?_
   rw[bp (Nat.le_refl _)]
   have e3:(eE n L S).n=(dP n L S).length:=kp
   unfold Da.cC Da.cD
   rw[e3];rfl
 refine bs key ?_
 rfl
theorem adI (hn:fO n L S): ∃X,CC tC (nV L::uV n.st:: .list cZ (tV n L S)::jr n [])=some ([nV 0,nV 0,.int .i64 3,.list cZ (tV n L S)]++(jr n []++[.list ab [],.list ae [],X])):=by
 have h6:=h.l6
 have bJ:=h.st
 have wy:=h.pow
 obtain ⟨m,hm1,nK,hm3⟩:=SP (SO (show 512<(aq L (sn n.E) n.st (2^S)).length from hn)) (by omega)
 refine ⟨.list a9 [],SY ?_⟩
 unfold K9
 refine bs (S3 (x:=n.st) (by omega)) ?_
 have key: ∃r,Loop (wx CC (L:Int) 0 0 (L:Int) 0 ([]:List V) ([]:List V)) (0,tV n L S,n.L,n.S,(n.st:Int),(n.fin:Int),n.E.map Ed.enc,U1 [n.st],uM [n.st],([]:List V),([]:List V))=some r∧r=(.inl (3,tV n L S,n.L,n.S,(n.st:Int),(n.fin:Int),n.E.map Ed.enc,0,0,[],[],[])):=by
  refine zQ (fun i st=> ∃l3 l4:List V,l3.length=i∧l4.length=i∧st=((i:Int),tV n L S,n.L,n.S,(n.st:Int),(n.fin:Int),n.E.map Ed.enc,U1 (aq L (sn n.E) n.st i),uM (aq L (sn n.E) n.st i),l3,l4)) _ m 0 _ (fun i _ hi st bJ=> ?_) (fun st bJ=> ?_) ⟨[],[],rfl,rfl,rfl⟩
  ·obtain ⟨l3,l4,e3,e4,rfl⟩:=bJ
   obtain ⟨h1,h2⟩:=nK i (by omega)
   have h3:=(nK (i+1) (by omega)).2
   have:=Lf h h1 h2 (List.prefix_refl _) (l1:=[]) (l2:=[]) (l3:=l3) (l4:=l4) (by omega) (by omega)
   rw[if_neg (by omega)] at this
   exact ⟨_,this,_,_,by simp[e3],by simp[e4],rfl⟩
  ·obtain ⟨l3,l4,e3,e4,rfl⟩:=bJ
   rw[Nat.zero_add] at*
   obtain ⟨h1,h2⟩:=nK m (by omega)
   have:=Lf h h1 h2 (List.prefix_refl _) (l1:=[]) (l2:=[]) (l3:=l3) (l4:=l4) (by omega) (by omega)
   rw[if_pos (by omega)] at this
   exact ⟨_,this,rfl⟩
 obtain ⟨r,h1,rfl⟩:=key
 refine bs h1 ?_
 rfl
theorem adJ (hn: ¬fO n L S): ∃X,CC yZ (jr n [])=some (Ft (eE n L S) 0 (.list a9 X)):=by
 obtain ⟨X,hX⟩:=adE h hn
 refine ⟨X.toList,SZ ?_⟩
 unfold Ld
 have hv:=QS n h.ok
 rw[h.code] at hv
 refine bs hv (bF rfl ?_)
 have hs:=Rn n h.ok h.good
 rw[h.lL,h.sS] at hs
 refine bs hs ?_
 refine bs ((congrArg (fun z=>CC tC (.int .i64 z::uV n.st:: .list cZ (tV n L S)::jr n [])) h.hL).trans hX) ?_
 rfl
theorem adK (hn:fO n L S): ∃X,CC yZ (jr n [])=some (Ft zD 3 (.list a9 X)):=by
 obtain ⟨X,hX⟩:=adI h hn
 refine ⟨X.toList,SZ ?_⟩
 unfold Ld
 have hv:=QS n h.ok
 rw[h.code] at hv
 refine bs hv (bF rfl ?_)
 have hs:=Rn n h.ok h.good
 rw[h.lL,h.sS] at hs
 refine bs hs ?_
 refine bs ((congrArg (fun z=>CC tC (.int .i64 z::uV n.st:: .list cZ (tV n L S)::jr n [])) h.hL).trans hX) ?_
 rfl
theorem ua (hn: ¬fO n L S):(eE n L S).Ok:=by
 unfold fO at hn
 exact RA (tZ h _) h.l1 h.l6 (show (dP n L S).length≤512 by omega)
theorem adL {w:List Nat} (hw:WL L w):(eE n L S).acc 0 w=sf n.fin (w.foldl (sn n.E) n.st):=by
 have h1:=Rz (fin:=sf n.fin) (tZ h _) (zF _) hw
 have h2:=Rx (L:=L) (next:=sn n.E) (a0:=n.st) (2^S)
 rw[List.getElem?_eq_getElem (zF _)] at h2
 rw[Option.some.inj h2] at h1
 exact h1
end
end Go.AM
set_option maxRecDepth 100000
namespace Go.AM
open Go.Proofs
noncomputable abbrev Fu:Code:=cx Tryd.prog (aw.aU 107)
noncomputable def wz (C:ag) (i aT ba:Int) (bm bh:List V) (x:Int) (dH mh lA:List V) {β:Type} (kn:(Int × (List V) × (List V) × (List V))→Option β) (kr:(Int × Bool × (List V) × (List V) × (List V))→Option β):Option β:=
 bif decide ((x:Int)<aT) then
  bif (decide (0≤i))&&(decide (i<(dH.length:Int))) then
  (dH[(i:Int).toNat]?).bind fun x2=>
  (idx bh x2.toInt).bind fun x3=>
  (idx x3.toList x).bind fun x4=>
  bif (decide (0≤x4.toInt))&&(decide (x4.toInt<(lA.length:Int))) then
   (lA[(x4.toInt:Int).toNat]?).bind fun x5=>
   bif !x5.toBool then
   bif (decide (0≤x4.toInt))&&(decide (x4.toInt<(lA.length:Int))) then
    (lA[(x4.toInt:Int).toNat]?).bind fun x6=>
    bif Nat.ble ((dH.length+([.int .i64 x4.toInt]:List V).length)*8) bA then
    bif (decide (0≤i))&&(decide (i<(mh.length:Int))) then
     (mh[(i:Int).toNat]?).bind fun x7=>
     bif Nat.ble (x7.toStr.length+(iM ([.int .u8 (IntKind.wrap .u8 (IntKind.wrap .i64 (97+x)))]:List V)).length) sr then
     bif Nat.ble ((mh.length+([.str (x7.toStr++(iM ([.int .u8 (IntKind.wrap .u8 (IntKind.wrap .i64 (97+x)))]:List V)))]:List V).length)*16) bA then
      kn (IntKind.wrap .i64 (x+1),dH++([.int .i64 x4.toInt]:List V),mh++([.str (x7.toStr++(iM ([.int .u8 (IntKind.wrap .u8 (IntKind.wrap .i64 (97+x)))]:List V)))]:List V),lA.set ((x4.toInt:Int).toNat) (.bool true))
     else none
     else none
    else none
    else none
   else none
   else
   kn (IntKind.wrap .i64 (x+1),dH,mh,lA)
  else none
  else none
 else
  kr (x,decide ((x:Int)<aT),dH,mh,lA)
noncomputable def Aw (C:ag) (i aT ba:Int) (bm bh:List V):(Int × (List V) × (List V) × (List V))→Option ((Int × (List V) × (List V) × (List V)) ⊕ (Int × Bool × (List V) × (List V) × (List V))):=un fun x=>un fun dH=>un fun mh lA=>wz C i aT ba bm bh x dH mh lA (fun y=>some (.inl y)) (fun r=>some (.inr r))
noncomputable def Ax (C:ag) (aT ba:Int) (bm bh:List V) (i:Int) (dH mh lA:List V) {β:Type} (kn:(Int × (List V) × (List V) × (List V))→Option β) (kr:(Int × Bool × (List V) × (List V) × (List V))→Option β):Option β:=
 bif decide ((i:Int)<(dH.length:Int)) then
  (Loop (Aw C i aT ba bm bh) (0,dH,mh,lA)).bind (un fun (x_8:Int)=>un fun (pf:Bool)=>un fun (adM:List V)=>un fun (adN:List V) (adO:List V)=>
   kn (IntKind.wrap .i64 (i+1),adM,adN,adO))
 else
  kr (i,decide ((i:Int)<(dH.length:Int)),dH,mh,lA)
noncomputable def Fv (C:ag) (aT ba:Int) (bm bh:List V):(Int × (List V) × (List V) × (List V))→Option ((Int × (List V) × (List V) × (List V)) ⊕ (Int × Bool × (List V) × (List V) × (List V))):=un fun i=>un fun dH=>un fun mh lA=>Ax C aT ba bm bh i dH mh lA (fun y=>some (.inl y)) (fun r=>some (.inr r))
noncomputable def S5 (C:ag):ch:=fun β n ds k=>
 bif Nat.beq n 129 then bq JH [false,true,false,false,false,false,true,true,true] [[1,0,0,3,4,5,6,0,0,0]] (@wz C) ds k else
 bif Nat.beq n 81 then bq JI [true,false,false,false,false,true,true,true] [[0,0,2,3,4,5,0,0,0]] (@Ax C) ds k else
 none
abbrev S6 (C:ag) (b:cd):Prop:=cf Tryd.prog aw C (S5 C) 107 (cG Tryd.prog (aw.aU 107)) (aw.sin 107).aZ.length b
theorem adP (C:ag):S6 C (.loop (ar [1,1,1,1,0,1,0,0,1,0,0,1,0,0] Fu)):=
 bu JH [false,true,false,false,false,false,true,true,true] [[1,0,0,3,4,5,6,0,0,0]] (@wz C) (by kernel_rfl) (aR (bs:=[]) (by kernel_rfl) av) (fun ds=>by kernel_rfl) (fun i x=>by kernel_rfl) (fun i x β k=>by kernel_rfl) (fun β ds k=>by kernel_rfl)
theorem adQ (C:ag):S6 C (.loop (ar [1,1,1,1,0,1,0,0] Fu)):=
 bu JI [true,false,false,false,false,true,true,true] [[0,0,2,3,4,5,0,0,0]] (@Ax C) (by kernel_rfl) (aR (bs:=[.loop (ar [1,1,1,1,0,1,0,0,1,0,0,1,0,0] Fu)]) (by kernel_rfl) (bd (adP C) av)) (fun ds=>by kernel_rfl) (fun i x=>by kernel_rfl) (fun i x β k=>by kernel_rfl) (fun β ds k=>by kernel_rfl)
noncomputable def S7 (C:ag) (aX aY:Int) (aG bc:List V):Option (List V):=
 bif (decide (0≤(aG.length:Int)))&&((decide ((aG.length:Int)≤(aG.length:Int)))&&(Nat.ble ((((aG.length:Int):Int).toNat)*1) bA)) then
  bif (decide (0≤aY))&&(decide (aY<((List.replicate (((aG.length:Int):Int).toNat) (V.bool false)).length:Int))) then
  ((List.replicate (((aG.length:Int):Int).toNat) (V.bool false))[(aY:Int).toNat]?).bind fun x1=>
  (Loop (Fv C aX aY aG bc) (0,([.int .i64 aY]:List V),([.str []]:List V),(List.replicate (((aG.length:Int):Int).toNat) (V.bool false)).set ((aY:Int).toNat) (.bool true))).bind (un fun (aiz:Int)=>un fun (zB:Bool)=>un fun (adR:List V)=>un fun (adS:List V) (aiA:List V)=>
   some [.list ah adR,.list mT adS])
  else none
 else none
theorem adT {aX aY:Int} {aG bc:List V} {r:Option (List V)} (h:S7 CC aX aY aG bc=r):CC D9 [.int .i64 aX,.int .i64 aY,.list ab aG,.list ae bc]=r:=
 bj (key:=107) (L:=S5 CC) (bs:=[.loop (ar [1,1,1,1,0,1,0,0] Fu)]) (by kernel_rfl) (bd (adQ CC) av) (Eq.trans (by kernel_rfl) h)
end Go.AM
set_option maxRecDepth 100000
namespace Go.AM
open Go.Proofs
noncomputable abbrev rR:Code:=cx Tryd.prog (aw.aU 85)
noncomputable def Ay (C:ag) (t26 aT ba:Int) (bm bh:List V) (bO bP:Int) (dH dd bZ:List V) (t27:Int) (places:List V) {β:Type} (kn:(Int × (List V))→Option β) (kr:(Int × Bool × (List V))→Option β):Option β:=
 bif decide ((t27:Int)<t26) then
  bif (decide (0≤t27))&&(decide (t27<(places.length:Int))) then
  (places[(t27:Int).toNat]?).bind fun x2=>
  kn (IntKind.wrap .i64 (t27+1),places.set ((t27:Int).toNat) (.int .i64 (-1)))
  else none
 else
  kr (t27,decide ((t27:Int)<t26),places)
noncomputable def Fw (C:ag) (t26 aT ba:Int) (bm bh:List V) (bO bP:Int) (dH dd bZ:List V):(Int × (List V))→Option ((Int × (List V)) ⊕ (Int × Bool × (List V))):=un fun t27 places=>Ay C t26 aT ba bm bh bO bP dH dd bZ t27 places (fun y=>some (.inl y)) (fun r=>some (.inr r))
noncomputable def Az (C:ag) (t35 aT ba:Int) (bm bh:List V) (bO bP:Int) (dH dd bZ:List V) (t36:Int) (places:List V) {β:Type} (kn:(Int × (List V))→Option β) (kr:(Int × Bool × (List V))→Option β):Option β:=
 bif decide ((t36:Int)<t35) then
  bif (decide (0≤t36))&&(decide (t36<(dH.length:Int))) then
  (dH[(t36:Int).toNat]?).bind fun x6=>
  bif (decide (0≤x6.toInt))&&(decide (x6.toInt<(places.length:Int))) then
   (places[(x6.toInt:Int).toNat]?).bind fun x7=>
   kn (IntKind.wrap .i64 (t36+1),places.set ((x6.toInt:Int).toNat) (.int .i64 t36))
  else none
  else none
 else
  kr (t36,decide ((t36:Int)<t35),places)
noncomputable def Fx (C:ag) (t35 aT ba:Int) (bm bh:List V) (bO bP:Int) (dH dd bZ:List V):(Int × (List V))→Option ((Int × (List V)) ⊕ (Int × Bool × (List V))):=un fun t36 places=>Az C t35 aT ba bm bh bO bP dH dd bZ t36 places (fun y=>some (.inl y)) (fun r=>some (.inr r))
noncomputable def AA (C:ag) (q t50 t51:Int) (t59:List V) (t60 aT ba:Int) (bm bh:List V) (bO bP:Int) (places:List V) (gp gq:Int) (rS bB bx bC cw:List V) (t61:Int) (rows:List V) {β:Type} (kn:(Int × (List V))→Option β) (kr:(Int × Bool × (List V))→Option β):Option β:=
 bif decide ((t61:Int)<t60) then
  (idx t59 t61).bind fun gI=>
  bif (decide (0≤gI.toInt))&&(decide (gI.toInt<(places.length:Int))) then
  (places[(gI.toInt:Int).toNat]?).bind fun gJ=>
  bif Nat.ble ((rows.length+([.int .i64 gJ.toInt]:List V).length)*8) bA then
   kn (IntKind.wrap .i64 (t61+1),rows++([.int .i64 gJ.toInt]:List V))
  else none
  else none
 else
  kr (t61,decide ((t61:Int)<t60),rows)
noncomputable def Fy (C:ag) (q t50 t51:Int) (t59:List V) (t60 aT ba:Int) (bm bh:List V) (bO bP:Int) (places:List V) (gp gq:Int) (rS bB bx bC cw:List V):(Int × (List V))→Option ((Int × (List V)) ⊕ (Int × Bool × (List V))):=un fun t61 rows=>AA C q t50 t51 t59 t60 aT ba bm bh bO bP places gp gq rS bB bx bC cw t61 rows (fun y=>some (.inl y)) (fun r=>some (.inr r))
noncomputable def AB (C:ag) (t50 aT ba:Int) (bm bh:List V) (bO bP:Int) (places:List V) (gp gq:Int) (rS bZ bB:List V) (t51:Int) (bx bC:List V) {β:Type} (kn:(Int × (List V) × (List V))→Option β) (kr:(Int × Bool × (List V) × (List V))→Option β):Option β:=
 bif decide ((t51:Int)<t50) then
  bif (decide (0≤t51))&&(decide (t51<(rS.length:Int))) then
  (rS[(t51:Int).toNat]?).bind fun eY=>
  (idx bh eY.toInt).bind fun lV=>
  (Loop (Fy C eY.toInt t50 t51 lV.toList (lV.toList.length:Int) aT ba bm bh bO bP places gp gq rS bZ bB bx bC) (0,([]:List V))).bind (un fun (S8:Int)=>un fun (wa:Bool) (S9:List V)=>
   bif Nat.ble ((bC.length+([.list ah S9]:List V).length)*24) bA then
    (idx bm eY.toInt).bind fun rP=>
    bif Nat.ble ((bx.length+([.bool rP.toBool]:List V).length)*1) bA then
    kn (IntKind.wrap .i64 (t51+1),bx++([.bool rP.toBool]:List V),bC++([.list ah S9]:List V))
    else none
   else none)
  else none
 else
  kr (t51,decide ((t51:Int)<t50),bx,bC)
noncomputable def Fz (C:ag) (t50 aT ba:Int) (bm bh:List V) (bO bP:Int) (places:List V) (gp gq:Int) (rS bZ bB:List V):(Int × (List V) × (List V))→Option ((Int × (List V) × (List V)) ⊕ (Int × Bool × (List V) × (List V))):=un fun t51=>un fun bx bC=>AB C t50 aT ba bm bh bO bP places gp gq rS bZ bB t51 bx bC (fun y=>some (.inl y)) (fun r=>some (.inr r))
noncomputable def Ta (C:ag):ch:=fun β n ds k=>
 bif Nat.beq n 65 then bq Jn [false,true,false,false,false,false,false,false,false,true,false,false] [[1,0,0,3,4,5,6,7,8,9,0,11,12]] (@Ay C) ds k else
 bif Nat.beq n 145 then bq Jo [false,true,false,false,false,false,false,false,false,true,false,false] [[1,0,0,3,4,5,6,7,8,9,0,11,12]] (@Az C) ds k else
 bif Nat.beq n 305 then bq Jp [false,false,false,false,false,true,false,false,false,false,false,false,false,false,false,true,false,false,false,false,false] [[1,2,3,4,5,0,0,7,8,9,10,11,12,13,14,15,0,17,18,19,20,21]] (@AA C) ds k else
 bif Nat.beq n 241 then bq Jq [false,true,false,false,false,false,false,false,false,false,false,false,false,false,true,true] [[1,0,0,3,4,5,6,7,8,9,10,11,12,13,14,0,0]] (@AB C) ds k else
 none
abbrev FA (C:ag) (b:cd):Prop:=cf Tryd.prog aw C (Ta C) 85 (cG Tryd.prog (aw.aU 85)) (aw.sin 85).aZ.length b
theorem adU (C:ag):FA C (.loop (ar [1,1,1,0,1,0,0] rR)):=
 bu Jn [false,true,false,false,false,false,false,false,false,true,false,false] [[1,0,0,3,4,5,6,7,8,9,0,11,12]] (@Ay C) (by kernel_rfl) (aR (bs:=[]) (by kernel_rfl) av) (fun ds=>by kernel_rfl) (fun i x=>by kernel_rfl) (fun i x β k=>by kernel_rfl) (fun β ds k=>by kernel_rfl)
theorem adV (C:ag):FA C (.loop (ar [1,1,1,1,0,1,0,0] rR)):=
 bu Jo [false,true,false,false,false,false,false,false,false,true,false,false] [[1,0,0,3,4,5,6,7,8,9,0,11,12]] (@Az C) (by kernel_rfl) (aR (bs:=[]) (by kernel_rfl) av) (fun ds=>by kernel_rfl) (fun i x=>by kernel_rfl) (fun i x β k=>by kernel_rfl) (fun β ds k=>by kernel_rfl)
theorem adW (C:ag):FA C (.loop (ar [1,1,1,1,1,1,0,1,0,0,1,1,0,0,1,1,0,1,0,0] rR)):=
 bu Jp [false,false,false,false,false,true,false,false,false,false,false,false,false,false,false,true,false,false,false,false,false] [[1,2,3,4,5,0,0,7,8,9,10,11,12,13,14,15,0,17,18,19,20,21]] (@AA C) (by kernel_rfl) (aR (bs:=[]) (by kernel_rfl) av) (fun ds=>by kernel_rfl) (fun i x=>by kernel_rfl) (fun i x β k=>by kernel_rfl) (fun β ds k=>by kernel_rfl)
theorem adX (C:ag):FA C (.loop (ar [1,1,1,1,1,1,0,1,0,0] rR)):=
 bu Jq [false,true,false,false,false,false,false,false,false,false,false,false,false,false,true,true] [[1,0,0,3,4,5,6,7,8,9,10,11,12,13,14,0,0]] (@AB C) (by kernel_rfl) (aR (bs:=[.loop (ar [1,1,1,1,1,1,0,1,0,0,1,1,0,0,1,1,0,1,0,0] rR)]) (by kernel_rfl) (bd (adW C) av)) (fun ds=>by kernel_rfl) (fun i x=>by kernel_rfl) (fun i x β k=>by kernel_rfl) (fun β ds k=>by kernel_rfl)
noncomputable def Tb (C:ag) (aX aY:Int) (aG bc:List V):Option (List V):=
 (C D9 [.int .i64 aX,.int .i64 aY,.list ab aG,.list ae bc]).bind fun r1=>
 bif (decide (0≤(aG.length:Int)))&&((decide ((aG.length:Int)≤(aG.length:Int)))&&(Nat.ble ((((aG.length:Int):Int).toNat)*8) bA)) then
  (Loop (Fw C ((List.replicate (((aG.length:Int):Int).toNat) (V.int .i64 0)).length:Int) aX aY aG bc 0 0 ((V.nth r1 0).toList) ([]:List V) ([]:List V)) (0,List.replicate (((aG.length:Int):Int).toNat) (V.int .i64 0))).bind (un fun (jR:Int)=>un fun (js:Bool) (adY:List V)=>
   (Loop (Fx C (((V.nth r1 0).toList).length:Int) aX aY aG bc 0 0 ((V.nth r1 0).toList) ([]:List V) ([]:List V)) (0,adY)).bind (un fun (mU:Int)=>un fun (pf:Bool) (Tc:List V)=>
    (Loop (Fz C (((V.nth r1 0).toList).length:Int) aX aY aG bc 0 0 Tc aX 0 ((V.nth r1 0).toList) ([]:List V) ([]:List V)) (0,([]:List V),([]:List V))).bind (un fun (aiB:Int)=>un fun (adZ:Bool)=>un fun (ad0:List V) (Lb:List V)=>
     some [.int .i64 aX,.int .i64 0,.list ab ad0,.list ae Lb,.list ah Tc])))
 else none
theorem ad1 {aX aY:Int} {aG bc:List V} {r:Option (List V)} (h:Tb CC aX aY aG bc=r):CC DZ [.int .i64 aX,.int .i64 aY,.list ab aG,.list ae bc]=r:=
 bj (key:=85) (L:=Ta CC) (bs:=[.loop (ar [1,1,1,0,1,0,0] rR),.loop (ar [1,1,1,1,0,1,0,0] rR),.loop (ar [1,1,1,1,1,1,0,1,0,0] rR)]) (by kernel_rfl) (bd (adU CC) (bd (adV CC) (bd (adX CC) av))) (Eq.trans (by kernel_rfl) h)
end Go.AM
set_option maxRecDepth 100000
set_option linter.unusedSimpArgs false
namespace Go.AM
open Go.Proofs
def ow (n:Nat) (S:List Nat):List V:=tab n fun q=>V.bool (decide (q∈S))
def FB (S:List Nat) (ws:List (List UInt8)):Prop:=ws.length=S.length∧∀j (hj:j<ws.length),ws[j].length≤j
section
variable {a:Da} (h:a.Ok)
include h
theorem ad2 {S:List Nat} {i:Nat} (hi:i<S.length) (hS: ∀s∈S,s<a.n) (hSn:S.length≤1000) {ws:List (List UInt8)} (hw:FB S ws) {l2:List V} {c1:Int}:
  ∃r,Loop (Aw CC (i:Int) (a.L:Int) c1 l2 a.cD) (0,nS S,ws.map V.str,ow a.n S)=some r∧∃fP,r=((a.L:Int),false,nS (aW a.nx S S[i] a.L),List.map V.str fP,ow a.n (aW a.nx S S[i] a.L))∧FB (aW a.nx S S[i] a.L) fP:=by
 have h6:=h.l6
 have hq:=hS _ (List.getElem_mem hi)
 have hlen: ∀x,(aW a.nx S S[i] x).length≤S.length+x:=by
  intro x
  induction x with
  | zero=>exact Nat.le_refl _
  | succ x ih=>rw[aW,oo];split<;>omega
 refine zQ (fun x st=> ∃fP,st=((x:Int),nS (aW a.nx S S[i] x),List.map V.str fP,ow a.n (aW a.nx S S[i] x))∧FB (aW a.nx S S[i] x) fP) _ a.L 0 _ (fun x _ hx st bJ=> ?_) (fun st bJ=> ?_) ⟨ws,rfl,hw⟩
 ·obtain ⟨fP,rfl,jm⟩:=bJ
  rw[Nat.zero_add] at hx
  have hT:=hlen x
  have ox:=zC (next:=a.nx) S S[i] x
  have Lg:i<(aW a.nx S S[i] x).length:=Nat.lt_of_lt_of_le hi ox.length_le
  have wA:(aW a.nx S S[i] x)[i]=S[i]:=(ox.getElem hi).symm
  have rq:=h.eO hq hx
  have hm:=h.ew
  by_cases kf:a.nx S[i] x∈aW a.nx S S[i] x
  ·have e:aW a.nx S S[i] (x+1)=aW a.nx S S[i] x:=by rw[aW];unfold cN;rw[if_pos kf]
   refine ⟨_,?_,fP,rfl,by rw[e];exact jm⟩
   simp only[Aw,wz,un]
   refine bT (dm hx) ?_
   refine (lY (we Lg)).trans ?_
   rw[wA]
   refine bs (Da.ma hq) ?_
   simp only[m8]
   refine bs (ou hx) ?_
   refine (ey (i:=a.nx S[i] x) rq).trans ?_
   refine bF (by simp[kf]) ?_
   rw[cz (by omega),e]
  ·have e:aW a.nx S S[i] (x+1)=aW a.nx S S[i] x++[a.nx S[i] x]:=by rw[aW];unfold cN;rw[if_neg kf]
   have Td:i<fP.length:=by rw[jm.1];exact Lg
   have hwi:=jm.2 i Td
   refine ⟨(((x+1:Nat):Int),nS (aW a.nx S S[i] (x+1)),List.map V.str (fP++[fP[i]++iM [.int .u8 (IntKind.wrap .u8 (IntKind.wrap .i64 (97+(x:Int))))]]),ow a.n (aW a.nx S S[i] (x+1))),?_,_,rfl,?_⟩
   ·simp only[Aw,wz,un]
    refine bT (dm hx) ?_
    refine (lY (we Lg)).trans ?_
    rw[wA]
    refine bs (Da.ma hq) ?_
    simp only[m8]
    refine bs (ou hx) ?_
    refine (ey (i:=a.nx S[i] x) rq).trans ?_
    refine bT (by simp[kf]) ?_
    refine (ey (i:=a.nx S[i] x) rq).trans ?_
    refine bT (cap (by rw[ov];simp;omega) (by omega)) ?_
    refine (lY (v:= .str fP[i]) (by simp[Td])).trans ?_
    refine bT (by
     rw[Nat.ble_eq]
     simp only[V.toStr,iM,List.length_map,List.length_cons,List.length_nil,sr]
     omega) ?_
    refine bT (cap (by rw[List.length_map,jm.1];simp;omega) (by omega)) ?_
    rw[cz (by omega),e]
    refine congrArg (fun x=>some (Sum.inl x)) (Prod.ext rfl (Prod.ext ?_ (Prod.ext ?_ ?_)))
    ·simp[nS,nV]
    ·simp[V.toStr]
    ·show (ow a.n (aW a.nx S S[i] x)).set _ _=ow a.n _
     unfold ow
     rw[V.toInt_int,Int.toNat_natCast,mX]
     refine eh fun j _=> ?_
     by_cases hj:j=a.nx S[i] x
     ·rw[if_pos hj,decide_eq_true (by rw[hj];simp)]
     ·rw[if_neg hj]
      congr 1
      rw[decide_eq_decide,List.mem_append,List.mem_singleton]
      exact ⟨.inl,fun h=>h.resolve_right hj⟩
   ·rw[e]
    refine ⟨by simp[jm.1],fun j hj=> ?_⟩
    rw[List.length_append,List.length_singleton] at hj
    rcases Nat.lt_or_ge j fP.length with c|c
    ·rw[List.getElem_append_left c];exact jm.2 j c
    ·rw[List.getElem_append_right c]
     simp only[List.getElem_singleton,List.length_append,iM,List.length_map,List.length_cons,List.length_nil]
     omega
 ·obtain ⟨fP,rfl,jm⟩:=bJ
  rw[Nat.zero_add] at*
  refine ⟨_,?_,fP,rfl,jm⟩
  simp only[Aw,wz,un]
  refine bF (bp (Nat.le_refl _)) ?_
  rw[bp (Nat.le_refl _)]
theorem ad3: ∃W,CC D9 (dv a)=some [.list ah (nS (aq a.L a.nx a.st a.n)),W]:=by
 have hm:=h.ew
 have hd:=h.lW a.n
 have key: ∃r,Loop (Fv CC (a.L:Int) (a.st:Int) a.cC a.cD) (0,nS [a.st],[[]].map V.str,ow a.n [a.st])=some r∧∃fP,r=(((aq a.L a.nx a.st a.n).length:Int),false,nS (aq a.L a.nx a.st a.n),List.map V.str fP,ow a.n (aq a.L a.nx a.st a.n)):=by
  refine zQ (fun i st=> ∃fP,st=((i:Int),nS (aq a.L a.nx a.st i),List.map V.str fP,ow a.n (aq a.L a.nx a.st i))∧FB (aq a.L a.nx a.st i) fP) _ (aq a.L a.nx a.st a.n).length 0 _ (fun i _ hi st bJ=> ?_) (fun st bJ=> ?_) ⟨[[]],rfl,⟨rfl,fun j hj=>by simp at hj;subst hj;simp⟩⟩
  ·obtain ⟨fP,rfl,jm⟩:=bJ
   rw[Nat.zero_add] at hi
   have fj:=vW hd hi
   have tR:(aq a.L a.nx a.st i)[i]=(aq a.L a.nx a.st a.n)[i]:=(jT (show i≤a.n by omega)).getElem fj
   have hlen:(aq a.L a.nx a.st i).length≤512:=Nat.le_trans (h.lW i) hm
   have gU:=vX hd hi
   obtain ⟨r,h1,ws2,rfl,h3⟩:=ad2 h fj (h.tN i) (by omega) jm (l2:=a.cC) (c1:=(a.st:Int))
   rw[tR,←gU] at h1 h3
   refine ⟨_,?_,ws2,rfl,h3⟩
   simp only[Fv,Ax,un]
   refine bT (decide_eq_true (by rw[ov];omega)) ?_
   refine bs h1 ?_
   rw[cz (by omega)]
   rfl
  ·obtain ⟨fP,rfl,jm⟩:=bJ
   rw[Nat.zero_add,zI hd] at*
   refine ⟨_,?_,fP,rfl⟩
   simp only[Fv,Ax,un]
   rw[ov]
   refine bF (bp (Nat.le_refl _)) ?_
   rw[bp (Nat.le_refl _)]
 obtain ⟨r,h1,fP,rfl⟩:=key
 refine ⟨.list mT (fP.map V.str),adT ?_⟩
 unfold S7
 rw[Da.m7,Int.toNat_natCast,mY]
 refine bT (by have:=lZ (n:=a.n) (m:=1) (by omega) (by omega);rwa [Int.toNat_natCast] at this) ?_
 refine (ey (i:=a.st) h.s).trans ?_
 have e:(tab a.n fun _=>V.bool false).set (((a.st:Nat):Int).toNat) (.bool true)=ow a.n [a.st]:=by
  rw[Int.toNat_natCast,mX]
  refine eh fun j _=> ?_
  by_cases hj:j=a.st
  ·rw[if_pos hj,decide_eq_true (by rw[hj];simp)]
  ·rw[if_neg hj,decide_eq_false (by simpa using hj)]
 rw[e]
 refine bs h1 ?_
 rfl
theorem ad4 {q:Nat} (hq:q<a.n) (hU: ∀x,x<a.L→a.nx q x∈aq a.L a.nx a.st a.n) {c1 c2 c3 c4 c5 c6 c7 c8 c9:Int} {l1 l2 l3 l4 l5 l6 l7:List V}:
  Loop (Fy CC c1 c2 c3 (tab a.L fun x=>iV (a.nx q x)) ((tab a.L fun x=>iV (a.nx q x)).length:Int) c4 c5 l1 l2 c6 c7 (iG (aq a.L a.nx a.st a.n) a.n) c8 c9 l3 l4 l5 l6 l7) (0,([]:List V))=
   some ((a.L:Int),false,tab a.L fun x=>nV ((aq a.L a.nx a.st a.n).idxOf (a.nx q x))):=by
 have h6:=h.l6
 rw[dA]
 refine (ej a.L (fun t=>((t:Int),(tab t fun x=>nV ((aq a.L a.nx a.st a.n).idxOf (a.nx q x))))) _ (fun t ht=> ?_) ?_)
 ·simp only[Fy,AA,un]
  refine bT (dm ht) ?_
  refine bs (ou ht) ?_
  refine (ey (i:=a.nx q t) (h.eO hq ht)).trans ?_
  refine bT (cap (by rw[dA];simp;omega) (by omega)) ?_
  rw[cz (by omega),if_pos (hU t ht),jU]
  rfl
 ·simp only[Fy,AA,un]
  refine bF (bp (Nat.le_refl _)) ?_
  rw[bp (Nat.le_refl _)]
theorem ad5:CC DZ (dv a)=some (dv a.trim++[.list ah (iG (aq a.L a.nx a.st a.n) a.n)]):=by
 have h6:=h.l6
 have hm:=h.ew
 have hU:=h.tN a.n
 have hle:=h.lW a.n
 obtain ⟨W,hW⟩:=ad3 h
 refine ad1 ?_
 unfold Tb
 refine bs hW ?_
 rw[Da.m7]
 refine bT (lZ (by omega) (by omega)) ?_
 rw[Int.toNat_natCast,mY,dA]
 have row:=fun {q:Nat} (hq:q<a.n) hU=> @ad4 a h q hq hU
 have e1: ∀{i:Nat} (hi:i<(aq a.L a.nx a.st a.n).length),a.trim.fin i=a.fin (aq a.L a.nx a.st a.n)[i]:=fun hi=>zH hi
 have e2: ∀{i:Nat} (hi:i<(aq a.L a.nx a.st a.n).length),fo a.L (a.trim.nx i)= .list ah (tab a.L fun x=>nV ((aq a.L a.nx a.st a.n).idxOf (a.nx (aq a.L a.nx a.st a.n)[i] x))):=fun hi=>by
  unfold fo
  refine congrArg _ (eh fun x hx=> ?_)
  rw[show a.trim.nx _ x=_ from tL hi hx];rfl
 have e3:a.trim.n=(aq a.L a.nx a.st a.n).length:=kp
 have jM: ∀q∈aq a.L a.nx a.st a.n,∀x,x<a.L→a.nx q x∈aq a.L a.nx a.st a.n:=fun q hq x hx=>KJ hle hq hx
 have KU:(aq a.L a.nx a.st a.n).Nodup:=tK _
 have er:a.trim.cC=(tab (aq a.L a.nx a.st a.n).length fun i=>V.bool (a.trim.fin i)):=by unfold Da.cC;rw[e3]
 have en:a.trim.cD=(tab (aq a.L a.nx a.st a.n).length fun i=>fo a.L (a.trim.nx i)):=by unfold Da.cD;rw[e3];rfl
 have eL:a.trim.L=a.L:=rfl
 unfold dv iF
 rw[er,en,eL]
 generalize aq a.L a.nx a.st a.n=U at*
 have l1: ∀{c1 c2 c3 c4:Int} {s1 s2 s3 s4 s5:List V},Loop (Fw CC (a.n:Int) c1 c2 s1 s2 c3 c4 s3 s4 s5) (0,tab a.n fun _=>V.int .i64 0)=some ((a.n:Int),false,tab a.n fun q=>if q∈U.take 0 then nV (U.idxOf q) else V.int .i64 (-1)):=by
  intro c1 c2 c3 c4 s1 s2 s3 s4 s5
  refine (ej a.n (fun i=>((i:Int),(tab a.n fun j=>if j<i then V.int .i64 (-1) else V.int .i64 0))) _ (fun i hi=> ?_) ?_)
  ·simp only[Fw,Ay,un]
   refine bT (dm hi) ?_
   refine (ey hi).trans ?_
   rw[cz (by omega),Int.toNat_natCast,mX]
   refine congrArg (fun x=>some (Sum.inl (((i+1:Nat):Int),x))) (eh fun j _=> ?_)
   by_cases hj:j=i
   ·rw[if_pos hj,if_pos (by omega)]
   ·rw[if_neg hj]
    by_cases bU:j<i
    ·rw[if_pos bU,if_pos (by omega)]
    ·rw[if_neg bU,if_neg (by omega)]
  ·simp only[Fw,Ay,un]
   refine bF (bp (Nat.le_refl _)) ?_
   rw[bp (Nat.le_refl _)]
   refine congrArg (fun x=>some (Sum.inr ((a.n:Int),false,x))) (eh fun j hj=> ?_)
   rw[if_pos hj,List.take_zero,if_neg (by simp)]
 refine bs l1 ?_
 simp only[un]
 have l2: ∀{c1 c2 c3 c4:Int} {s1 s2 s3 s4:List V},Loop (Fx CC ((nS U).length:Int) c1 c2 s1 s2 c3 c4 (nS U) s3 s4) (0,tab a.n fun q=>if q∈U.take 0 then nV (U.idxOf q) else V.int .i64 (-1))=some ((U.length:Int),false,iG U a.n):=by
  intro c1 c2 c3 c4 s1 s2 s3 s4
  rw[ov]
  refine (ej U.length (fun i=>((i:Int),(tab a.n fun q=>if q∈U.take i then nV (U.idxOf q) else V.int .i64 (-1)))) _ (fun i hi=> ?_) ?_)
  ·have hq:=hU U[i] (List.getElem_mem hi)
   simp only[Fx,Az,un]
   refine bT (dm hi) ?_
   refine (lY (we hi)).trans ?_
   refine (ey (i:=U[i]) hq).trans ?_
   rw[cz (by omega)]
   refine congrArg (fun x=>some (Sum.inl (((i+1:Nat):Int),x))) ?_
   exact Sn KU hi
  ·simp only[Fx,Az,un]
   refine bF (bp (Nat.le_refl _)) ?_
   rw[bp (Nat.le_refl _),List.take_length]
   rfl
 refine bs l2 ?_
 have l4: ∀{c1 c2 c3 c4:Int} {s1 s2:List V},Loop (Fz CC ((nS U).length:Int) (a.L:Int) (a.st:Int) a.cC a.cD c1 c2 (iG U a.n) c3 c4 (nS U) s1 s2) (0,([]:List V),([]:List V))=some ((U.length:Int),false,(tab U.length fun i=>V.bool (a.trim.fin i)),(tab U.length fun i=>fo a.L (a.trim.nx i))):=by
  intro c1 c2 c3 c4 s1 s2
  rw[ov]
  refine (ej U.length (fun i=>((i:Int),(tab i fun i=>V.bool (a.trim.fin i)),(tab i fun i=>fo a.L (a.trim.nx i)))) _ (fun i hi=> ?_) ?_)
  ·have hq:=hU U[i] (List.getElem_mem hi)
   simp only[Fz,AB,un]
   refine bT (dm hi) ?_
   refine (lY (we hi)).trans ?_
   refine bs (Da.ma hq) ?_
   simp only[m8]
   refine bs (row hq (jM _ (List.getElem_mem hi))) ?_
   refine bT (cap (by rw[dA];simp;omega) (by omega)) ?_
   refine bs (Da.rM hq) ?_
   refine bT (cap (by rw[dA];simp;omega) (by omega)) ?_
   rw[cz (by omega),jU,jU,e1 hi,e2 hi]
   rfl
  ·simp only[Fz,AB,un]
   refine bF (bp (Nat.le_refl _)) ?_
   rw[bp (Nat.le_refl _)]
 refine bs l4 ?_
 rfl
end
end Go.AM
set_option maxRecDepth 100000
namespace Go.AM
open Go.Proofs
noncomputable abbrev Te:Code:=cx Tryd.prog (aw.aU 106)
noncomputable def AD (C:ag) (a b':List V) (t12 t13:Int) {β:Type} (kn:Int→Option β) (kr:((Bool) ⊕ (Int × Bool))→Option β):Option β:=
 bif decide ((t13:Int)<t12) then
  (idx a t13).bind fun x1=>
  (idx b' t13).bind fun x2=>
  bif (x1.toInt:Int) != x2.toInt then
  kr (.inl false)
  else
  kn (IntKind.wrap .i64 (t13+1))
 else
  kr (.inr (t13,decide ((t13:Int)<t12)))
noncomputable def Lh (C:ag) (a b':List V) (t12:Int):(Int)→Option ((Int) ⊕ ((Bool) ⊕ (Int × Bool))):=fun t13=>AD C a b' t12 t13 (fun y=>some (.inl y)) (fun r=>some (.inr r))
noncomputable def Tf (C:ag):ch:=fun β n ds k=>
 bif Nat.beq n 65 then bq JG [false,false,false,true] [[0],[1,2,3,0,0]] (@AD C) ds k else
 none
abbrev ad6 (C:ag) (b:cd):Prop:=cf Tryd.prog aw C (Tf C) 106 (cG Tryd.prog (aw.aU 106)) (aw.sin 106).aZ.length b
theorem ad7 (C:ag):ad6 C (.loop (ar [1,1,0,1,0,0] Te)):=
 bu JG [false,false,false,true] [[0],[1,2,3,0,0]] (@AD C) (by kernel_rfl) (aR (bs:=[]) (by kernel_rfl) av) (fun ds=>by kernel_rfl) (fun i x=>by kernel_rfl) (fun i x β k=>by kernel_rfl) (fun β ds k=>by kernel_rfl)
noncomputable def Tg (C:ag) (a b':List V):Option (List V):=
 bif ((a.length:Int):Int) != (b'.length:Int) then
  some [.bool false]
 else
  (Loop (Lh C a b' (a.length:Int)) 0).bind (cY (fun (jR:Bool)=>
   some [.bool jR]) (un fun (js:Int) (la:Bool)=>
   some [.bool true]))
theorem ad8 {a b':List V} {r:Option (List V)} (h:Tg CC a b'=r):CC D8 [.list ah a,.list ah b']=r:=
 bj (key:=106) (L:=Tf CC) (bs:=[.loop (ar [1,1,0,1,0,0] Te)]) (by kernel_rfl) (bd (ad7 CC) av) (Eq.trans (by kernel_rfl) h)
end Go.AM
set_option maxRecDepth 100000
namespace Go.AM
open Go.Proofs
noncomputable abbrev Th:Code:=cx Tryd.prog (aw.aU 104)
noncomputable def AE (C:ag) (t13:List V) (t14 t15:Int) (qA outs:List V) {β:Type} (kn:(Int × (List V) × (List V))→Option β) (kr:(Int × Bool × (List V) × (List V))→Option β):Option β:=
 bif decide ((t15:Int)<t14) then
  (idx t13 t15).bind fun x1=>
  bif cR .i64 x1.toInt&&true then
  bif !(fu (.int .i64 x1.toInt) qA) then
   bif cR .i64 x1.toInt&&true then
   bif (decide (0≤t15))&&(decide (t15<(outs.length:Int))) then
    (outs[(t15:Int).toNat]?).bind fun x2=>
    kn (IntKind.wrap .i64 (t15+1),eS (.int .i64 x1.toInt) (.int .i64 (qA.length:Int)) qA,outs.set ((t15:Int).toNat) (.int .i64 (qA.length:Int)))
   else none
   else none
  else
   bif (decide (0≤t15))&&(decide (t15<(outs.length:Int))) then
   (outs[(t15:Int).toNat]?).bind fun x3=>
   kn (IntKind.wrap .i64 (t15+1),qA,outs.set ((t15:Int).toNat) (.int .i64 ((gL (.int .i64 x1.toInt) qA (.int .i64 0)).toInt)))
   else none
  else none
 else
  kr (t15,decide ((t15:Int)<t14),qA,outs)
noncomputable def Li (C:ag) (t13:List V) (t14:Int):(Int × (List V) × (List V))→Option ((Int × (List V) × (List V)) ⊕ (Int × Bool × (List V) × (List V))):=un fun t15=>un fun qA outs=>AE C t13 t14 t15 qA outs (fun y=>some (.inl y)) (fun r=>some (.inr r))
noncomputable def Ti (C:ag):ch:=fun β n ds k=>
 bif Nat.beq n 65 then bq JE [false,false,true,true,true] [[1,2,0,0,0,0]] (@AE C) ds k else
 none
abbrev ad9 (C:ag) (b:cd):Prop:=cf Tryd.prog aw C (Ti C) 104 (cG Tryd.prog (aw.aU 104)) (aw.sin 104).aZ.length b
theorem aea (C:ag):ad9 C (.loop (ar [1,1,1,0,1,0,0] Th)):=
 bu JE [false,false,true,true,true] [[1,2,0,0,0,0]] (@AE C) (by kernel_rfl) (aR (bs:=[]) (by kernel_rfl) av) (fun ds=>by kernel_rfl) (fun i x=>by kernel_rfl) (fun i x β k=>by kernel_rfl) (fun β ds k=>by kernel_rfl)
noncomputable def Tj (C:ag) (l:List V):Option (List V):=
 bif (decide (0≤(l.length:Int)))&&((decide ((l.length:Int)≤(l.length:Int)))&&(Nat.ble ((((l.length:Int):Int).toNat)*8) bA)) then
  (Loop (Li C l (l.length:Int)) (0,([]:List V),List.replicate (((l.length:Int):Int).toNat) (V.int .i64 0))).bind (un fun (js:Int)=>un fun (la:Bool)=>un fun (aiC:List V) (aeb:List V)=>
   some [.list ah aeb])
 else none
theorem aec {l:List V} {r:Option (List V)} (h:Tj CC l=r):CC y4 [.list ah l]=r:=
 bj (key:=104) (L:=Ti CC) (bs:=[.loop (ar [1,1,1,0,1,0,0] Th)]) (by kernel_rfl) (bd (aea CC) av) (Eq.trans (by kernel_rfl) h)
end Go.AM
set_option maxRecDepth 100000
namespace Go.AM
open Go.Proofs
noncomputable abbrev Tk:Code:=cx Tryd.prog (aw.aU 105)
noncomputable def AF (C:ag) (p q:List V) (t11 t12:Int) (outs:List V) {β:Type} (kn:(Int × (List V))→Option β) (kr:(Int × Bool × (List V))→Option β):Option β:=
 bif decide ((t12:Int)<t11) then
  (idx p t12).bind fun x1=>
  (idx q t12).bind fun x2=>
  bif (decide (0≤t12))&&(decide (t12<(outs.length:Int))) then
  (outs[(t12:Int).toNat]?).bind fun x3=>
  kn (IntKind.wrap .i64 (t12+1),outs.set ((t12:Int).toNat) (.int .i64 (IntKind.wrap .i64 ((IntKind.wrap .i64 ((IntKind.wrap .i64 ((p.length:Int)+1))*x1.toInt))+x2.toInt))))
  else none
 else
  kr (t12,decide ((t12:Int)<t11),outs)
noncomputable def Lj (C:ag) (p q:List V) (t11:Int):(Int × (List V))→Option ((Int × (List V)) ⊕ (Int × Bool × (List V))):=un fun t12 outs=>AF C p q t11 t12 outs (fun y=>some (.inl y)) (fun r=>some (.inr r))
noncomputable def Tl (C:ag):ch:=fun β n ds k=>
 bif Nat.beq n 49 then bq JF [false,false,false,true,true] [[1,2,3,0,0,0]] (@AF C) ds k else
 none
abbrev aed (C:ag) (b:cd):Prop:=cf Tryd.prog aw C (Tl C) 105 (cG Tryd.prog (aw.aU 105)) (aw.sin 105).aZ.length b
theorem aee (C:ag):aed C (.loop (ar [1,1,0,1,0,0] Tk)):=
 bu JF [false,false,false,true,true] [[1,2,3,0,0,0]] (@AF C) (by kernel_rfl) (aR (bs:=[]) (by kernel_rfl) av) (fun ds=>by kernel_rfl) (fun i x=>by kernel_rfl) (fun i x β k=>by kernel_rfl) (fun β ds k=>by kernel_rfl)
noncomputable def Tm (C:ag) (p q:List V):Option (List V):=
 bif (decide (0≤(p.length:Int)))&&((decide ((p.length:Int)≤(p.length:Int)))&&(Nat.ble ((((p.length:Int):Int).toNat)*8) bA)) then
  (Loop (Lj C p q (p.length:Int)) (0,List.replicate (((p.length:Int):Int).toNat) (V.int .i64 0))).bind (un fun (js:Int)=>un fun (la:Bool) (aef:List V)=>
   (C y4 [.list ah aef]).bind fun r7=>
   some [.list ah ((V.nth r7 0).toList)])
 else none
theorem aeg {p q:List V} {r:Option (List V)} (h:Tm CC p q=r):CC D7 [.list ah p,.list ah q]=r:=
 bj (key:=105) (L:=Tl CC) (bs:=[.loop (ar [1,1,0,1,0,0] Tk)]) (by kernel_rfl) (bd (aee CC) av) (Eq.trans (by kernel_rfl) h)
end Go.AM
set_option maxRecDepth 100000
namespace Go.AM
open Go.Proofs
noncomputable abbrev rT:Code:=cx Tryd.prog (aw.aU 84)
noncomputable def AG (C:ag) (t14 aT ba:Int) (bm bh:List V) (t15:Int) (ps:List V) {β:Type} (kn:(Int × (List V))→Option β) (kr:(Int × Bool × (List V))→Option β):Option β:=
 bif decide ((t15:Int)<t14) then
  (idx bm t15).bind fun x1=>
  bif x1.toBool then
  bif (decide (0≤t15))&&(decide (t15<(ps.length:Int))) then
   (ps[(t15:Int).toNat]?).bind fun x2=>
   kn (IntKind.wrap .i64 (t15+1),ps.set ((t15:Int).toNat) (.int .i64 1))
  else none
  else
  kn (IntKind.wrap .i64 (t15+1),ps)
 else
  kr (t15,decide ((t15:Int)<t14),ps)
noncomputable def Lk (C:ag) (t14 aT ba:Int) (bm bh:List V):(Int × (List V))→Option ((Int × (List V)) ⊕ (Int × Bool × (List V))):=un fun t15 ps=>AG C t14 aT ba bm bh t15 ps (fun y=>some (.inl y)) (fun r=>some (.inr r))
noncomputable def AH (C:ag) (p next':List V) (x t37 aT ba:Int) (bm bh:List V) (t38:Int) (AI:List V) {β:Type} (kn:(Int × (List V))→Option β) (kr:(Int × Bool × (List V))→Option β):Option β:=
 bif decide ((t38:Int)<t37) then
  (idx bh t38).bind fun x7=>
  (idx x7.toList x).bind fun x8=>
  (idx p x8.toInt).bind fun x9=>
  bif Nat.ble ((AI.length+([.int .i64 x9.toInt]:List V).length)*8) bA then
  kn (IntKind.wrap .i64 (t38+1),AI++([.int .i64 x9.toInt]:List V))
  else none
 else
  kr (t38,decide ((t38:Int)<t37),AI)
noncomputable def FC (C:ag) (p next':List V) (x t37 aT ba:Int) (bm bh:List V):(Int × (List V))→Option ((Int × (List V)) ⊕ (Int × Bool × (List V))):=un fun t38 AI=>AH C p next' x t37 aT ba bm bh t38 AI (fun y=>some (.inl y)) (fun r=>some (.inr r))
noncomputable def AJ (C:ag) (p:List V) (aT ba:Int) (bm bh next':List V) (x:Int) {β:Type} (kn:((List V) × Int)→Option β) (kr:((List V) × Int × Bool)→Option β):Option β:=
 bif decide ((x:Int)<aT) then
  (Loop (FC C p next' x (p.length:Int) aT ba bm bh) (0,([]:List V))).bind (un fun (Sm:Int)=>un fun (FD:Bool) (aeh:List V)=>
   (C D7 [.list ah next',.list ah aeh]).bind fun r13=>
   kn ((V.nth r13 0).toList,IntKind.wrap .i64 (x+1)))
 else
  kr (next',x,decide ((x:Int)<aT))
noncomputable def FE (C:ag) (p:List V) (aT ba:Int) (bm bh:List V):((List V) × Int)→Option (((List V) × Int) ⊕ ((List V) × Int × Bool)):=un fun next' x=>AJ C p aT ba bm bh next' x (fun y=>some (.inl y)) (fun r=>some (.inr r))
noncomputable def AK (C:ag) (aT ba:Int) (bm bh p:List V) {β:Type} (kn:List V→Option β) (kr:(List V)→Option β):Option β:=
 (Loop (FE C p aT ba bm bh) (p,0)).bind (un fun (Tn:List V)=>un fun (aiD:Int) (wa:Bool)=>
  (C D8 [.list ah Tn,.list ah p]).bind fun eP=>
  bif (V.nth eP 0).toBool then
   kr p
  else
   kn Tn)
noncomputable def AL (C:ag) (aT ba:Int) (bm bh:List V):(List V)→Option ((List V) ⊕ (List V)):=fun p=>AK C aT ba bm bh p (fun y=>some (.inl y)) (fun r=>some (.inr r))
noncomputable def To (C:ag):ch:=fun β n ds k=>
 bif Nat.beq n 49 then bq Jj [false,true,false,false,false,false,true] [[1,0,0,3,4,5,6,0]] (@AG C) ds k else
 bif Nat.beq n 241 then bq Jk [false,false,false,false,true,false,false,false,false,true] [[1,2,3,4,0,0,6,7,8,9,0]] (@AH C) ds k else
 bif Nat.beq n 177 then bq Jl [false,true,true,false,false,false,false] [[1,0,0,0,4,5,6,7]] (@AJ C) ds k else
 bif Nat.beq n 145 then bq Jm [true,false,false,false,false] [[0]] (@AK C) ds k else
 none
abbrev FF (C:ag) (b:cd):Prop:=cf Tryd.prog aw C (To C) 84 (cG Tryd.prog (aw.aU 84)) (aw.sin 84).aZ.length b
theorem aei (C:ag):FF C (.loop (ar [1,1,0,1,0,0] rT)):=
 bu Jj [false,true,false,false,false,false,true] [[1,0,0,3,4,5,6,0]] (@AG C) (by kernel_rfl) (aR (bs:=[]) (by kernel_rfl) av) (fun ds=>by kernel_rfl) (fun i x=>by kernel_rfl) (fun i x β k=>by kernel_rfl) (fun β ds k=>by kernel_rfl)
theorem aej (C:ag):FF C (.loop (ar [1,1,1,1,0,0,0,1,0,1,0,0,1,0,0,1,0,1,0,0] rT)):=
 bu Jk [false,false,false,false,true,false,false,false,false,true] [[1,2,3,4,0,0,6,7,8,9,0]] (@AH C) (by kernel_rfl) (aR (bs:=[]) (by kernel_rfl) av) (fun ds=>by kernel_rfl) (fun i x=>by kernel_rfl) (fun i x β k=>by kernel_rfl) (fun β ds k=>by kernel_rfl)
theorem aek (C:ag):FF C (.loop (ar [1,1,1,1,0,0,0,1,0,1,0,0] rT)):=
 bu Jl [false,true,true,false,false,false,false] [[1,0,0,0,4,5,6,7]] (@AJ C) (by kernel_rfl) (aR (bs:=[.loop (ar [1,1,1,1,0,0,0,1,0,1,0,0,1,0,0,1,0,1,0,0] rT)]) (by kernel_rfl) (bd (aej C) av)) (fun ds=>by kernel_rfl) (fun i x=>by kernel_rfl) (fun i x β k=>by kernel_rfl) (fun β ds k=>by kernel_rfl)
theorem ael (C:ag):FF C (.loop (ar [1,1,1,1,0,0] rT)):=
 bu Jm [true,false,false,false,false] [[0]] (@AK C) (by kernel_rfl) (aR (bs:=[.loop (ar [1,1,1,1,0,0,0,1,0,1,0,0] rT)]) (by kernel_rfl) (bd (aek C) av)) (fun ds=>by kernel_rfl) (fun i x=>by kernel_rfl) (fun i x β k=>by kernel_rfl) (fun β ds k=>by kernel_rfl)
noncomputable def Tp (C:ag) (aX aY:Int) (aG bc:List V):Option (List V):=
 bif (decide (0≤(aG.length:Int)))&&((decide ((aG.length:Int)≤(aG.length:Int)))&&(Nat.ble ((((aG.length:Int):Int).toNat)*8) bA)) then
  (Loop (Lk C ((List.replicate (((aG.length:Int):Int).toNat) (V.int .i64 0)).length:Int) aX aY aG bc) (0,List.replicate (((aG.length:Int):Int).toNat) (V.int .i64 0))).bind (un fun (jR:Int)=>un fun (js:Bool) (aem:List V)=>
   (C y4 [.list ah aem]).bind fun r6=>
   (Loop (AL C aX aY aG bc) ((V.nth r6 0).toList)).bind (fun (Tq:List V)=>
    some [.list ah Tq]))
 else none
theorem aen {aX aY:Int} {aG bc:List V} {r:Option (List V)} (h:Tp CC aX aY aG bc=r):CC DY [.int .i64 aX,.int .i64 aY,.list ab aG,.list ae bc]=r:=
 bj (key:=84) (L:=To CC) (bs:=[.loop (ar [1,1,0,1,0,0] rT),.loop (ar [1,1,1,1,0,0] rT)]) (by kernel_rfl) (bd (aei CC) (bd (ael CC) av)) (Eq.trans (by kernel_rfl) h)
end Go.AM
set_option maxRecDepth 100000
namespace Go.AM
open Go.Proofs
noncomputable abbrev FG:Code:=cx Tryd.prog (aw.aU 53)
noncomputable def AN (C:ag) (p:List V) (pn q:Int) (t21:List V) (t22 t23:Int) (t37:List V) (t38 aT ba:Int) (bm bh:List V) (bO bP gp gq:Int) (dd bZ bB bx:List V) (t39:Int) (rows:List V) {β:Type} (kn:(Int × (List V))→Option β) (kr:(Int × Bool × (List V))→Option β):Option β:=
 bif decide ((t39:Int)<t38) then
  (idx t37 t39).bind fun x5=>
  (idx p x5.toInt).bind fun x6=>
  bif Nat.ble ((rows.length+([.int .i64 x6.toInt]:List V).length)*8) bA then
  kn (IntKind.wrap .i64 (t39+1),rows++([.int .i64 x6.toInt]:List V))
  else none
 else
  kr (t39,decide ((t39:Int)<t38),rows)
noncomputable def FH (C:ag) (p:List V) (pn q:Int) (t21:List V) (t22 t23:Int) (t37:List V) (t38 aT ba:Int) (bm bh:List V) (bO bP gp gq:Int) (dd bZ bB bx:List V):(Int × (List V))→Option ((Int × (List V)) ⊕ (Int × Bool × (List V))):=un fun t39 rows=>AN C p pn q t21 t22 t23 t37 t38 aT ba bm bh bO bP gp gq dd bZ bB bx t39 rows (fun y=>some (.inl y)) (fun r=>some (.inr r))
noncomputable def AO (C:ag) (p t21:List V) (t22 aT ba:Int) (bm bh:List V) (bO bP gp gq:Int) (hY dd:List V) (pn t23:Int) (bZ bB:List V) {β:Type} (kn:(Int × Int × (List V) × (List V))→Option β) (kr:(Int × Int × Bool × (List V) × (List V))→Option β):Option β:=
 bif decide ((t23:Int)<t22) then
  (idx t21 t23).bind fun x3=>
  bif (x3.toInt:Int) != pn then
  kn (pn,IntKind.wrap .i64 (t23+1),bZ,bB)
  else
  (idx bh t23).bind fun x4=>
  (Loop (FH C p (IntKind.wrap .i64 (pn+1)) t23 t21 t22 t23 x4.toList (x4.toList.length:Int) aT ba bm bh bO bP gp gq hY dd bZ bB) (0,([]:List V))).bind (un fun (kW:Int)=>un fun (mU:Bool) (Av:List V)=>
   bif Nat.ble ((bB.length+([.list ah Av]:List V).length)*24) bA then
    (idx bm t23).bind fun gG=>
    bif Nat.ble ((bZ.length+([.bool gG.toBool]:List V).length)*1) bA then
    kn (IntKind.wrap .i64 (pn+1),IntKind.wrap .i64 (t23+1),bZ++([.bool gG.toBool]:List V),bB++([.list ah Av]:List V))
    else none
   else none)
 else
  kr (pn,t23,decide ((t23:Int)<t22),bZ,bB)
noncomputable def FI (C:ag) (p t21:List V) (t22 aT ba:Int) (bm bh:List V) (bO bP gp gq:Int) (hY dd:List V):(Int × Int × (List V) × (List V))→Option ((Int × Int × (List V) × (List V)) ⊕ (Int × Int × Bool × (List V) × (List V))):=un fun pn=>un fun t23=>un fun bZ bB=>AO C p t21 t22 aT ba bm bh bO bP gp gq hY dd pn t23 bZ bB (fun y=>some (.inl y)) (fun r=>some (.inr r))
noncomputable def Tr (C:ag):ch:=fun β n ds k=>
 bif Nat.beq n 177 then bq I7 [false,false,false,false,false,false,false,false,true,false,false,false,false,false,false,false,false,true,false,false,false,false] [[1,2,3,4,5,6,7,8,0,0,10,11,12,13,14,15,16,17,0,19,20,21,22]] (@AN C) ds k else
 bif Nat.beq n 81 then bq I8 [false,true,false,false,true,false,false,false,false,false,false,false,false,false,false,true,true] [[1,0,3,4,0,0,6,7,8,9,10,11,12,13,14,15,0,0]] (@AO C) ds k else
 none
abbrev Ts (C:ag) (b:cd):Prop:=cf Tryd.prog aw C (Tr C) 53 (cG Tryd.prog (aw.aU 53)) (aw.sin 53).aZ.length b
theorem aeo (C:ag):Ts C (.loop (ar [1,1,1,1,0,1,0,0,1,1,0,0,1,1,1,1,0,1,0,0] FG)):=
 bu I7 [false,false,false,false,false,false,false,false,true,false,false,false,false,false,false,false,false,true,false,false,false,false] [[1,2,3,4,5,6,7,8,0,0,10,11,12,13,14,15,16,17,0,19,20,21,22]] (@AN C) (by kernel_rfl) (aR (bs:=[]) (by kernel_rfl) av) (fun ds=>by kernel_rfl) (fun i x=>by kernel_rfl) (fun i x β k=>by kernel_rfl) (fun β ds k=>by kernel_rfl)
theorem aep (C:ag):Ts C (.loop (ar [1,1,1,1,0,1,0,0] FG)):=
 bu I8 [false,true,false,false,true,false,false,false,false,false,false,false,false,false,false,true,true] [[1,0,3,4,0,0,6,7,8,9,10,11,12,13,14,15,0,0]] (@AO C) (by kernel_rfl) (aR (bs:=[.loop (ar [1,1,1,1,0,1,0,0,1,1,0,0,1,1,1,1,0,1,0,0] FG)]) (by kernel_rfl) (bd (aeo C) av)) (fun ds=>by kernel_rfl) (fun i x=>by kernel_rfl) (fun i x β k=>by kernel_rfl) (fun β ds k=>by kernel_rfl)
noncomputable def Tt (C:ag) (aX aY:Int) (aG bc:List V):Option (List V):=
 (C DY [.int .i64 aX,.int .i64 aY,.list ab aG,.list ae bc]).bind fun r1=>
 (idx ((V.nth r1 0).toList) aY).bind fun x2=>
 (Loop (FI C ((V.nth r1 0).toList) ((V.nth r1 0).toList) (((V.nth r1 0).toList).length:Int) aX aY aG bc 0 0 aX x2.toInt ([]:List V) ([]:List V)) (0,0,([]:List V),([]:List V))).bind (un fun (aiE:Int)=>un fun (wq:Int)=>un fun (oj:Bool)=>un fun (tQ:List V) (tI:List V)=>
  (C DZ [.int .i64 aX,.int .i64 x2.toInt,.list ab tQ,.list ae tI]).bind fun ju=>
  some [.int .i64 ((V.nth ju 0).toInt),.int .i64 ((V.nth (ju.drop 1) 0).toInt),.list ab ((V.nth (ju.drop 2) 0).toList),.list ae ((V.nth ((ju.drop 2).drop 1) 0).toList)])
theorem aeq {aX aY:Int} {aG bc:List V} {r:Option (List V)} (h:Tt CC aX aY aG bc=r):CC vM [.int .i64 aX,.int .i64 aY,.list ab aG,.list ae bc]=r:=
 bj (key:=53) (L:=Tr CC) (bs:=[.loop (ar [1,1,1,1,0,1,0,0] FG)]) (by kernel_rfl) (bd (aep CC) av) (Eq.trans (by kernel_rfl) h)
end Go.AM
set_option maxRecDepth 100000
set_option linter.unusedSimpArgs false
namespace Go.AM
open Go.Proofs
theorem ub {n:Nat} {c:Nat→Nat}:(cV n c).length=n:=by simp[cV]
theorem qB {n q:Nat} {c:Nat→Nat} (h:q<n):idx (cV n c) (q:Int)=some (nV (c q)):=mZ h
theorem FJ {n q:Nat} {f:Nat→V} {z v:V} (hv:v=f q):(tab n fun j=>if j<q then f j else z).set q v=tab n fun j=>if j<q+1 then f j else z:=by
 rw[hv,mX]
 refine eh fun j _=> ?_
 by_cases hj:j=q
 ·rw[if_pos hj,if_pos (by omega),hj]
 ·rw[if_neg hj]
  by_cases bU:j<q
  ·rw[if_pos bU,if_pos (by omega)]
  ·rw[if_neg bU,if_neg (by omega)]
theorem Ll {n:Nat} {f:Nat→V} {z:V}:(tab n fun j=>if j<n then f j else z)=tab n f:=eh fun j hj=>if_pos hj
theorem Tu {n:Nat} {g:Nat→Nat} (hn:n≤1000) (hg: ∀q,q<n→g q≤1000000000):CC y4 [.list ah (cV n g)]=some [.list ah (cV n (cl g n))]:=by
 refine aec ?_
 unfold Tj
 rw[ub]
 refine bT (lZ (by omega) (by omega)) ?_
 rw[Int.toNat_natCast,mY]
 refine bs (ej n (fun i=>((i:Int),fC nV 0 (aQ g i),(tab n fun q=>if q<i then nV (cl g n q) else nV 0))) ((n:Int),false,fC nV 0 (aQ g n),cV n (cl g n)) (fun q hq=> ?_) ?_) ?_
 ·have hle:=qw g q
  simp only[Li,AE,un]
  refine bT (dm hq) ?_
  refine bs (qB hq) ?_
  have hk:cR .i64 (g q:Int)=true:=ET (by have:=hg q hq;omega)
  refine bT (by simp only[nV,V.toInt_int,hk,Bool.and_self]) ?_
  have e1:=tP wc (g q) (aQ g q) 0
  rw[cz (by omega)]
  simp only[nV,V.toInt_int]
  rw[show (V.int .i64 (g q:Int))=nV (g q) from rfl]
  by_cases hx:g q∈aQ g q
  ·refine bF (by rw[show fu (nV (g q)) _=_ from e1];simpa using hx) ?_
   refine (ey hq).trans ?_
   have e2:=v7 wc (g q) (.int .i64 0) (aQ g q) 0 hx
   rw[Nat.zero_add,←Sp hq hx] at e2
   rw[show gL (nV (g q)) _ (.int .i64 0)=_ from e2,V.toInt_int,Int.toNat_natCast,KW hx]
   exact congrArg (fun x=>some (Sum.inl (((q+1:Nat):Int),fC nV 0 (aQ g q),x))) (FJ (f:=fun j=>nV (cl g n j)) rfl)
  ·refine bT (by rw[show fu (nV (g q)) _=_ from e1];simpa using hx) ?_
   refine bT (by simp only[hk,Bool.and_self]) ?_
   refine (ey hq).trans ?_
   have e2:=v8 wc (g q) (aQ g q) 0 hx
   rw[Nat.zero_add] at e2
   rw[show List.length (fC nV 0 (aQ g q))=(aQ g q).length from v5 _ _,show eS (nV (g q)) _ _=_ from e2,Int.toNat_natCast,←Sq hq hx,E1 hx]
   exact congrArg (fun x=>some (Sum.inl (((q+1:Nat):Int),fC nV 0 (aQ g q++[g q]),x))) (FJ (f:=fun j=>nV (cl g n j)) rfl)
 ·simp only[Li,AE,un]
  refine bF (bp (Nat.le_refl _)) ?_
  rw[bp (Nat.le_refl _)]
  exact congrArg (fun x=>some (Sum.inr ((n:Int),false,fC nV 0 (aQ g n),x))) (Ll (f:=fun j=>nV (cl g n j)))
 ·rfl
def kC (n:Nat) (p q:Nat→Nat) (i:Nat):Nat:=p i*(n+1)+q i
theorem aer {n:Nat} {p q:Nat→Nat} (hn:n≤512) (hp: ∀i,i<n→p i≤1000) (hq: ∀i,i<n→q i≤1000):CC D7 [.list ah (cV n p),.list ah (cV n q)]=some [.list ah (cV n (cl (kC n p q) n))]:=by
 have hb: ∀i,i<n→kC n p q i≤1000000000:=fun i hi=>by
  have h1:=hp i hi
  have h2:=hq i hi
  have:=Nat.mul_le_mul h1 (show n+1≤513 by omega)
  unfold kC
  omega
 refine aeg ?_
 unfold Tm
 rw[ub]
 refine bT (lZ (by omega) (by omega)) ?_
 rw[Int.toNat_natCast,mY]
 refine bs (ej n (fun i=>((i:Int),(tab n fun j=>if j<i then nV (kC n p q j) else nV 0))) ((n:Int),false,cV n (kC n p q)) (fun i hi=> ?_) ?_) ?_
 ·simp only[Lj,AF,un]
  refine bT (dm hi) ?_
  refine bs (qB hi) ?_
  refine bs (qB hi) ?_
  refine (ey hi).trans ?_
  have h1:=hp i hi
  have h2:=hq i hi
  have h3:=hb i hi
  have h4:IntKind.wrap .i64 ((IntKind.wrap .i64 ((IntKind.wrap .i64 (((cV n p).length:Int)+1))*(p i:Int)))+(q i:Int))=(kC n p q i:Int):=by
   rw[ub,cz (by omega)]
   have e:((n+1:Nat):Int)*(p i:Int)=((p i*(n+1):Nat):Int):=by rw[Nat.mul_comm];push_cast;rfl
   unfold kC at*
   rw[e]
   have h5:p i*(n+1)≤1000000000:=by omega
   generalize p i*(n+1)=z at*
   rw[wrap64 (x:=(z:Int)) (by omega) (by omega),wrap64 (by omega) (by omega)]
   push_cast;rfl
  simp only[nV,V.toInt_int]
  rw[h4,cz (by omega),Int.toNat_natCast]
  exact congrArg (fun x=>some (Sum.inl (((i+1:Nat):Int),x))) (FJ (f:=fun j=>nV (kC n p q j)) rfl)
 ·simp only[Lj,AF,un]
  refine bF (bp (Nat.le_refl _)) ?_
  rw[bp (Nat.le_refl _)]
  exact congrArg (fun x=>some (Sum.inr ((n:Int),false,x))) (Ll (f:=fun j=>nV (kC n p q j)))
 ·simp only[un]
  refine bs (Tu (by omega) hb) ?_
  rfl
theorem Tv {n:Nat} {p q:Nat→Nat} (hn:n≤1000):CC D8 [.list ah (cV n p),.list ah (cV n q)]=some [.bool (decide (∀i,i<n→p i=q i))]:=by
 refine ad8 ?_
 unfold Tg
 rw[ub,ub]
 refine bF (by simp) ?_
 refine bs (rK (fun i=>p i=q i) n (fun i=>(i:Int)) (.inl false:Bool ⊕ (Int × Bool)) (.inr ((n:Int),false)) (fun i hi=> ?_) ?_) ?_
 ·simp only[Lh,AD]
  refine bT (dm hi) ?_
  refine bs (qB hi) ?_
  refine bs (qB hi) ?_
  simp only[nV,V.toInt_int]
  by_cases h:p i=q i
  ·refine bF (by simp[h]) ?_
   rw[if_pos h,cz (by omega)]
  ·refine bT (by simp;omega) ?_
   rw[if_neg h]
 ·simp only[Lh,AD]
  refine bF (bp (Nat.le_refl _)) ?_
  rw[bp (Nat.le_refl _)]
 ·by_cases h: ∀i,i<n→p i=q i
  ·rw[if_pos h,decide_eq_true h];rfl
  ·rw[if_neg h,decide_eq_false h];rfl
theorem aes {n:Nat} {p q:Nat→Nat} {i j:Nat} (hi:q i≤n) (hj:q j≤n):kC n p q i=kC n p q j↔p i=p j∧q i=q j:=by
 unfold kC
 constructor
 ·intro h
  have h1:(p i*(n+1)+q i)/(n+1)=p i:=by rw[Nat.mul_comm,Nat.mul_add_div (by omega),Nat.div_eq_of_lt (by omega)];rfl
  have h2:(p j*(n+1)+q j)/(n+1)=p j:=by rw[Nat.mul_comm,Nat.mul_add_div (by omega),Nat.div_eq_of_lt (by omega)];rfl
  have h3:p i=p j:=by rw[←h1,←h2,h]
  rw[h3] at h
  exact ⟨h3,by omega⟩
 ·rintro ⟨h1,h2⟩
  rw[h1,h2]
section
variable {a:Da} (h:a.Ok)
def iY (a:Da) (c:Nat→Nat):Nat→Nat→Nat
 | 0=>c
 | x+1=>cl (kC a.n (iY a c x) fun q=>c (a.nx q x)) a.n
theorem Tw {c:Nat→Nat} (hc: ∀q,q<a.n→c q<a.n): ∀x q,q<a.n→iY a c x q<a.n
 | 0,q,hq=>hc q hq
 | x+1,q,hq=>by
  have h1:=z6 (g:=kC a.n (iY a c x) fun q=>c (a.nx q x)) hq
  have h2:=qw (kC a.n (iY a c x) fun q=>c (a.nx q x)) a.n
  show cl _ _ _<_
  omega
include h
theorem aet {c:Nat→Nat} (hc: ∀q,q<a.n→c q<a.n): ∀x,x≤a.L→∀q q',q<a.n→q'<a.n→(iY a c x q=iY a c x q'↔c q=c q'∧∀y,y<x→c (a.nx q y)=c (a.nx q' y)):=by
 intro x
 induction x with
 | zero=>intro _ q q' _ _;exact ⟨fun e=>⟨e,fun y hy=>by omega⟩,fun e=>e.1⟩
 | succ x ih=>
  intro hx q q' hq bY
  show cl _ _ _=cl _ _ _↔_
  rw[z7 hq bY,aes (by have:=hc _ (h.eO hq (show x<a.L by omega));omega) (by have:=hc _ (h.eO bY (show x<a.L by omega));omega),ih (by omega) q q' hq bY]
  constructor
  ·rintro ⟨⟨e1,e2⟩,e3⟩
   refine ⟨e1,fun y hy=> ?_⟩
   rcases Nat.lt_or_ge y x with c1|c1
   ·exact e2 y c1
   ·rw[show y=x by omega];exact e3
  ·rintro ⟨e1,e2⟩
   exact ⟨⟨e1,fun y hy=>e2 y (by omega)⟩,e2 x (by omega)⟩
theorem aeu {c:Nat→Nat} {x:Nat} (hx:x<a.L) {k1 k2:Int} {l1 l2:List V}:
  Loop (FC CC (cV a.n c) l1 (x:Int) ((cV a.n c).length:Int) k1 k2 l2 a.cD) (0,([]:List V))=some ((a.n:Int),false,cV a.n fun q=>c (a.nx q x)):=by
 have hm:=h.ew
 rw[ub]
 refine (ej a.n (fun t=>((t:Int),(tab t fun q=>nV (c (a.nx q x))))) _ (fun q hq=> ?_) ?_)
 ·simp only[FC,AH,un]
  refine bT (dm hq) ?_
  refine bs (Da.ma hq) ?_
  simp only[m8]
  refine bs (ou hx) ?_
  refine bs (qB (h.eO hq hx)) ?_
  refine bT (cap (by rw[dA];simp;omega) (by omega)) ?_
  rw[cz (by omega),jU]
  rfl
 ·simp only[FC,AH,un]
  refine bF (bp (Nat.le_refl _)) ?_
  rw[bp (Nat.le_refl _)]
  rfl
theorem Tx {c:Nat→Nat} (hc: ∀q,q<a.n→c q<a.n) {k2:Int} {l2:List V}:
  Loop (FE CC (cV a.n c) (a.L:Int) k2 l2 a.cD) (cV a.n c,0)=some (cV a.n (iY a c a.L),(a.L:Int),false):=by
 have hm:=h.ew
 have h6:=h.l6
 refine (ej a.L (fun x=>(cV a.n (iY a c x),(x:Int))) _ (fun x hx=> ?_) ?_)
 ·simp only[FE,AJ,un]
  refine bT (dm hx) ?_
  refine bs (aeu h hx) ?_
  refine bs (aer hm (fun q hq=>by have:=Tw hc x q hq;omega) fun q hq=>by have:=hc _ (h.eO hq hx);omega) ?_
  rw[cz (by omega)]
  rfl
 ·simp only[FE,AJ,un]
  refine bF (bp (Nat.le_refl _)) ?_
  rw[bp (Nat.le_refl _)]
theorem aev {c0:Nat→Nat} (hp0:a.Part c0) (ho0:m9 c0 a.n) (CU: ∀q,q<a.n→c0 q<a.n) {k2:Int} {l2:List V}: ∃p,Loop (AL CC (a.L:Int) k2 l2 a.cD) (cV a.n c0)=some (cV a.n p)∧a.tT p∧∀q,q<a.n→p q<a.n:=by
 have hm:=h.ew
 have:=P8 (step:=AL CC (a.L:Int) k2 l2 a.cD)
  (fun x=> ∃c,x=cV a.n c∧a.Part c∧m9 c a.n∧∀q,q<a.n→c q<a.n)
  (fun x=>a.n-(aQ (fun q=>(x.getD q (nV 0)).toInt) a.n).length)
  (fun r=> ∃p,r=cV a.n p∧a.tT p∧∀q,q<a.n→p q<a.n) (fun x hx=> ?_) (cV a.n c0) ⟨c0,rfl,hp0,ho0,CU⟩
 ·obtain ⟨r,h1,p,rfl,h2,h3⟩:=this
  exact ⟨p,h1,h2,h3⟩
 ·obtain ⟨c,rfl,hp,ho,hc⟩:=hx
  have na:a.E2 c (iY a c a.L):=fun q q' hq bY=>(aet h hc a.L (Nat.le_refl _) q q' hq bY).trans Da.tS.symm
  have hb:=Tw hc a.L
  have tX: ∀q q',q<a.n→q'<a.n→iY a c a.L q=iY a c a.L q'→c q=c q':=fun q q' hq bY e=>(Da.tS.1 ((na q q' hq bY).1 e)).1
  have iQ:m9 (iY a c a.L) a.n:=by
   have h1:=h.l1
   obtain ⟨m,hm⟩: ∃m,a.L=m+1:=⟨a.L-1,by omega⟩
   rw[hm]
   exact KX _ _
  by_cases he: ∀q,q<a.n→iY a c a.L q=c q
  ·right
   refine ⟨_,?_,c,rfl,⟨hp.Su h fun q q' hq bY e=>(na q q' hq bY).1 (by rw[he q hq,he q' bY,e]),ho⟩,hc⟩
   simp only[AL,AK,un]
   refine bs (Tx h hc) ?_
   refine bs (Tv (by omega)) ?_
   refine bT (by simpa using he) ?_
   rfl
  ·left
   refine ⟨cV a.n (iY a c a.L),?_,⟨iY a c a.L,rfl,na.part h hp,iQ,hb⟩,?_⟩
   ·simp only[AL,AK,un]
    refine bs (Tx h hc) ?_
    refine bs (Tv (by omega)) ?_
    refine bF (by rw[V.bQ,V.mP];exact decide_eq_false he) ?_
    rfl
   ·have ec: ∀d:Nat→Nat,(aQ (fun q=>((cV a.n d).getD q (nV 0)).toInt) a.n).length=(aQ d a.n).length:=fun d=>by
     have key: ∀m,m≤a.n→aQ (fun q=>((cV a.n d).getD q (nV 0)).toInt) m=(aQ d m).map fun n:Nat=>(n:Int):=by
      intro m
      induction m with
      | zero=>intro _;rfl
      | succ m ih=>
       intro hm
       have e:((cV a.n d).getD m (nV 0)).toInt=(d m:Int):=by unfold cV;rw[vY (by omega)];rfl
       rw[aQ,aQ,ih (by omega),e]
       unfold cN
       by_cases hx:d m∈aQ d m
       ·rw[if_pos hx,if_pos (List.mem_map.2 ⟨d m,hx,rfl⟩)]
       ·rw[if_neg hx,if_neg]
        ·simp
        ·intro h2
         obtain ⟨y,h3,h4⟩:=List.mem_map.1 h2
         exact hx ((show y=d m by omega)▸h3)
     rw[key a.n (Nat.le_refl _),List.length_map]
    simp only[ec]
    have ac0:=Ss tX
    have hle:=qw (iY a c a.L) a.n
    have bM:(aQ c a.n).length≠(aQ (iY a c a.L) a.n).length:=by
     intro e
     have bJ:=KY tX (by omega)
     refine he fun q hq=> ?_
     have h1:=acK (f:=iY a c a.L) (c:=c) (fun s s' hs rv=>⟨tX s s' hs rv,bJ s s' hs rv⟩) q hq
     have own: ∀(d:Nat→Nat),m9 d a.n→cl d a.n q=d q:=fun d hd=>by
      have h2:d q∈aQ d a.n:=iH.2 ⟨q,hq,rfl⟩
      unfold cl
      rw[hd a.n (Nat.le_refl _)] at h2⊢
      have h3:=List.mem_range.1 h2
      have h4:=(List.nodup_range (n:=(aQ d a.n).length)).idxOf_getElem (d q) (by rw[List.length_range];exact h3)
      rwa [List.getElem_range] at h4
     rw[own _ iQ,own _ ho] at h1
     exact h1
    omega
theorem Tz: ∃p,CC DY (dv a)=some [.list ah (cV a.n p)]∧a.tT p∧∀q,q<a.n→p q<a.n:=by
 have hm:=h.ew
 have hf0: ∀q,q<a.n→(if a.fin q=true then 1 else 0)≤1000000000:=fun q _=>by split<;>omega
 have hb: ∀q,q<a.n→cl (fun q=>if a.fin q=true then 1 else 0) a.n q<a.n:=fun q hq=>by
  have h1:=z6 (g:=fun q=>if a.fin q=true then 1 else 0) hq
  have h2:=qw (fun q=>if a.fin q=true then 1 else 0) a.n
  omega
 obtain ⟨p,h1,h2,h3⟩:=aev h (c0:=cl (fun q=>if a.fin q=true then 1 else 0) a.n)
  ⟨fun q q' hq bY he=>(z7 hq bY).2 (by have:=he [] WL.nil;rw[Da.mW,Da.mW] at this;rw[this]),
   fun q q' hq bY he=>by
   have h1:=(z7 hq bY).1 he
   revert h1
   cases a.fin q<;>cases a.fin q'<;>simp⟩ (KX _ _) hb (k2:=(a.st:Int)) (l2:=a.cC)
 refine ⟨p,aen ?_,h2,h3⟩
 unfold Tp
 rw[Da.m7]
 refine bT (lZ (by omega) (by omega)) ?_
 rw[Int.toNat_natCast,mY,dA]
 refine bs (ej a.n (fun i=>((i:Int),(tab a.n fun j=>if j<i then nV (if a.fin j=true then 1 else 0) else nV 0))) ((a.n:Int),false,cV a.n fun q=>if a.fin q=true then 1 else 0) (fun q hq=> ?_) ?_) ?_
 ·simp only[Lk,AG,un]
  refine bT (dm hq) ?_
  refine bs (Da.rM hq) ?_
  rw[cz (by omega),V.mP]
  cases hf:a.fin q with
  | true=>
   refine bT rfl ?_
   refine (ey hq).trans ?_
   rw[Int.toNat_natCast]
   exact congrArg (fun x=>some (Sum.inl (((q+1:Nat):Int),x))) (FJ (f:=fun j=>nV (if a.fin j=true then 1 else 0)) (by rw[hf];rfl))
  | false=>
   refine bF rfl ?_
   refine congrArg (fun x=>some (Sum.inl (((q+1:Nat):Int),x))) (eh fun j _=> ?_)
   by_cases hj:j=q
   ·rw[if_neg (show¬j<q by omega),if_pos (show j<q+1 by omega),hj,hf];rfl
   ·by_cases bU:j<q
    ·rw[if_pos bU,if_pos (show j<q+1 by omega)]
    ·rw[if_neg bU,if_neg (show¬j<q+1 by omega)]
 ·simp only[Lk,AG,un]
  refine bF (bp (Nat.le_refl _)) ?_
  rw[bp (Nat.le_refl _)]
  exact congrArg (fun x=>some (Sum.inr ((a.n:Int),false,x))) (Ll (f:=fun j=>nV (if a.fin j=true then 1 else 0)))
 ·simp only[un]
  refine bs (Tu (by omega) hf0) ?_
  refine bs h1 ?_
  rfl
theorem aew {p:Nat→Nat} {q:Nat} (hq:q<a.n) {k1 k2 k3 k4 k5 k6 k7 k8 k9 K7:Int} {l1 l2 l3 l4 l5 l6 l7:List V}:
  Loop (FH CC (cV a.n p) k1 k2 l1 k3 k4 (tab a.L fun x=>iV (a.nx q x)) ((tab a.L fun x=>iV (a.nx q x)).length:Int) k5 k6 l2 l3 k7 k8 k9 K7 l4 l5 l6 l7) (0,([]:List V))=
   some ((a.L:Int),false,(tab a.L fun x=>nV (p (a.nx q x)))):=by
 have h6:=h.l6
 rw[dA]
 refine (ej a.L (fun t=>((t:Int),(tab t fun x=>nV (p (a.nx q x))))) _ (fun t ht=> ?_) ?_)
 ·simp only[FH,AN,un]
  refine bT (dm ht) ?_
  refine bs (ou ht) ?_
  refine bs (qB (h.eO hq ht)) ?_
  refine bT (cap (by rw[dA];simp;omega) (by omega)) ?_
  rw[cz (by omega),jU]
  rfl
 ·simp only[FH,AN,un]
  refine bF (bp (Nat.le_refl _)) ?_
  rw[bp (Nat.le_refl _)]
theorem aex {p:Nat→Nat} (ho:m9 p a.n) {k2 k3 k4 k5 k6:Int} {l4 l5:List V}:
  Loop (FI CC (cV a.n p) (cV a.n p) ((cV a.n p).length:Int) (a.L:Int) k2 a.cC a.cD k3 k4 k5 k6 l4 l5) (0,0,([]:List V),([]:List V))=
   some (((Da.dE p a.n).length:Int),(a.n:Int),false,qF a p a.n,qN a p a.n):=by
 have h6:=h.l6
 have hm:=h.ew
 rw[ub]
 refine (ej a.n (fun i=>(((Da.dE p i).length:Int),(i:Int),qF a p i,qN a p i)) _ (fun q hq=> ?_) ?_)
 ·have hle:=K6 p q
  have hF:(qF a p q).length=(Da.dE p q).length:=by simp[qF]
  have hN:(qN a p q).length=(Da.dE p q).length:=by simp[qN]
  simp only[FI,AO,un]
  refine bT (dm hq) ?_
  refine bs (qB hq) ?_
  rw[cz (by omega)]
  simp only[nV,V.toInt_int]
  by_cases hx:p q∈aQ p q
  ·have:=(K5 ho hq).1 hx
   refine bT (by simp;omega) ?_
   unfold qF qN
   rw[Da.dE,if_pos hx]
  ·have e:p q=(Da.dE p q).length:=by
    have h1:=ho (q+1) (by omega)
    rw[E1 hx,List.length_append,List.length_singleton,List.range_succ] at h1
    rw[Da.wg]
    exact List.singleton_inj.1 (List.append_inj_right h1 (by simp))
   refine bF (by rw[e];simp) ?_
   refine bs (Da.ma hq) ?_
   simp only[m8]
   refine bs (aew h hq) ?_
   refine bT (cap (by rw[hN];simp;omega) (by omega)) ?_
   refine bs (Da.rM hq) ?_
   refine bT (cap (by rw[hF];simp;omega) (by omega)) ?_
   unfold qF qN
   rw[Da.dE,if_neg hx,List.map_append,List.map_append,List.length_append,cz (by omega)]
   rfl
 ·simp only[FI,AO,un]
  refine bF (bp (Nat.le_refl _)) ?_
  rw[bp (Nat.le_refl _)]
theorem Lm:CC vM (dv a)=some (dv (minD a)):=by
 obtain ⟨p,c1,c2,c3⟩:=Tz h
 have hq:=Da.E4 h c2
 obtain ⟨q1,q2⟩:=SJ (a:=a) (p:=p)
 rw[←wv h (Da.KZ h c2)]
 refine aeq ?_
 unfold Tt
 refine bs c1 ?_
 refine bs (qB h.s) ?_
 refine bs (aex h c2.2) ?_
 simp only[un]
 rw[←q1,←q2]
 have vm:=ad5 hq
 refine bs vm ?_
 rfl
end
end Go.AM
set_option maxRecDepth 100000
set_option linter.unusedSimpArgs false
namespace Go.AM
open Go.Proofs Go.Sort
section
variable {α:Type} {enc:α→V}
def po (enc:α→V) (d:Array α):List V:=d.toList.map enc
theorem fQ (d:Array α):(po enc d).length=d.size:=by simp[po]
theorem fR (d:Array α) (i:Nat) (x:α):(po enc d).set i (enc x)=po enc (d.setIfInBounds i x):=by
 unfold po;rw[Array.toList_setIfInBounds,List.map_set]
variable [Inhabited α]
theorem fS {d:Array α} {i:Nat} (h:i<d.size):(po enc d)[i]? =some (enc d[i]!):=by
 unfold po;rw[List.getElem?_map,Array.getElem?_toList,Array.getElem?_eq_getElem h,getElem!_pos d i h];rfl
theorem hZ {d:Array α} {i j:Nat} {x:α} (h:i<d.size):(po enc (d.setIfInBounds j x))[i]? =some (enc (d.setIfInBounds j x)[i]!):=fS (by rw[Array.size_setIfInBounds];exact h)
theorem fT (a b:Nat):(a:Int)+(b:Int)=((a+b:Nat):Int):=(Int.natCast_add a b).symm
theorem dF (a:Nat):(a:Int)+1=((a+1:Nat):Int):=rfl
theorem rU (a:Nat):((a+1:Nat):Int)-1=(a:Int):=by omega
theorem AP (a:Nat):(a:Int)*2=((a*2:Nat):Int):=by omega
theorem mi {a b:Nat} (h:b≤a):(a:Int)-(b:Int)=((a-b:Nat):Int):=by omega
theorem jv {a:Nat} (h:1≤a):(a:Int)-1=((a-1:Nat):Int):=by omega
theorem divC (a b:Nat):Int.tdiv (a:Int) (b:Int)=((a/b:Nat):Int):=by rw[Int.tdiv_eq_ediv_of_nonneg (by omega)];rfl
theorem nc {p:Prop} [Decidable p] (h:p):decide p=true:=decide_eq_true h
theorem qC {p:Prop} [Decidable p] (h: ¬p):decide p=false:=decide_eq_false h
variable {lt:α→α→Bool}
theorem TA (a j:Nat) (d:Array α):insInner lt a (j+1) d=if j+1>a&&lt d[j+1]! d[j]! then insInner lt a j (swp d (j+1) j) else d:=rfl
theorem Ln {a:Nat}: ∀(j:Nat) (d:Array α),(insInner lt a j d).size=d.size
 | 0,d=>rfl
 | j+1,d=>by
  rw[TA]
  split
  ·rw[Ln j,size_swp]
  ·rfl
theorem AQ (hi first:Nat): ∀(n root:Nat) (d:Array α),hi-root≤n→(siftDown lt hi first root d).size=d.size:=by
 intro n
 induction n with
 | zero=>intro root d h;rw[siftDown,dif_pos (by omega)]
 | succ n ih=>
  intro root d h
  rw[siftDown]
  split
  ·rfl
  ·split
   ·split
    ·rfl
    ·split
     ·rw[ih _ _ (by omega),size_swp]
     ·rfl
   ·split
    ·rfl
    ·rw[ih _ _ (by omega),size_swp]
theorem Lo (hi first:Nat): ∀(k:Nat) (d:Array α),(heapBuild lt hi first k d).size=d.size
 | 0,d=>rfl
 | k+1,d=>by rw[heapBuild,Lo,AQ _ _ _ _ _ (Nat.le_refl _)]
end
end Go.AM
set_option maxRecDepth 100000
namespace Go.AM
open Go.Proofs
noncomputable abbrev FK:Code:=cx Tryd.prog (aw.aU 92)
noncomputable def AR (C:ag) (t7:List V) (t8 t9:Int) (outs:List V) (Lp Lq Lr k':Int) {β:Type} (kn:Int→Option β) (kr:(Int × Bool)→Option β):Option β:=
 bif decide ((k':Int)>0) then
  bif (decide (0≤(IntKind.wrap .i64 (k'-1))))&&(decide ((IntKind.wrap .i64 (k'-1))<(outs.length:Int))) then
  (outs[(IntKind.wrap .i64 (k'-1):Int).toNat]?).bind fun x2=>
  (C y7 [.int .i64 Lp,.int .i64 Lq,.int .i64 Lr,.int .i64 ((x2.cell 0).toInt),.int .i64 ((x2.cell 1).toInt),.int .i64 ((x2.cell 2).toInt)]).bind fun r3=>
  bif (V.nth r3 0).toBool then
   kn (IntKind.wrap .i64 (k'-1))
  else
   kr (k',(V.nth r3 0).toBool)
  else none
 else
  kr (k',false)
noncomputable def AS (C:ag) (t7:List V) (t8 t9:Int) (outs:List V) (Lp Lq Lr:Int):(Int)→Option ((Int) ⊕ (Int × Bool)):=fun k'=>AR C t7 t8 t9 outs Lp Lq Lr k' (fun y=>some (.inl y)) (fun r=>some (.inr r))
noncomputable def AT (C:ag) (t7:List V) (t8 t9:Int) (outs:List V) {β:Type} (kn:(Int × (List V))→Option β) (kr:(Int × Bool × (List V))→Option β):Option β:=
 bif decide ((t9:Int)<t8) then
  (idx t7 t9).bind fun x1=>
  (Loop (AS C t7 t8 t9 outs ((x1.cell 0).toInt) ((x1.cell 1).toInt) ((x1.cell 2).toInt)) (outs.length:Int)).bind (un fun (e8:Int) (la:Bool)=>
   bif (e8:Int)==0 then
   bif (decide (0≤e8))&&(decide (e8≤(outs.length:Int))) then
    bif Nat.ble ((([]:List V).length+((outs.drop 0).take (((e8:Int).toNat)-0)).length)*24) bA then
    bif Nat.ble (((([]:List V)++((outs.drop 0).take (((e8:Int).toNat)-0))).length+([.agg [.int .i64 ((x1.cell 0).toInt),.int .i64 ((x1.cell 1).toInt),.int .i64 ((x1.cell 2).toInt)]]:List V).length)*24) bA then
     bif (decide (0≤e8))&&(decide (e8≤(outs.length:Int))) then
     bif Nat.ble ((((([]:List V)++((outs.drop 0).take (((e8:Int).toNat)-0)))++([.agg [.int .i64 ((x1.cell 0).toInt),.int .i64 ((x1.cell 1).toInt),.int .i64 ((x1.cell 2).toInt)]]:List V)).length+((outs.drop ((e8:Int).toNat)).take (outs.length-((e8:Int).toNat))).length)*24) bA then
      kn (IntKind.wrap .i64 (t9+1),((([]:List V)++((outs.drop 0).take (((e8:Int).toNat)-0)))++([.agg [.int .i64 ((x1.cell 0).toInt),.int .i64 ((x1.cell 1).toInt),.int .i64 ((x1.cell 2).toInt)]]:List V))++((outs.drop ((e8:Int).toNat)).take (outs.length-((e8:Int).toNat))))
     else none
     else none
    else none
    else none
   else none
   else
   bif (decide (0≤(IntKind.wrap .i64 (e8-1))))&&(decide ((IntKind.wrap .i64 (e8-1))<(outs.length:Int))) then
    (outs[(IntKind.wrap .i64 (e8-1):Int).toNat]?).bind fun x6=>
    bif !(((((x6.cell 0).toInt):Int)==((x1.cell 0).toInt))&&(((((x6.cell 1).toInt):Int)==((x1.cell 1).toInt))&&(((((x6.cell 2).toInt):Int)==((x1.cell 2).toInt))&&true))) then
    bif (decide (0≤e8))&&(decide (e8≤(outs.length:Int))) then
     bif Nat.ble ((([]:List V).length+((outs.drop 0).take (((e8:Int).toNat)-0)).length)*24) bA then
     bif Nat.ble (((([]:List V)++((outs.drop 0).take (((e8:Int).toNat)-0))).length+([.agg [.int .i64 ((x1.cell 0).toInt),.int .i64 ((x1.cell 1).toInt),.int .i64 ((x1.cell 2).toInt)]]:List V).length)*24) bA then
      bif (decide (0≤e8))&&(decide (e8≤(outs.length:Int))) then
      bif Nat.ble ((((([]:List V)++((outs.drop 0).take (((e8:Int).toNat)-0)))++([.agg [.int .i64 ((x1.cell 0).toInt),.int .i64 ((x1.cell 1).toInt),.int .i64 ((x1.cell 2).toInt)]]:List V)).length+((outs.drop ((e8:Int).toNat)).take (outs.length-((e8:Int).toNat))).length)*24) bA then
       kn (IntKind.wrap .i64 (t9+1),((([]:List V)++((outs.drop 0).take (((e8:Int).toNat)-0)))++([.agg [.int .i64 ((x1.cell 0).toInt),.int .i64 ((x1.cell 1).toInt),.int .i64 ((x1.cell 2).toInt)]]:List V))++((outs.drop ((e8:Int).toNat)).take (outs.length-((e8:Int).toNat))))
      else none
      else none
     else none
     else none
    else none
    else
    kn (IntKind.wrap .i64 (t9+1),outs)
   else none)
 else
  kr (t9,decide ((t9:Int)<t8),outs)
noncomputable def AU (C:ag) (t7:List V) (t8:Int):(Int × (List V))→Option ((Int × (List V)) ⊕ (Int × Bool × (List V))):=un fun t9 outs=>AT C t7 t8 t9 outs (fun y=>some (.inl y)) (fun r=>some (.inr r))
noncomputable def TB (C:ag):ch:=fun β n ds k=>
 bif Nat.beq n 97 then bq Jx [true,false,false,false,false,false,false,false] [[0,2,3,4,0,5,6,7,8]] (@AR C) ds k else
 bif Nat.beq n 49 then bq Jy [false,false,true,true] [[1,2,0,0,0]] (@AT C) ds k else
 none
abbrev TC (C:ag) (b:cd):Prop:=cf Tryd.prog aw C (TB C) 92 (cG Tryd.prog (aw.aU 92)) (aw.sin 92).aZ.length b
theorem aey (C:ag):TC C (.loop (ar [1,1,0,1,0,0,1,1,0,0,1,1,0,0,0] FK)):=
 bu Jx [true,false,false,false,false,false,false,false] [[0,2,3,4,0,5,6,7,8]] (@AR C) (by kernel_rfl) (aR (bs:=[]) (by kernel_rfl) av) (fun ds=>by kernel_rfl) (fun i x=>by kernel_rfl) (fun i x β k=>by kernel_rfl) (fun β ds k=>by kernel_rfl)
theorem aez (C:ag):TC C (.loop (ar [1,1,0,1,0,0] FK)):=
 bu Jy [false,false,true,true] [[1,2,0,0,0]] (@AT C) (by kernel_rfl) (aR (bs:=[.loop (ar [1,1,0,1,0,0,1,1,0,0,1,1,0,0,0] FK)]) (by kernel_rfl) (bd (aey C) av)) (fun ds=>by kernel_rfl) (fun i x=>by kernel_rfl) (fun i x β k=>by kernel_rfl) (fun β ds k=>by kernel_rfl)
noncomputable def TD (C:ag) (l:List V):Option (List V):=
 (Loop (AU C l (l.length:Int)) (0,([]:List V))).bind (un fun (kW:Int)=>un fun (mU:Bool) (aeA:List V)=>
  some [.list af aeA])
theorem aeB {l:List V} {r:Option (List V)} (h:TD CC l=r):CC D2 [.list af l]=r:=
 bj (key:=92) (L:=TB CC) (bs:=[.loop (ar [1,1,0,1,0,0] FK)]) (by kernel_rfl) (bd (aez CC) av) (Eq.trans (by kernel_rfl) h)
end Go.AM
set_option maxRecDepth 100000
set_option linter.unusedSimpArgs false
set_option maxHeartbeats 1000000
namespace Go.AM
open Go.Proofs
theorem Ed.lt_irrefl (a:Ed): ¬a.lt a:=by unfold Ed.lt;omega
theorem Ed.lt_trans {a b c:Ed}:a.lt b→b.lt c→a.lt c:=by unfold Ed.lt;omega
theorem Ed.lt_asymm {a b:Ed}:a.lt b→¬b.lt a:=by unfold Ed.lt;omega
theorem Ed.TE {a b:Ed} (h1: ¬a.lt b) (h2: ¬b.lt a):a=b:=by
 cases a;cases b
 simp only[Ed.lt,Ed.mk.injEq] at*
 omega
abbrev nd (E:List Ed):Prop:=E.Pairwise Ed.lt
def Ed.key (e:Ed):Nat:=(e.f.toNat*6+e.l.toNat)*64+e.t.toNat
theorem Ed.aeC {a b:Ed} {L S:Int} (hL:L≤6) (hS:S≤64) (ha:a.In L S) (hb:b.In L S) (h:a.lt b):a.key<b.key:=by
 unfold Ed.In at ha hb
 unfold Ed.lt at h
 unfold Ed.key
 omega
theorem aeD {L S:Int} (hL:L≤6) (hS:S≤64): ∀(E:List Ed),nd E→(∀e∈E,e.In L S)→∀i (hi:i<E.length),i≤E[i].key:=by
 intro E h hE i
 induction i with
 | zero=>intro hi;omega
 | succ i ih=>
  intro hi
  have h1:=ih (by omega)
  have h2:=(List.pairwise_iff_getElem.1 h) i (i+1) (by omega) hi (by omega)
  have:=Ed.aeC hL hS (hE _ (List.getElem_mem _)) (hE _ (List.getElem_mem _)) h2
  omega
theorem aeE {L S:Int} (hL:L≤6) (hS:S≤64) {E:List Ed} (h:nd E) (hE: ∀e∈E,e.In L S):E.length≤24576:=by
 by_cases h0:E.length=0
 ·omega
 ·have h1:=aeD hL hS E h hE (E.length-1) (by omega)
  have h2:=hE E[E.length-1] (List.getElem_mem _)
  unfold Ed.In at h2
  unfold Ed.key at h1
  omega
theorem Ls: ∀{A B:List Ed},nd A→nd B→(∀x,x∈A↔x∈B)→A=B
 | [],[],_,_,_=>rfl
 | [],b::B,_,_,h=>by have:=(h b).2 (by simp);cases this
 | a::A,[],_,_,h=>by have:=(h a).1 (by simp);cases this
 | a::A,b::B,hA,hB,h=>by
  have a1:=List.pairwise_cons.1 hA
  have b1:=List.pairwise_cons.1 hB
  have fK:a=b:=by
   have ha:=(h a).1 (by simp)
   have hb:=(h b).2 (by simp)
   rcases List.mem_cons.1 ha with e|e
   ·exact e
   ·rcases List.mem_cons.1 hb with e'|e'
    ·exact e'.symm
    ·exact absurd (a1.1 b e') (Ed.lt_asymm (b1.1 a e))
  subst fK
  rw[Ls a1.2 b1.2 fun x=> ?_]
  constructor
  ·intro hx
   rcases List.mem_cons.1 ((h x).1 (by simp[hx])) with e|e
   ·subst e;exact absurd (a1.1 x hx) (Ed.lt_irrefl x)
   ·exact e
  ·intro hx
   rcases List.mem_cons.1 ((h x).2 (by simp[hx])) with e|e
   ·subst e;exact absurd (b1.1 x hx) (Ed.lt_irrefl x)
   ·exact e
def ia (out:List Ed) (e:Ed):Nat→Nat
 | 0=>0
 | k+1=>if e.lt (out.getD k default) then ia out e k else k+1
def nf (out:List Ed) (e:Ed):List Ed:=
 if ia out e out.length=0∨¬out.getD (ia out e out.length-1) default=e then out.take (ia out e out.length)++[e]++out.drop (ia out e out.length) else out
def ng (l:List Ed):List Ed:=l.foldl nf []
theorem AV (out:List Ed) (e:Ed): ∀k,ia out e k≤k
 | 0=>Nat.le_refl _
 | k+1=>by unfold ia;split;exact Nat.le_succ_of_le (AV out e k);exact Nat.le_refl _
theorem TF (out:List Ed) (e:Ed): ∀k i,ia out e k≤i→i<k→e.lt (out.getD i default)
 | 0,i,_,h=>by omega
 | k+1,i,h1,h2=>by
  unfold ia at h1
  split at h1
  ·rename_i h3
   by_cases hi:i=k
   ·subst hi;exact h3
   ·exact TF out e k i h1 (by omega)
  ·omega
theorem TG (out:List Ed) (e:Ed): ∀k,ia out e k≠0→¬e.lt (out.getD (ia out e k-1) default)
 | 0,h=>by simp[ia] at h
 | k+1,h=>by
  unfold ia at h⊢
  split
  ·rename_i h3
   rw[if_pos h3] at h
   exact TG out e k h
  ·rename_i h3
   simpa using h3
theorem aeF {out:List Ed} {e x:Ed} (hk:ia out e out.length≤out.length):x∈nf out e↔x=e∨x∈out:=by
 unfold nf
 split
 ·rename_i h
  have:=List.take_append_drop (ia out e out.length) out
  constructor
  ·intro hx
   simp only[List.append_assoc,List.mem_append,List.mem_singleton] at hx
   rcases hx with hx|hx|hx
   ·exact .inr (List.mem_of_mem_take hx)
   ·exact .inl hx
   ·exact .inr (List.mem_of_mem_drop hx)
  ·rintro (rfl|hx)
   ·simp
   ·rw[←this] at hx
    simp only[List.mem_append] at hx
    simp only[List.append_assoc,List.mem_append,List.mem_singleton]
    rcases hx with hx|hx
    ·exact .inl hx
    ·exact .inr (.inr hx)
 ·rename_i h
  simp only[not_or,Classical.not_not] at h
  constructor
  ·exact .inr
  ·rintro (rfl|hx)
   ·have h1:=h.2
    have h2:ia out x out.length-1<out.length:=by omega
    rw[←h1]
    simp[h2]
   ·exact hx
theorem aeG {out:List Ed} {e:Ed} (h:nd out):nd (nf out e):=by
 have hk:=AV out e out.length
 have up:=TF out e out.length
 have dn:=TG out e out.length
 unfold nf
 generalize hq:ia out e out.length=k at*
 split
 ·rename_i hc
  have g:=List.pairwise_iff_getElem.1 h
  have iB: ∀x∈out.take k,x.lt e:=by
   intro x hx
   obtain ⟨i,hi,rfl⟩:=List.getElem_of_mem hx
   have dW:i<k:=by rw[List.length_take] at hi;omega
   have pY:i<out.length:=by omega
   rw[List.getElem_take]
   have AW:k≠0:=by omega
   have h1:=dn AW
   have h2: ¬out.getD (k-1) default=e:=by
    rcases hc with hc|hc
    ·exact absurd hc AW
    ·exact hc
   have kQ:k-1<out.length:=by omega
   have e1:out.getD (k-1) default=out[k-1]:=by simp[kQ]
   rw[e1] at h1 h2
   have h3:out[k-1].lt e:=by
    by_cases h4:out[k-1].lt e
    ·exact h4
    ·exact absurd (Ed.TE h4 h1) h2
   by_cases hik:i=k-1
   ·subst hik;exact h3
   ·exact Ed.lt_trans (g i (k-1) pY kQ (by omega)) h3
  have gD: ∀y∈out.drop k,e.lt y:=by
   intro y hy
   obtain ⟨i,hi,rfl⟩:=List.getElem_of_mem hy
   rw[List.length_drop] at hi
   rw[List.getElem_drop]
   have:=up (k+i) (by omega) (by omega)
   have e1:out.getD (k+i) default=out[k+i]:=by simp[show k+i<out.length by omega]
   rwa [e1] at this
  rw[nd,List.append_assoc,List.pairwise_append]
  refine ⟨h.sublist (List.take_sublist _ _),?_,?_⟩
  ·rw[List.singleton_append,List.pairwise_cons]
   exact ⟨gD,h.sublist (List.drop_sublist _ _)⟩
  ·intro x hx y hy
   rw[List.singleton_append,List.mem_cons] at hy
   rcases hy with rfl|hy
   ·exact iB x hx
   ·exact Ed.lt_trans (iB x hx) (gD y hy)
 ·exact h
theorem Lt: ∀(l out:List Ed),nd out→nd (l.foldl nf out)∧∀x,x∈l.foldl nf out↔x∈l∨x∈out
 | [],out,h=>⟨h,by simp⟩
 | e::l,out,h=>by
  obtain ⟨h1,h2⟩:=Lt l (nf out e) (aeG h)
  refine ⟨h1,fun x=> ?_⟩
  rw[List.foldl_cons,h2,aeF (AV _ _ _)]
  simp only[List.mem_cons]
  constructor
  ·rintro (h|h|h)
   ·exact .inl (.inr h)
   ·exact .inl (.inl h)
   ·exact .inr h
  ·rintro ((h|h)|h)
   ·exact .inr (.inl h)
   ·exact .inl h
   ·exact .inr (.inr h)
theorem AX (l:List Ed):nd (ng l):=(Lt l [] List.Pairwise.nil).1
theorem rV {l:List Ed} {x:Ed}:x∈ng l↔x∈l:=by
 have:=(Lt l [] List.Pairwise.nil).2 x
 simpa[ng] using this
theorem aeH (out:List Ed) (e:Ed):(nf out e).length≤out.length+1:=by
 unfold nf
 have:=AV out e out.length
 split
 ·simp only[List.length_append,List.length_take,List.length_drop,List.length_cons,List.length_nil];omega
 ·omega
theorem TH {out:List Ed} {e:Ed} {t7:List V} {t8 t9:Int}: ∀k,k≤out.length→out.length<1152921504606846976→∃t,Loop (AS CC t7 t8 t9 (out.map Ed.enc) e.f e.l e.t) (k:Int)=some (((ia out e k:Nat):Int),t)
 | 0,_,_=>⟨false,bS (by
   simp (disch:=omega) only[AS,AR,aA,if_neg]
   rfl)⟩
 | k+1,hk,hs=>by
  obtain ⟨t,ih⟩:=TH (out:=out) (e:=e) (t7:=t7) (t8:=t8) (t9:=t9) k (by omega) hs
  have e1:AS CC t7 t8 t9 (out.map Ed.enc) e.f e.l e.t ((k+1:Nat):Int)=bif decide (e.lt (out.getD k default)) then some (.inl (k:Int)) else some (.inr (((k+1:Nat):Int),decide (e.lt (out.getD k default)))):=by
   simp only[AS,AR]
   rw[aA,if_pos (by omega),rU,wrap64 (by omega) (by omega),dt,aA,if_pos (by omega),aA,if_pos (by rw[List.length_map];omega),Int.toNat_natCast]
   have hg:(out.map Ed.enc)[k]? =some (out.getD k default).enc:=by
    rw[List.getElem?_map,List.getElem?_eq_getElem (by omega)];simp[show k<out.length by omega]
   rw[hg]
   simp only[Option.bind_some,Ed.da,Ed.db,Ed.dc,QQ,V.bQ,V.mP]
  unfold ia
  by_cases h:e.lt (out.getD k default)
  ·rw[if_pos h]
   rw[decide_eq_true h,cond_true] at e1
   exact ⟨t,(dU e1).trans ih⟩
  ·rw[if_neg h]
   rw[decide_eq_false h,cond_false] at e1
   exact ⟨_,bS e1⟩
theorem AY (a b:Ed):((a.f==b.f)&&((a.l==b.l)&&((a.t==b.t)&&true)))=decide (a=b):=by
 cases a;cases b
 rw[Bool.eq_iff_iff]
 simp
theorem aeI (out:List Ed) (k:Nat) (e:Ed):((([]:List V)++(((out.map Ed.enc).drop 0).take (k-0)))++([e.enc]:List V))++(((out.map Ed.enc).drop k).take ((out.map Ed.enc).length-k))=(out.take k++[e]++out.drop k).map Ed.enc:=by
 simp
 rw[List.take_of_length_le (by simp)]
theorem aeJ {l:List Ed} (hl:l.length≤1000000000):CC D2 [.list af (l.map Ed.enc)]=some [.list af ((ng l).map Ed.enc)]:=by
 refine aeB ?_
 unfold TD
 have:=Ks (step:=AU CC (l.map Ed.enc) ((l.map Ed.enc).length:Int)) l (fun i (out:List Ed)=>((i:Int),out.map Ed.enc)) nf (fun out=>((l.length:Int),false,out.map Ed.enc)) (fun i out=>out.length≤i) ?_ ?_ [] (Nat.le_refl _)
 ·rw[show Loop (AU CC (l.map Ed.enc) ((l.map Ed.enc).length:Int)) (0,([]:List V))=_ from this.1]
  rfl
 ·intro i out hi ho
  refine ⟨?_,Nat.le_trans (aeH _ _) (by omega)⟩
  obtain ⟨t,h1⟩:=TH (out:=out) (e:=l[i]) (t7:=l.map Ed.enc) (t8:=((l.map Ed.enc).length:Int)) (t9:=(i:Int)) out.length (Nat.le_refl _) (by omega)
  have hk:=AV out l[i] out.length
  simp only[AU,AT,un]
  rw[aA,if_pos (by rw[List.length_map];omega),tH hi,Kx hi]
  simp only[Option.bind_some,Ed.da,Ed.db,Ed.dc]
  rw[show ((out.map Ed.enc).length:Int)=((out.length:Nat):Int) by simp,h1]
  simp only[Option.bind_some,un,Ed.re]
  unfold nf
  generalize ia out l[i] out.length=k at*
  have TI: ∀X:Option (((Int × List V)) ⊕ (Int × Bool × List V)),X=some (.inl (IntKind.wrap .i64 ((i:Int)+1),((([]:List V)++(((out.map Ed.enc).drop 0).take (((k:Int).toNat)-0)))++([l[i].enc]:List V))++(((out.map Ed.enc).drop ((k:Int).toNat)).take ((out.map Ed.enc).length-((k:Int).toNat)))))→
    X=some (.inl (((i+1:Nat):Int),(out.take k++[l[i]]++out.drop k).map Ed.enc)):=by
   intro X hX
   rw[hX,Int.toNat_natCast,aeI,dF,wrap64 (by omega) (by omega)]
  have lens:(([]:List V).length+(((out.map Ed.enc).drop 0).take (((k:Int).toNat)-0)).length)*24≤bA∧
    ((([]:List V)++(((out.map Ed.enc).drop 0).take (((k:Int).toNat)-0))).length+([l[i].enc]:List V).length)*24≤bA∧
    (((([]:List V)++(((out.map Ed.enc).drop 0).take (((k:Int).toNat)-0)))++([l[i].enc]:List V)).length+(((out.map Ed.enc).drop ((k:Int).toNat)).take ((out.map Ed.enc).length-((k:Int).toNat))).length)*24≤bA:=by
   rw[tE]
   simp only[Int.toNat_natCast,List.length_append,List.length_take,List.length_drop,List.length_map,List.length_nil,List.length_cons]
   omega
  by_cases AW:k=0
  ·rw[if_pos (Or.inl AW),mQ,if_pos (by omega)]
   refine TI _ ?_
   rw[dt,aA,if_pos (by omega),aA,if_pos (by omega),qg,if_pos lens.1,qg,if_pos lens.2.1,dt,aA,if_pos (by omega),aA,if_pos (by omega),qg,if_pos lens.2.2]
  ·rw[mQ,if_neg (by omega),jv (by omega),wrap64 (x:=((k-1:Nat):Int)) (by omega) (by omega),dt,aA,if_pos (by omega),aA,if_pos (by omega),Int.toNat_natCast]
   have hg:(out.map Ed.enc)[k-1]? =some (out.getD (k-1) default).enc:=by
    rw[List.getElem?_map,List.getElem?_eq_getElem (by omega)];simp[show k-1<out.length by omega]
   rw[hg]
   simp only[Option.bind_some,Ed.da,Ed.db,Ed.dc,AY]
   by_cases hc:out.getD (k-1) default=l[i]
   ·rw[if_neg (fun hx=>hx.elim AW (fun h=>h hc)),decide_eq_true hc]
    simp only[Bool.not_true,cond_false]
    rw[dF,wrap64 (by omega) (by omega)]
   ·rw[if_pos (Or.inr hc),decide_eq_false hc]
    simp only[Bool.not_false,cond_true]
    refine TI _ ?_
    rw[dt,aA,if_pos (by omega),aA,if_pos (by omega),qg,if_pos lens.1,qg,if_pos lens.2.1,dt,aA,if_pos (by omega),aA,if_pos (by omega),qg,if_pos lens.2.2]
 ·intro out ho
  simp only[AU,AT,un]
  rw[List.length_map,qC (by omega),cond_false]
end Go.AM
set_option maxRecDepth 100000
namespace Go.AM
open Go.Proofs
noncomputable abbrev FL:Code:=cx Tryd.prog (aw.aU 91)
noncomputable def wB (C:ag) (AZ uc:Nat) (k' jV:Int) (ss:List V) {β:Type} (kn:(Int × Int × (List V))→Option β) (kr:(Int × Int × Bool × (List V))→Option β):Option β:=
 bif decide ((jV:Int)<(uc:Int)) then
  bif (decide (0≤jV))&&(decide (jV<(uc:Int))) then
  (ss[AZ+((jV:Int).toNat)]?).bind fun x3=>
  bif (decide (0≤(IntKind.wrap .i64 (jV-1))))&&(decide ((IntKind.wrap .i64 (jV-1))<(uc:Int))) then
   (ss[AZ+((IntKind.wrap .i64 (jV-1):Int).toNat)]?).bind fun x4=>
   bif !(((((x3.cell 0).toInt):Int)==((x4.cell 0).toInt))&&(((((x3.cell 1).toInt):Int)==((x4.cell 1).toInt))&&(((((x3.cell 2).toInt):Int)==((x4.cell 2).toInt))&&true))) then
   bif (decide (0≤jV))&&(decide (jV<(uc:Int))) then
    (ss[AZ+((jV:Int).toNat)]?).bind fun x5=>
    bif (decide (0≤k'))&&(decide (k'<(ss.length:Int))) then
    (ss[(k':Int).toNat]?).bind fun x6=>
    kn (IntKind.wrap .i64 (k'+1),IntKind.wrap .i64 (jV+1),ss.set ((k':Int).toNat) (.agg [.int .i64 ((x5.cell 0).toInt),.int .i64 ((x5.cell 1).toInt),.int .i64 ((x5.cell 2).toInt)]))
    else none
   else none
   else
   kn (k',IntKind.wrap .i64 (jV+1),ss)
  else none
  else none
 else
  kr (k',jV,decide ((jV:Int)<(uc:Int)),ss)
noncomputable def ud (C:ag) (AZ uc:Nat):(Int × Int × (List V))→Option ((Int × Int × (List V)) ⊕ (Int × Int × Bool × (List V))):=un fun k'=>un fun jV ss=>wB C AZ uc k' jV ss (fun y=>some (.inl y)) (fun r=>some (.inr r))
noncomputable def wC (C:ag) (ss:List V) (k':Int) {β:Type} (kn:Int→Option β) (kr:((List V) ⊕ (Int × Bool))→Option β):Option β:=
 bif decide ((k':Int)<(ss.length:Int)) then
  bif (decide (0≤k'))&&(decide (k'<(ss.length:Int))) then
  (ss[(k':Int).toNat]?).bind fun x1=>
  bif (decide (0≤(IntKind.wrap .i64 (k'-1))))&&(decide ((IntKind.wrap .i64 (k'-1))<(ss.length:Int))) then
   (ss[(IntKind.wrap .i64 (k'-1):Int).toNat]?).bind fun x2=>
   bif ((((x1.cell 0).toInt):Int)==((x2.cell 0).toInt))&&(((((x1.cell 1).toInt):Int)==((x2.cell 1).toInt))&&(((((x1.cell 2).toInt):Int)==((x2.cell 2).toInt))&&true)) then
   bif (decide (0≤k'))&&(decide (k'≤(ss.length:Int))) then
    (Loop (ud C ((k':Int).toNat) (ss.length-((k':Int).toNat))) (k',1,ss)).bind (un fun (mj:Int)=>un fun (k_8:Int)=>un fun (pf:Bool) (qD:List V)=>
     bif (decide (0≤mj))&&(decide (mj≤(qD.length:Int))) then
     bif (decide (0≤mj))&&(decide (mj≤((qD.take ((mj:Int).toNat)++(List.replicate (qD.length-((mj:Int).toNat)) (V.agg [.int .i64 0,.int .i64 0,.int .i64 0])++qD.drop (((mj:Int).toNat)+(qD.length-((mj:Int).toNat))))).length:Int))) then
      kr (.inl ((qD.take ((mj:Int).toNat)++(List.replicate (qD.length-((mj:Int).toNat)) (V.agg [.int .i64 0,.int .i64 0,.int .i64 0])++qD.drop (((mj:Int).toNat)+(qD.length-((mj:Int).toNat))))).take ((mj:Int).toNat)))
     else none
     else none)
   else none
   else
   kn (IntKind.wrap .i64 (k'+1))
  else none
  else none
 else
  kr (.inr (k',decide ((k':Int)<(ss.length:Int))))
noncomputable def ue (C:ag) (ss:List V):(Int)→Option ((Int) ⊕ ((List V) ⊕ (Int × Bool))):=fun k'=>wC C ss k' (fun y=>some (.inl y)) (fun r=>some (.inr r))
noncomputable def TJ (C:ag):ch:=fun β n ds k=>
 bif Nat.beq n 145 then bq Jv [true,false,false,true,true] [[0,2,3,0,0,0]] (@wB C) ds k else
 bif Nat.beq n 65 then bq Jw [true,false] [[0],[0,0,2]] (@wC C) ds k else
 none
abbrev TK (C:ag) (b:cd):Prop:=cf Tryd.prog aw C (TJ C) 91 (cG Tryd.prog (aw.aU 91)) (aw.sin 91).aZ.length b
theorem aeK (C:ag):TK C (.loop (ar [1,1,0,1,0,0,1,0,0,1,0,1,0,1,0,0] FL)):=
 bu Jv [true,false,false,true,true] [[0,2,3,0,0,0]] (@wB C) (by kernel_rfl) (aR (bs:=[]) (by kernel_rfl) av) (fun ds=>by kernel_rfl) (fun i x=>by kernel_rfl) (fun i x β k=>by kernel_rfl) (fun β ds k=>by kernel_rfl)
theorem aeL (C:ag):TK C (.loop (ar [1,1,0,1,0,0] FL)):=
 bu Jw [true,false] [[0],[0,0,2]] (@wC C) (by kernel_rfl) (aR (bs:=[.loop (ar [1,1,0,1,0,0,1,0,0,1,0,1,0,1,0,0] FL)]) (by kernel_rfl) (bd (aeK C) av)) (fun ds=>by kernel_rfl) (fun i x=>by kernel_rfl) (fun i x β k=>by kernel_rfl) (fun β ds k=>by kernel_rfl)
noncomputable def FM (C:ag) (ss:List V):Option (List V):=
 bif decide (((ss.length:Int):Int)<2) then
  some [V.bool true,.list af ss]
 else
  (Loop (ue C ss) 1).bind (cY (fun (aeM:List V)=>
   some [V.bool false,.list af aeM]) (un fun (aiF:Int) (oj:Bool)=>
   some [V.bool true,.list af ss]))
theorem Lu {ss:List V} {r:Option (List V)} (h:FM CC ss=r):CC D1 [.list af ss]=r:=
 bj (key:=91) (L:=TJ CC) (bs:=[.loop (ar [1,1,0,1,0,0] FL)]) (by kernel_rfl) (bd (aeL CC) av) (Eq.trans (by kernel_rfl) h)
end Go.AM
set_option maxRecDepth 100000
set_option linter.unusedSimpArgs false
namespace Go.AM
open Go.Proofs
def nh (prev:Ed):List Ed→List Ed
 | []=>[]
 | x::l=>if x=prev then nh x l else x::nh x l
def ib:List Ed→List Ed
 | []=>[]
 | x::l=>x::nh x l
theorem Lv {l:List Ed} {j:Nat} (h:j<l.length):l.take (j+1)=l.take j++[l.getD j default]:=by
 rw[List.take_succ_eq_append_getElem h];simp[h]
theorem TL {l ss:List Ed} {j:Nat} (hl:ss.length=l.length) (h:ss.drop j=l.drop j) (hj:j<l.length):ss.getD j default=l.getD j default:=by
 have h1:=congrArg (fun x:List Ed=>x.getD 0 default) h
 simpa[hj,hl] using h1
theorem A0 {l:List Ed} {i:Nat} (h:i<l.length):(l.map Ed.enc)[i]? =some (l.getD i default).enc:=by simp[h]
theorem aeN (ss:List Ed) (m:Nat) (z:V) (hm:m≤ss.length):((((ss.map Ed.enc).take m++(List.replicate ((ss.map Ed.enc).length-m) z++(ss.map Ed.enc).drop (m+((ss.map Ed.enc).length-m)))).take m)=(ss.take m).map Ed.enc):=by
 rw[List.take_append_of_le_length (by simp;omega),List.take_of_length_le (by simp;omega),List.map_take]
theorem TM: ∀(m:List Ed) (prev x:Ed),nh prev (m++[x])=nh prev m++(if x=(prev::m).getD m.length default then [] else [x])
 | [],prev,x=>by simp only[List.nil_append,nh,List.length_nil,List.getD_cons_zero]
 | y::m,prev,x=>by
  have ih:=TM m y x
  simp only[List.cons_append,nh,List.length_cons,List.getD_cons_succ]
  split
  ·exact ih
  ·rw[ih];rfl
theorem TN {l:List Ed} {p:Nat} (h1:1≤p) (h2:p<l.length):ib (l.take (p+1))=ib (l.take p)++(if l.getD p default=l.getD (p-1) default then [] else [l.getD p default]):=by
 match l,p,h1,h2 with
 | y::l,p+1,_,h2=>
  simp only[List.length_cons] at h2
  rw[List.take_succ_cons,List.take_succ_cons,ib,ib,Lv (by omega),TM]
  simp only[List.getD_cons_succ,List.length_take,Nat.add_sub_cancel]
  rw[show min p l.length=p by omega]
  have:(y::l.take p).getD p default=(y::l).getD p default:=by
   match p with
   | 0=>rfl
   | q+1=>simp only[List.getD_cons_succ];rw[List.getD_eq_getElem?_getD,List.getD_eq_getElem?_getD,List.getElem?_take_of_lt (by omega)]
  rw[this];rfl
theorem TO: ∀(m:List Ed) (prev:Ed),(prev::m).Pairwise (fun x y=> ¬y.lt x)→nd (prev::nh prev m)∧∀x,x∈prev::nh prev m↔x∈prev::m
 | [],prev,_=>⟨by simp[nh],by simp[nh]⟩
 | y::m,prev,h=>by
  have h1:=List.pairwise_cons.1 h
  obtain ⟨i1,i2⟩:=TO m y h1.2
  rw[nh]
  by_cases hc:y=prev
  ·rw[if_pos hc]
   subst hc
   refine ⟨i1,fun x=> ?_⟩
   rw[i2 x];simp
  ·rw[if_neg hc]
   have aS:prev.lt y:=by
    by_cases h2:prev.lt y
    ·exact h2
    ·exact absurd (Ed.TE h2 (h1.1 y (by simp))) fun e=>hc e.symm
   refine ⟨List.pairwise_cons.2 ⟨fun x hx=> ?_,i1⟩,fun x=> ?_⟩
   ·rcases List.mem_cons.1 hx with rfl|hx
    ·exact aS
    ·exact Ed.lt_trans aS ((List.pairwise_cons.1 i1).1 x hx)
   ·rw[List.mem_cons,i2 x,←List.mem_cons]
theorem aeO {l:List Ed} (h:l.Pairwise (fun x y=> ¬y.lt x)):nd (ib l)∧∀x,x∈ib l↔x∈l:=by
 match l,h with
 | [],_=>exact ⟨List.Pairwise.nil,fun _=>Iff.rfl⟩
 | y::l,h=>exact TO l y h
section
variable {l:List Ed} (hn:l.length≤1000000)
include hn
theorem aeP {k:Nat}: ∀(d k2 i:Nat) (ss:List Ed),k+k2+d=l.length→1≤k2→i+1≤k+k2→ss.length=l.length→ss.take i=ib (l.take (k+k2))→ss.drop (k+k2-1)=l.drop (k+k2-1)→
  ∃t u wD,Loop (ud CC k (l.length-k)) ((i:Int),(k2:Int),ss.map Ed.enc)=some (((ib l).length:Int),u,t,List.map Ed.enc wD)∧wD.take (ib l).length=ib l∧wD.length=l.length:=by
 intro d
 induction d with
 | zero=>
  intro k2 i ss hj rC hi hl ht hd
  have e0:l.take (k+k2)=l:=List.take_of_length_le (by omega)
  rw[e0] at ht
  have iS:i=(ib l).length:=by rw[←ht,List.length_take];omega
  refine ⟨false,(k2:Int),ss,bS ?_,by rw[←iS];exact ht,hl⟩
  simp only[ud,wB,un,List.length_map,aA]
  rw[if_neg (by omega),decide_eq_false (by omega),iS]
 | succ d ih=>
  intro k2 i ss hj rC hi hl ht hd
  have hp:k+k2<l.length:=by omega
  have mF:ss.drop (k+k2)=l.drop (k+k2):=by
   have h:=congrArg (List.drop 1) hd
   rw[List.drop_drop,List.drop_drop] at h
   rwa [show k+k2-1+1=k+k2 by omega] at h
  have g1:=TL hl mF hp
  have g0:=TL hl hd (show k+k2-1<l.length by omega)
  have x1:(ss.map Ed.enc)[k+k2]? =some (l.getD (k+k2) default).enc:=by rw[A0 (by omega),g1]
  have x0:(ss.map Ed.enc)[k+(k2-1)]? =some (l.getD (k+k2-1) default).enc:=by rw[show k+(k2-1)=k+k2-1 by omega,A0 (by omega),g0]
  have w1:IntKind.wrap .i64 ((k2:Int)-1)=((k2-1:Nat):Int):=by rw[wrap64 (by omega) (by omega)];omega
  have t1:((k2:Nat):Int)<((l.length-k:Nat):Int):=by omega
  have t2:(0:Int)≤((k2:Nat):Int):=by omega
  have t3:(0:Int)≤((k2-1:Nat):Int):=by omega
  have t4:((k2-1:Nat):Int)<((l.length-k:Nat):Int):=by omega
  have t5:((i:Nat):Int)<(ss.length:Int):=by omega
  have t6:(0:Int)≤((i:Nat):Int):=by omega
  have yg: ∃y,(ss.map Ed.enc)[i]? =some y:=⟨_,A0 (by omega)⟩
  obtain ⟨y,hy⟩:=yg
  have cs:=TN (l:=l) (p:=k+k2) (by omega) hp
  by_cases he:l.getD (k+k2) default=l.getD (k+k2-1) default
  ·have bJ:ud CC k (l.length-k) ((i:Int),(k2:Int),ss.map Ed.enc)=some (.inl ((i:Int),((k2+1:Nat):Int),ss.map Ed.enc)):=by
    simp only[ud,wB,un]
    refine bT (decide_eq_true t1) ?_
    refine bT (Bool.and_eq_true_iff.2 ⟨decide_eq_true t2,decide_eq_true t1⟩) ?_
    rw[Int.toNat_natCast]
    refine bs x1 ?_
    rw[w1]
    refine bT (Bool.and_eq_true_iff.2 ⟨decide_eq_true t3,decide_eq_true t4⟩) ?_
    rw[Int.toNat_natCast]
    refine bs x0 ?_
    simp only[Ed.da,Ed.db,Ed.dc,AY]
    rw[decide_eq_true he]
    refine bF rfl ?_
    rw[wrap64 (by omega) (by omega)]
    rfl
   rw[dU bJ]
   refine ih (k2+1) i ss (by omega) (by omega) (by omega) hl ?_ (by rw[show k+(k2+1)-1=k+k2 by omega];exact mF)
   rw[show k+(k2+1)=k+k2+1 by omega,cs,if_pos he,List.append_nil,ht]
  ·have bJ:ud CC k (l.length-k) ((i:Int),(k2:Int),ss.map Ed.enc)=some (.inl (((i+1:Nat):Int),((k2+1:Nat):Int),(ss.set i (l.getD (k+k2) default)).map Ed.enc)):=by
    simp only[ud,wB,un]
    refine bT (decide_eq_true t1) ?_
    refine bT (Bool.and_eq_true_iff.2 ⟨decide_eq_true t2,decide_eq_true t1⟩) ?_
    rw[Int.toNat_natCast]
    refine bs x1 ?_
    rw[w1]
    refine bT (Bool.and_eq_true_iff.2 ⟨decide_eq_true t3,decide_eq_true t4⟩) ?_
    rw[Int.toNat_natCast]
    refine bs x0 ?_
    simp only[Ed.da,Ed.db,Ed.dc,AY]
    rw[decide_eq_false he]
    refine bT rfl ?_
    refine bT (Bool.and_eq_true_iff.2 ⟨decide_eq_true t2,decide_eq_true t1⟩) ?_
    refine bs x1 ?_
    refine bT (by rw[List.length_map];exact Bool.and_eq_true_iff.2 ⟨decide_eq_true t6,decide_eq_true t5⟩) ?_
    rw[Int.toNat_natCast]
    refine bs hy ?_
    simp only[Ed.da,Ed.db,Ed.dc,Ed.re]
    rw[wrap64 (by omega) (by omega),wrap64 (by omega) (by omega),List.map_set]
    rfl
   rw[dU bJ]
   refine ih (k2+1) (i+1) (ss.set i (l.getD (k+k2) default)) (by omega) (by omega) (by omega) (by simpa using hl) ?_ ?_
   ·rw[Lv (by rw[List.length_set];omega),List.take_set_of_le (Nat.le_refl i),ht,show k+(k2+1)=k+k2+1 by omega,cs,if_neg he]
    simp[show i<ss.length by omega]
   ·rw[show k+(k2+1)-1=k+k2 by omega,List.drop_set_of_lt (by omega),mF]
theorem aeQ: ∀(d p:Nat),p+d=l.length→1≤p→ib (l.take p)=l.take p→
  (ib l=l∧∃t,Loop (ue CC (l.map Ed.enc)) (p:Int)=some (.inr t))∨Loop (ue CC (l.map Ed.enc)) (p:Int)=some (.inl ((ib l).map Ed.enc)):=by
 intro d
 induction d with
 | zero=>
  intro p hp h1 hc
  obtain rfl:p=l.length:=by omega
  rw[List.take_length] at hc
  refine .inl ⟨hc,((l.length:Int),false),bS ?_⟩
  simp only[ue,wC,List.length_map,aA]
  rw[if_neg (by omega),decide_eq_false (by omega)]
 | succ d ih=>
  intro p hp h1 hc
  have eU:p<l.length:=by omega
  have cs:=TN (l:=l) h1 eU
  have x1:(l.map Ed.enc)[p]? =some (l.getD p default).enc:=A0 eU
  have x0:(l.map Ed.enc)[p-1]? =some (l.getD (p-1) default).enc:=A0 (by omega)
  have w1:IntKind.wrap .i64 ((p:Int)-1)=((p-1:Nat):Int):=by rw[wrap64 (by omega) (by omega)];omega
  have t1:((p:Nat):Int)<(l.length:Int):=by omega
  have t2:(0:Int)≤((p:Nat):Int):=by omega
  have t3:(0:Int)≤((p-1:Nat):Int):=by omega
  have t4:((p-1:Nat):Int)<(l.length:Int):=by omega
  have t5:((p:Nat):Int)≤(l.length:Int):=by omega
  by_cases he:l.getD p default=l.getD (p-1) default
  ·refine .inr (bS ?_)
   obtain ⟨t,u,wD,e1,e2,e3⟩:=aeP hn (k:=p) (l.length-(p+1)) 1 p l (by omega) (by omega) (by omega) rfl (by rw[cs,if_pos he,List.append_nil,hc]) rfl
   have hm:(ib l).length≤wD.length:=by
    have:=congrArg List.length e2
    rw[List.length_take] at this
    omega
   have m1:(0:Int)≤(((ib l).length:Nat):Int):=by omega
   have m2:(((ib l).length:Nat):Int)≤((wD.map Ed.enc).length:Int):=by rw[List.length_map];omega
   simp only[ue,wC,List.length_map]
   refine bT (decide_eq_true t1) ?_
   refine bT (Bool.and_eq_true_iff.2 ⟨decide_eq_true t2,decide_eq_true t1⟩) ?_
   rw[Int.toNat_natCast]
   refine bs x1 ?_
   rw[w1]
   refine bT (Bool.and_eq_true_iff.2 ⟨decide_eq_true t3,decide_eq_true t4⟩) ?_
   rw[Int.toNat_natCast]
   refine bs x0 ?_
   simp only[Ed.da,Ed.db,Ed.dc,AY]
   rw[decide_eq_true he]
   refine bT rfl ?_
   refine bT (Bool.and_eq_true_iff.2 ⟨decide_eq_true t2,decide_eq_true t5⟩) ?_
   refine (congrArg (fun o=>Option.bind o _) e1).trans ?_
   simp only[Option.bind_some,un,dt,aA,Int.toNat_natCast]
   rw[if_pos m1,if_pos m2,if_pos m1,if_pos (by simp only[List.length_append,List.length_take,List.length_replicate,List.length_drop,List.length_map];omega),aeN _ _ _ hm,e2]
  ·have bJ:ue CC (l.map Ed.enc) (p:Int)=some (.inl ((p+1:Nat):Int)):=by
    simp only[ue,wC,List.length_map]
    refine bT (decide_eq_true t1) ?_
    refine bT (Bool.and_eq_true_iff.2 ⟨decide_eq_true t2,decide_eq_true t1⟩) ?_
    rw[Int.toNat_natCast]
    refine bs x1 ?_
    rw[w1]
    refine bT (Bool.and_eq_true_iff.2 ⟨decide_eq_true t3,decide_eq_true t4⟩) ?_
    rw[Int.toNat_natCast]
    refine bs x0 ?_
    simp only[Ed.da,Ed.db,Ed.dc,AY]
    rw[decide_eq_false he]
    refine bF rfl ?_
    rw[wrap64 (by omega) (by omega)]
    rfl
   rw[dU bJ]
   exact ih (p+1) (by omega) (by omega) (by rw[cs,if_neg he,hc,←Lv eU])
theorem TP: ∃b,CC D1 [.list af (l.map Ed.enc)]=some [.bool b,.list af ((ib l).map Ed.enc)]:=by
 by_cases h2:l.length<2
 ·refine ⟨true,Lu ?_⟩
  unfold FM
  rw[List.length_map,aA,if_pos (by omega)]
  match l,h2 with
  | [],_=>rfl
  | [k],_=>rfl
 ·rcases aeQ hn (l.length-1) 1 (by omega) (by omega) (by
   match l,h2 with
   | k::l,_=>rfl) with ⟨h3,t,h4⟩|h4
  ·refine ⟨true,Lu ?_⟩
   unfold FM
   rw[List.length_map,aA,if_neg (by omega)]
   refine (congrArg (fun o=>Option.bind o _) h4).trans ?_
   rw[h3];rfl
  ·refine ⟨false,Lu ?_⟩
   unfold FM
   rw[List.length_map,aA,if_neg (by omega)]
   refine (congrArg (fun o=>Option.bind o _) h4).trans ?_
   rfl
end
end Go.AM
