/-
  Functions of the program, lifted to plain data.
-/
import Derived.Test.YtbpldbfoleicgaaGreatDoorP6
set_option linter.unusedVariables false
set_option linter.unusedSimpArgs false
set_option linter.unusedSectionVars false
set_option maxRecDepth 100000
namespace Go.AM
open Go.IntKind (wrap)
open Go.Proofs
noncomputable def Vd (C:af) (eT eU ez fe:LV) (ff:Int) (fg fh fi fj fk fl fm fo fp fq ft aM:LV):Option LV:=
 (C LH [.list ag ez]).bind fun r1=>
 some [.bool ((V.nth r1 0).toBool),.list bA eT,.list bA eU,.list ag ez,.list ag fe,V.int .i64 ff,.list ab fg,.list ab fh,.list ab fi,.list ab fj,.list ab fk,.list ab fl,.list ab fm,.list ab fo,.list ab fp,.list ab fq,.list ab ft,.list ab aM]
theorem auk {eT eU ez fe:LV} {ff:Int} {fg fh fi fj fk fl fm fo fp fq ft aM:LV} {r:Option LV} (h:Vd CC eT eU ez fe ff fg fh fi fj fk fl fm fo fp fq ft aM=r):CC Cs [.list bA eT,.list bA eU,.list ag ez,.list ag fe,V.int .i64 ff,.list ab fg,.list ab fh,.list ab fi,.list ab fj,.list ab fk,.list ab fl,.list ab fm,.list ab fo,.list ab fp,.list ab fq,.list ab ft,.list ab aM]=r:=bQ (L:=bO) aw h
noncomputable def Ia (C:af) (t9 t10:Int) (lists:LV) {β:Type} (kn:(Int×LV)→Option β) (kr:(Int×Bool×LV)→Option β):Option β:=
 bif decide (t10<t9) then
  aP lists t10 fun x1=>
  kn (wrap .i64 (t10+1),bj lists t10 (V.int .i64 t10))
 else
  kr (t10,decide (t10<t9),lists)
noncomputable def Ve (C:af) (t9:Int):=un fun t10 lists=>Ia C t9 t10 lists (fun y=>some (Sum.inl y)) (fun r=>some (Sum.inr r))
noncomputable def aul (C:af):cF:=bN 49 To [EQ,H1,H1] [[1,0,0,0]] (@Ia C) bO
theorem aum (C:af):bB C (aul C) 148 (Lp [1,1,0,1,0,0] 148):=bP To [EQ,H1,H1] [[1,0,0,0]] (@Ia C) (bu aw)
noncomputable def aeO (C:af) (t:LV):Option LV:=
 bif (decide (0≤(t.length:Int)))&&((decide ((t.length:Int)≤(t.length:Int)))&&(Nat.ble (((t.length:Int).toNat)*8) aW)) then
  (Loop (Ve C ((List.replicate ((t.length:Int).toNat) (V.int .i64 0)).length:Int)) (0,List.replicate ((t.length:Int).toNat) (V.int .i64 0))).bind (un fun zP=>un fun (jJ:Bool) (aun:LV)=>
   some [.list ab aun])
 else none
theorem auo {t:LV} {r:Option LV} (h:aeO CC t=r):CC LP [.list ag t]=r:=bQ (bC (aum CC) aw) h
noncomputable def Ib (C:af) (e t6:Int) (rn:LV) (t7:Int) {β:Type} (kn:Int→Option β) (kr:((Bool) ⊕ (Int×Bool))→Option β):Option β:=
 bif decide (t7<t6) then
  (idx rn e).bind fun x1=>
  (idx x1.toList t7).bind fun x2=>
  bif (x2.toInt:Int) != t7 then
  kr (.inl false)
  else
  (idx rn t7).bind fun x3=>
  (idx x3.toList e).bind fun x4=>
  bif (x4.toInt:Int) != t7 then
   kr (.inl false)
  else
   kn (wrap .i64 (t7+1))
 else
  kr (.inr (t7,decide (t7<t6)))
noncomputable def Vf (C:af) (e t6:Int) (rn:LV):=fun t7=>Ib C e t6 rn t7 (fun y=>some (Sum.inl y)) (fun r=>some (Sum.inr r))
noncomputable def aup (C:af):cF:=bN 33 Ts [EQ,EQ,H1,EQ] [[0,4],[1,2,0,0,4]] (@Ib C) bO
theorem auq (C:af):bB C (aup C) 149 (Lp [1,0,1,0,0] 149):=bP Ts [EQ,EQ,H1,EQ] [[0,4],[1,2,0,0,4]] (@Ib C) (bu aw)
noncomputable def aeP (C:af) (e:Int) (rn:LV):Option LV:=
 (Loop (Vf C e (rn.length:Int) rn) 0).bind (gj (fun (kC:Bool)=>
  some [.bool kC,.list ag rn]) (un fun (j7:Int) (oo:Bool)=>
  some [.bool true,.list ag rn]))
theorem aur {e:Int} {rn:LV} {r:Option LV} (h:aeP CC e rn=r):CC zi [V.int .i64 e,.list ag rn]=r:=bQ (bC (auq CC) aw) h
noncomputable def NN (C:af) (s:LV) (t7 t8:Int) (fs:LV) {β:Type} (kn:(Int×LV)→Option β) (kr:((Int×LV) ⊕ (Int×Bool×LV))→Option β):Option β:=
 bif decide (t8<t7) then
  (idx s t8).bind fun x1=>
  (C zi [V.int .i64 x1.toInt,.list ag fs]).bind fun r2=>
  bif (V.nth r2 0).toBool then
  kr (.inl (t8,(V.nth (r2.drop 1) 0).toList))
  else
  kn (wrap .i64 (t8+1),(V.nth (r2.drop 1) 0).toList)
 else
  kr (.inr (t8,decide (t8<t7),fs))
noncomputable def aeQ (C:af) (s:LV) (t7:Int):=un fun t8 fs=>NN C s t7 t8 fs (fun y=>some (Sum.inl y)) (fun r=>some (Sum.inr r))
noncomputable def aus (C:af):cF:=bN 33 Tn [EQ,EQ,H1,H1] [[0,0],[1,2,0,0,0]] (@NN C) bO
theorem aut (C:af):bB C (aus C) 147 (Lp [1,0,1,0,0] 147):=bP Tn [EQ,EQ,H1,H1] [[0,0],[1,2,0,0,0]] (@NN C) (bu aw)
noncomputable def aeR (C:af) (s fs:LV):Option LV:=
 (Loop (aeQ C s (s.length:Int)) (0,fs)).bind (gj (un fun (jJ:Int) (b_4:LV)=>
  some [V.int .i64 jJ,.list ag b_4]) (un fun kC=>un fun (j7:Bool) (auu:LV)=>
  some [V.int .i64 (-1),.list ag auu]))
theorem auv {s fs:LV} {r:Option LV} (h:aeR CC s fs=r):CC Ro [.list ab s,.list ag fs]=r:=bQ (bC (aut CC) aw) h
noncomputable def aeS (C:af) (t:LV):Option LV:=
 (C LO [.list ag t]).bind fun r1=>
 bif !((V.nth r1 0).toBool) then
  some [V.int .i64 (-1)]
 else
  (C LP [.list ag t]).bind fun r2=>
  (C Ro [.list ab ((V.nth r2 0).toList),.list ag t]).bind fun r3=>
  some [V.int .i64 ((V.nth r3 0).toInt)]
theorem auw {t:LV} {r:Option LV} (h:aeS CC t=r):CC LG [.list ag t]=r:=bQ (L:=bO) aw h
theorem NO {R:List (List Nat)}:(RV R).length=R.length:=by simp[RV]
theorem auy {R:List (List Nat)} (hl:R.length≤10) (hlen: ∀i,i<R.length→(R.getD i []).length≤1000) {p q:List (Nat×Nat)} {t A B:LV} {one:Int} {l:LV}: ∃b,CC Cs (pJ p q R t one A B [.list ab l])=some (.bool b::pJ p q R t one A B [.list ab l])∧(b=false→∀i,i<R.length→0<(R.getD i []).length):=by
 have key: ∃r,Loop (NM CC (RV R) (R.length:Int)) 0=some r∧((∃i:Nat,r= .inl (i:Int))∨(r= .inr ((R.length:Int),false)∧∀j,j<R.length→0<(R.getD j []).length)):=by
  refine xy (fun i x=>x=(i:Int)∧∀j,j<i→0<(R.getD j []).length) (fun (r:Int ⊕ (Int×Bool))=>(∃i:Nat,r= .inl (i:Int))∨(r= .inr ((R.length:Int),false)∧∀j,j<R.length→0<(R.getD j []).length)) R.length (fun i hi x hx=> ?_) (fun x hx=> ?_) R.length 0 0 (dt _) ⟨rfl,fun j hj=>(by omega)⟩
  ·obtain ⟨rfl,hx⟩:=hx;have e1:CC xi [.list ab (nS (R.getD i []))]=some [.bool ((((R.getD i []).length:Nat):Int)==0)]:=by
    refine auh ?_;unfold aeL;rw[dy]
   simp only[NM,H9];by_cases c:0<(R.getD i []).length
   ·refine .inl ⟨_,bT (bh hi) (bs (Dv hi) (bs (by rw[V.ei];exact e1) (bF ?_ rfl))),by rw[br (by omega)],fun j hj=> ?_⟩
    ·show ((((R.getD i []).length:Nat):Int)==0)=false;rw[ue];omega
    ·by_cases cj:j=i
     ·rw[cj];exact c
     ·exact hx j (by omega)
   ·refine .inr ⟨_,bT (bh hi) (bs (Dv hi) (bs (by rw[V.ei];exact e1) (bT ?_ rfl))),.inl ⟨i,rfl⟩⟩;show ((((R.getD i []).length:Nat):Int)==0)=true;rw[show (R.getD i []).length=0 by omega];rfl
  ·obtain ⟨rfl,hx⟩:=hx;simp only[NM,H9];exact ⟨_,bF (aV (av _)) rfl,.inr ⟨by rw[aV (av _)],hx⟩⟩
 have fin: ∀b,CC LH [.list ag (RV R)]=some [.bool b]→CC Cs (pJ p q R t one A B [.list ab l])=some (.bool b::pJ p q R t one A B [.list ab l]):=fun b hb=>by
  have auz: ∀z,Vd CC (p.map cb) (q.map cb) (RV R) t one [] A B [] [] [] [] [] [] [] [] l=z→CC Cs (pJ p q R t one A B [.list ab l])=z:=fun z h=>auk h;refine auz _ ?_;unfold Vd;exact bs hb rfl
 obtain ⟨r,e,hr⟩:=key;rcases hr with ⟨i,rfl⟩|⟨rfl,hr⟩
 ·refine ⟨true,fin _ (aeN ?_),fun e=>(by cases e)⟩;unfold Vc;refine bs (a:=[.int .i64 (i:Int)]) (aeM ?_) ?_
  ·unfold Vb;rw[NO];exact bs e rfl
  ·show some [V.bool (decide ((i:Int)≥0))]=_;rw[cp (by omega)]
 ·refine ⟨false,fin _ (aeN ?_),fun _=>hr⟩;unfold Vc;refine bs (a:=[.int .i64 (-1)]) (aeM ?_) rfl;unfold Vb;rw[NO];exact bs e rfl
section
variable {K:Nat} {mul:Nat→Nat→Nat} (h:Tb K mul) (ha: ∀i j k,i<K→j<K→k<K→mul (mul i j) k=mul i (mul j k)) (ae: ∀j,j<K→mul 0 j=j∧mul j 0=j)
include h ha ae
theorem auA:CC LG [.list ag (tG K mul)]=some [.int .i64 0]:=by
 have h1:=h.k1;have h4:=h.k4;have el:CC LP [.list ag (tG K mul)]=some [.list ab (nS (List.range K))]:=by
  refine auo ?_;unfold aeO;rw[rj];refine bT (fO (by omega) (by omega)) ?_;rw[Int.toNat_natCast,v5];refine bs (tW (fun i a=>((i:Int),a)) K nV (List.replicate K (V.int .i64 0)) (by simp) (fun a=>((K:Int),false,a)) (fun i hi a ha=> ?_) ?_) ?_
  ·simp only[Ve,Ia,un,aP,bj];refine bT (bh hi) ((ri (by omega)).trans ?_);rw[br (by omega),Int.toNat_natCast];rfl
  ·simp only[Ve,Ia,un];refine bF (aV (av _)) ?_;rw[aV (av _)]
  ·rw[TX];refine congrArg (fun t=>some [V.list ab t]) ?_;rw[jN];exact dB fun j hj=>by rw[cN (by simpa using hj)];simp
 have i0:CC zi [.int .i64 0,.list ag (tG K mul)]=some [.bool true,.list ag (tG K mul)]:=by
  refine aur ?_;unfold aeP;rw[rj];refine bs (gx K (fun i=>(i:Int)) (.inr ((K:Int),false)) (fun i hi=> ?_) ?_) rfl
  ·simp only[Vf,Ib];refine bT (bh hi) (bs (mI (i:=0) (by omega)) (bs (oH hi) (bF ?_ (bs (mI hi) (bs (oH (i:=0) (by omega)) (bF ?_ ?_))))))
   ·show (((mul 0 i:Nat):Int) != (i:Int))=false;rw[(ae i hi).1];simp
   ·show (((mul i 0:Nat):Int) != (i:Int))=false;rw[(ae i hi).2];simp
   ·rw[br (by omega)]
  ·simp only[Vf,Ib];rw[aV (av _)];rfl
 refine auw ?_;unfold aeS;refine bs (asT h ha) (bF rfl (bs el (bs (a:=[.int .i64 0,.list ag (tG K mul)]) (auv ?_) rfl)));unfold aeR;rw[show (V.nth [V.list ab (nS (List.range K))] 0).toList=nS (List.range K) from rfl,dy,jN];refine bs (jX (r:= .inl (0,tG K mul)) ?_) rfl;simp only[aeQ,NN,un];refine bT (bh (i:=0) h1) (bs (a:=nV 0) ?_ (bs i0 (bT rfl rfl)));have:=iw (S:=List.range K) (i:=0) (by rw[jN];omega);simpa using this
end
section
variable {K:Nat} {mul:Nat→Nat→Nat}
theorem auB {Z:List Nat} (hZ: ∀z∈Z,z<K) (Al:Z.length≤400) (cQ cT:Nat→Bool) {nv:Nat} (hnv:nv≤6): ∃R,RG K R∧R.length=nv∧
  Loop (H8 CC (tG K mul) (nS Z) (nv:Int) (cQ 0) (cQ 1) (cQ 2) (cQ 3) (cQ 4) (cQ 5) (cT 0) (cT 1) (cT 2) (cT 3) (cT 4) (cT 5)) (0,List.replicate nv (V.list ab ([]:LV)))=some ((nv:Int),false,RV R):=by
 have hO: ∀(f:Nat→Bool) (i:Nat),i<6→([.bool (f 0),.bool (f 1),.bool (f 2),.bool (f 3),.bool (f 4),.bool (f 5)]:LV)[0+(((i:Int).toNat)*1)]? =some (.bool (f i)):=by
  intro f i hi;rcases (by omega:i=0∨i=1∨i=2∨i=3∨i=4∨i=5) with rfl|rfl|rfl|rfl|rfl|rfl<;>rfl
 have inner: ∀{i:Nat} (hi:i<nv) {R:List (List Nat)} {a b:Int},R.length=nv→R.getD i []=[]→∃r:List Nat,(∀x∈r,x<K)∧r.length≤Z.length∧
   Loop (H6 CC (tG K mul) (nS Z) (i:Int) a b (nS Z) (Z.length:Int) (cQ 0) (cQ 1) (cQ 2) (cQ 3) (cQ 4) (cQ 5) (cT 0) (cT 1) (cT 2) (cT 3) (cT 4) (cT 5)) (0,RV R)=some ((Z.length:Int),false,RV (R.set i r)):=by
  intro i hi R a b yn hRi;have key:=jD (step:=H6 CC (tG K mul) (nS Z) (i:Int) a b (nS Z) (Z.length:Int) (cQ 0) (cQ 1) (cQ 2) (cQ 3) (cQ 4) (cQ 5) (cT 0) (cT 1) (cT 2) (cT 3) (cT 4) (cT 5))
   (fun j x=> ∃r:List Nat,(∀x∈r,x<K)∧r.length≤j∧x=((j:Int),RV (R.set i r))) (fun o=> ∃r:List Nat,(∀x∈r,x<K)∧r.length≤Z.length∧o=((Z.length:Int),false,RV (R.set i r))) Z.length 0 (0,RV R) (fun j _ hj x hx=> ?_) (fun x hx=> ?_) ⟨[],fun _ h=>(by cases h),av _,?_⟩
  ·obtain ⟨o,e,r,h1,h2,rfl⟩:=key;exact ⟨r,h1,h2,e⟩
  ·obtain ⟨r,h1,h2,rfl⟩:=hx;have dZ:j<Z.length:=by omega
   have hz:=hZ _ (dm dZ);have ky:(RV (R.set i r))[i]? =some (.list ab (nS r)):=by simp[RV,yn,hi]
   have hlen:(RV (R.set i r)).length=nv:=by rw[NO,od,yn]
   have jg:(RV (R.set i r)).set i (.list ab (nS r++[V.int .i64 (nV Z[j]).toInt]))=RV (R.set i (r++[Z[j]])):=by
    simp only[RV,List.map_set];rw[AI];simp[nS,nV]
   have Am:(decide (0≤(i:Int))&&decide ((i:Int)<6))=true:=kh.2 ⟨cp (by omega),cp (by omega)⟩;have app:(bif Nat.ble (((V.list ab (nS r)).toList.length+([V.int .i64 (nV Z[j]).toInt]:LV).length)*8) aW then
     Cm (RV (R.set i r)) (i:Int) <| bif (Nat.beq ((i:Int).toNat) ((i:Int).toNat))&&true then
      some (Sum.inl (β:=Int×Bool×LV) (wrap .i64 ((j:Int)+1),bj (RV (R.set i r)) (i:Int) (.list ab ((V.list ab (nS r)).toList++([V.int .i64 (nV Z[j]).toInt]:LV)))))
     else none else none)=some (Sum.inl (((j+1:Nat):Int),RV (R.set i (r++[Z[j]])))):=by
    rw[V.ei];refine bT (cap (by rw[dy];simp;omega) (by omega)) ?_;refine bT (ou (by rw[hlen];exact hi)) (bT (by simp) ?_);simp only[bj,Int.toNat_natCast];rw[jg,br (by omega)]
   have lH:(∀x∈r++[Z[j]],x<K)∧(r++[Z[j]]).length≤j+1:=⟨fun x hx=>by
    rcases eF.1 hx with hx|hx
    ·exact h1 x hx
    ·rw[fu.1 hx];exact hz,by simp;omega⟩
   have Vg:(RV (R.set i r))[((i:Int).toNat)]? =some (.list ab (nS r)):=ky;simp only[H6,H5,un];cases ho:cQ i with
   | false=>
    refine ⟨_,bT (bh dZ) (bs (iw dZ) (bT Am (bs (hO cQ i (by omega)) (bT (by rw[ho];rfl) ((bX ky).trans (bs Vg app)))))),r++[Z[j]],lH.1,lH.2,rfl⟩
   | true=>
    cases he:cT i with
    | true=>
     refine ⟨_,bT (bh dZ) (bs (iw dZ) (bT Am (bs (hO cQ i (by omega)) (bF (by rw[ho];rfl) (bT Am (bs (hO cT i (by omega)) (bT (by rw[he];rfl) ((bX ky).trans (bs Vg app))))))))),r++[Z[j]],lH.1,lH.2,rfl⟩
    | false=>
     by_cases cm:mul Z[j] Z[j]=Z[j]
     ·refine ⟨_,bT (bh dZ) (bs (iw dZ) (bT Am (bs (hO cQ i (by omega)) (bF (by rw[ho];rfl) (bT Am (bs (hO cT i (by omega)) (bF (by rw[he];rfl) (bs (mI hz) (bs (oH hz) (bT ?_ ((bX ky).trans (bs Vg app)))))))))))),r++[Z[j]],lH.1,lH.2,rfl⟩;show (((mul Z[j] Z[j]:Nat):Int)==((Z[j]:Nat):Int))=true;rw[cm];simp
     ·refine ⟨_,bT (bh dZ) (bs (iw dZ) (bT Am (bs (hO cQ i (by omega)) (bF (by rw[ho];rfl) (bT Am (bs (hO cT i (by omega)) (bF (by rw[he];rfl) (bs (mI hz) (bs (oH hz) (bF ?_ rfl)))))))))),r,h1,by omega,?_⟩
      ·show (((mul Z[j] Z[j]:Nat):Int)==((Z[j]:Nat):Int))=false;rw[ue];exact fun e=>cm (by exact_mod_cast e)
      ·rw[br (by omega)]
  ·obtain ⟨r,h1,h2,rfl⟩:=hx;rw[dt] at*
   simp only[H6,H5,un];exact ⟨_,bF (aV (av _)) rfl,r,h1,h2,cK rfl (cK (aV (av _)) rfl)⟩
  ·have:R.set i []=R:=by
    refine ui (by simp) fun k h1 h2=> ?_;by_cases c:i=k
    ·subst c;rw[List.getElem_set_self];rw[pL,bU h2,Option.getD_some] at hRi;exact hRi.symm
    ·rw[List.getElem_set_ne c]
   rw[this];rfl
 have key:=jD (step:=H8 CC (tG K mul) (nS Z) (nv:Int) (cQ 0) (cQ 1) (cQ 2) (cQ 3) (cQ 4) (cQ 5) (cT 0) (cT 1) (cT 2) (cT 3) (cT 4) (cT 5))
  (fun i x=> ∃R:List (List Nat),R.length=nv∧(∀k,k<nv→(∀x∈R.getD k [],x<K)∧(R.getD k []).length≤Z.length∧(i≤k→R.getD k []=[]))∧x=((i:Int),RV R)) (fun o=> ∃R:List (List Nat),R.length=nv∧(∀k,k<nv→(∀x∈R.getD k [],x<K)∧(R.getD k []).length≤Z.length)∧o=((nv:Int),false,RV R)) nv 0 (0,List.replicate nv (V.list ab ([]:LV))) (fun i _ hi x hx=> ?_) (fun x hx=> ?_) ⟨List.replicate nv [],by simp,fun k hk=> ?_,?_⟩
 ·obtain ⟨o,e,R,h1,h2,rfl⟩:=key;exact ⟨R,⟨fun i hi x hx=>(h2 i (by omega)).1 x hx,fun i hi=>oc (h2 i (by omega)).2 (by omega),by omega⟩,h1,e⟩
 ·obtain ⟨R,h1,h2,rfl⟩:=hx;have bp:i<nv:=by omega
  obtain ⟨r,r1,r2,e⟩:=inner bp (R:=R) (a:=(nv:Int)) (b:=(i:Int)) h1 ((h2 i bp).2.2 (av _));simp only[H8,H7,un];refine ⟨_,bT (bh bp) (bs (by rw[dy];exact e) rfl),R.set i r,by rw[od,h1],fun k hk=> ?_,?_⟩
  ·by_cases c:i=k
   ·subst c;have:(R.set i r).getD i []=r:=by rw[pL,oN (by omega),Option.getD_some]
    rw[this];exact ⟨r1,r2,fun h=>by omega⟩
   ·have:(R.set i r).getD k []=R.getD k []:=by rw[pL,uf c,←pL]
    rw[this];exact ⟨(h2 k hk).1,(h2 k hk).2.1,fun h=>(h2 k hk).2.2 (by omega)⟩
  ·rw[br (by omega)]
 ·obtain ⟨R,h1,h2,rfl⟩:=hx;rw[dt] at*
  simp only[H8,H7,un];exact ⟨_,bF (aV (av _)) rfl,R,h1,fun k hk=>⟨(h2 k hk).1,(h2 k hk).2.1⟩,cK rfl (cK (aV (av _)) rfl)⟩
 ·have:(List.replicate nv ([]:List Nat)).getD k []=[]:=by rw[pL,DG,aE hk];rfl
  rw[this];exact ⟨fun _ h=>(by cases h),mO _,fun _=>rfl⟩
 ·simp[RV,nS]
end
noncomputable def NP (C:af) (table dH:LV) (lJ lL:Int) (lM:LV) (lN lO:Int) (lQ:LV):Option LV:=
 (C F0 [.list ag table]).bind fun r1=>
 bif (((V.nth r1 0).toInt):Int) != 0 then
  some [V.bool true,V.int .i64 ((V.nth r1 0).toInt)]
 else
  (C F3 [.list ag table,.list ab dH]).bind fun r2=>
  bif !((V.nth r2 0).toBool) then
  some [V.bool true,V.int .i64 1]
  else
  (C lU [V.int .i64 lJ,V.int .i64 lL,.list ai lM,V.int .i64 lN,V.int .i64 lO,.list ai lQ]).bind fun r3=>
  bif (((V.nth r3 0).toInt):Int) != 0 then
   some [V.bool true,V.int .i64 21]
  else
   (C LG [.list ag table]).bind fun r4=>
   bif decide ((((V.nth r4 0).toInt):Int)<0) then
   (C aaB [.list ai ([.agg [V.int .i64 lJ,V.int .i64 lL,.list ai lM],.agg [V.int .i64 lN,V.int .i64 lO,.list ai lQ]]:LV)]).bind fun r5=>
   bif (V.nth r5 0).toBool then
    some [V.bool true,V.int .i64 9]
   else
    (C fF [V.int .i64 lJ,V.int .i64 lL,.list ai lM]).bind fun r6=>
    (C fF [V.int .i64 lN,V.int .i64 lO,.list ai lQ]).bind fun r7=>
    (C CA [.list ag table,.list ab dH,V.int .i64 lJ,V.int .i64 lL,.list ai lM,V.int .i64 lN,V.int .i64 lO,.list ai lQ]).bind fun r8=>
    (C F4 [.list ag table,V.int .i64 ((V.nth r4 0).toInt),.list Gf ([.list bA ((V.nth r6 0).toList),.list bA ((V.nth r7 0).toList)]:LV)]).bind fun r9=>
    bif (decide (0≤(((V.nth r8 0).toList).length:Int)))&&((decide ((((V.nth r8 0).toList).length:Int)≤(((V.nth r8 0).toList).length:Int)))&&(Nat.ble ((((((V.nth r8 0).toList).length:Int):Int).toNat)*8) aW)) then
    some [V.bool false,.list bA ((V.nth r6 0).toList),.list bA ((V.nth r7 0).toList),.list ag ((V.nth r8 0).toList),.list ag ((V.nth r9 0).toList),V.int .i64 ((V.nth (r9.drop 1) 0).toInt),.list ab ((V.nth ((r9.drop 1).drop 1) 0).toList),.list ab ((V.nth (((r9.drop 1).drop 1).drop 1) 0).toList),.list ab ((V.nth ((((r9.drop 1).drop 1).drop 1).drop 1) 0).toList),.list ab ((V.nth (((((r9.drop 1).drop 1).drop 1).drop 1).drop 1) 0).toList),.list ab ((V.nth ((((((r9.drop 1).drop 1).drop 1).drop 1).drop 1).drop 1) 0).toList),.list ab ((V.nth (((((((r9.drop 1).drop 1).drop 1).drop 1).drop 1).drop 1).drop 1) 0).toList),.list ab ((V.nth ((((((((r9.drop 1).drop 1).drop 1).drop 1).drop 1).drop 1).drop 1).drop 1) 0).toList),.list ab ((V.nth (((((((((r9.drop 1).drop 1).drop 1).drop 1).drop 1).drop 1).drop 1).drop 1).drop 1) 0).toList),.list ab ((V.nth ((((((((((r9.drop 1).drop 1).drop 1).drop 1).drop 1).drop 1).drop 1).drop 1).drop 1).drop 1) 0).toList),.list ab ((V.nth (((((((((((r9.drop 1).drop 1).drop 1).drop 1).drop 1).drop 1).drop 1).drop 1).drop 1).drop 1).drop 1) 0).toList),.list ab ((V.nth ((((((((((((r9.drop 1).drop 1).drop 1).drop 1).drop 1).drop 1).drop 1).drop 1).drop 1).drop 1).drop 1).drop 1) 0).toList),.list ab (List.replicate (((((V.nth r8 0).toList).length:Int):Int).toNat) (V.int .i64 0))]
    else none
   else
   (C fF [V.int .i64 lJ,V.int .i64 lL,.list ai lM]).bind fun eb=>
   (C fF [V.int .i64 lN,V.int .i64 lO,.list ai lQ]).bind fun cx=>
   (C CA [.list ag table,.list ab dH,V.int .i64 lJ,V.int .i64 lL,.list ai lM,V.int .i64 lN,V.int .i64 lO,.list ai lQ]).bind fun tc=>
   (C F4 [.list ag table,V.int .i64 ((V.nth r4 0).toInt),.list Gf ([.list bA ((V.nth eb 0).toList),.list bA ((V.nth cx 0).toList)]:LV)]).bind fun gz=>
   bif (decide (0≤(((V.nth tc 0).toList).length:Int)))&&((decide ((((V.nth tc 0).toList).length:Int)≤(((V.nth tc 0).toList).length:Int)))&&(Nat.ble ((((((V.nth tc 0).toList).length:Int):Int).toNat)*8) aW)) then
    some [V.bool false,.list bA ((V.nth eb 0).toList),.list bA ((V.nth cx 0).toList),.list ag ((V.nth tc 0).toList),.list ag ((V.nth gz 0).toList),V.int .i64 ((V.nth (gz.drop 1) 0).toInt),.list ab ((V.nth ((gz.drop 1).drop 1) 0).toList),.list ab ((V.nth (((gz.drop 1).drop 1).drop 1) 0).toList),.list ab ((V.nth ((((gz.drop 1).drop 1).drop 1).drop 1) 0).toList),.list ab ((V.nth (((((gz.drop 1).drop 1).drop 1).drop 1).drop 1) 0).toList),.list ab ((V.nth ((((((gz.drop 1).drop 1).drop 1).drop 1).drop 1).drop 1) 0).toList),.list ab ((V.nth (((((((gz.drop 1).drop 1).drop 1).drop 1).drop 1).drop 1).drop 1) 0).toList),.list ab ((V.nth ((((((((gz.drop 1).drop 1).drop 1).drop 1).drop 1).drop 1).drop 1).drop 1) 0).toList),.list ab ((V.nth (((((((((gz.drop 1).drop 1).drop 1).drop 1).drop 1).drop 1).drop 1).drop 1).drop 1) 0).toList),.list ab ((V.nth ((((((((((gz.drop 1).drop 1).drop 1).drop 1).drop 1).drop 1).drop 1).drop 1).drop 1).drop 1) 0).toList),.list ab ((V.nth (((((((((((gz.drop 1).drop 1).drop 1).drop 1).drop 1).drop 1).drop 1).drop 1).drop 1).drop 1).drop 1) 0).toList),.list ab ((V.nth ((((((((((((gz.drop 1).drop 1).drop 1).drop 1).drop 1).drop 1).drop 1).drop 1).drop 1).drop 1).drop 1).drop 1) 0).toList),.list ab (List.replicate (((((V.nth tc 0).toList).length:Int):Int).toNat) (V.int .i64 0))]
   else none
theorem auC {table dH:LV} {lJ lL:Int} {lM:LV} {lN lO:Int} {lQ:LV} {r:Option LV} (h:NP CC table dH lJ lL lM lN lO lQ=r):CC Cr [.list ag table,.list ab dH,V.int .i64 lJ,V.int .i64 lL,.list ai lM,V.int .i64 lN,V.int .i64 lO,.list ai lQ]=r:=bQ (L:=bO) aw h
noncomputable def vS (C:af) (table dH:LV) (lJ lL:Int) (lM:LV) (lN lO:Int) (lQ:LV) (eg:Int):Option LV:=
 (C Cr [.list ag table,.list ab dH,V.int .i64 lJ,V.int .i64 lL,.list ai lM,V.int .i64 lN,V.int .i64 lO,.list ai lQ]).bind fun r1=>
 bif (V.nth r1 0).toBool then
  bif (((V.nth (r1.drop 1) 0).toInt):Int) != 0 then
  some [V.int .i64 0,V.int .i64 ((V.nth (r1.drop 1) 0).toInt),.list ab ([]:LV)]
  else
  bif decide (eg<1) then
   some [V.int .i64 0,V.int .i64 1,.list ab ([]:LV)]
  else
   bif decide (eg>1048576) then
   some [V.int .i64 0,V.int .i64 1,.list ab ([]:LV)]
   else none
 else
  bif decide (eg<1) then
  some [V.int .i64 0,V.int .i64 1,.list ab ([]:LV)]
  else
  bif decide (eg>1048576) then
   some [V.int .i64 0,V.int .i64 1,.list ab ([]:LV)]
  else
   (C Cs [.list bA ((V.nth (r1.drop 1) 0).toList),.list bA ((V.nth ((r1.drop 1).drop 1) 0).toList),.list ag ((V.nth (((r1.drop 1).drop 1).drop 1) 0).toList),.list ag ((V.nth ((r1.drop 1).drop 3) 0).toList),V.int .i64 ((V.nth (((r1.drop 1).drop 3).drop 1) 0).toInt),.list ab ((V.nth ((((r1.drop 1).drop 3).drop 1).drop 1) 0).toList),.list ab ((V.nth (((((r1.drop 1).drop 3).drop 1).drop 1).drop 1) 0).toList),.list ab ((V.nth ((((((r1.drop 1).drop 3).drop 1).drop 1).drop 1).drop 1) 0).toList),.list ab ((V.nth (((((((r1.drop 1).drop 3).drop 1).drop 1).drop 1).drop 1).drop 1) 0).toList),.list ab ((V.nth ((((((((r1.drop 1).drop 3).drop 1).drop 1).drop 1).drop 1).drop 1).drop 1) 0).toList),.list ab ((V.nth (((((((((r1.drop 1).drop 3).drop 1).drop 1).drop 1).drop 1).drop 1).drop 1).drop 1) 0).toList),.list ab ((V.nth ((((((((((r1.drop 1).drop 3).drop 1).drop 1).drop 1).drop 1).drop 1).drop 1).drop 1).drop 1) 0).toList),.list ab ((V.nth (((((((((((r1.drop 1).drop 3).drop 1).drop 1).drop 1).drop 1).drop 1).drop 1).drop 1).drop 1).drop 1) 0).toList),.list ab ((V.nth ((((((((((((r1.drop 1).drop 3).drop 1).drop 1).drop 1).drop 1).drop 1).drop 1).drop 1).drop 1).drop 1).drop 1) 0).toList),.list ab ((V.nth (((((((((((((r1.drop 1).drop 3).drop 1).drop 1).drop 1).drop 1).drop 1).drop 1).drop 1).drop 1).drop 1).drop 1).drop 1) 0).toList),.list ab ((V.nth ((((((((((((((r1.drop 1).drop 3).drop 1).drop 1).drop 1).drop 1).drop 1).drop 1).drop 1).drop 1).drop 1).drop 1).drop 1).drop 1) 0).toList),.list ab ((V.nth (((r1.drop 1).drop 3).drop 13) 0).toList)]).bind fun r2=>
   bif (V.nth r2 0).toBool then
   some [V.int .i64 0,V.int .i64 9,.list ab ([]:LV)]
   else
   (C FV [V.int .i64 eg,.list bA ((V.nth (r2.drop 1) 0).toList),.list bA ((V.nth ((r2.drop 1).drop 1) 0).toList),.list ag ((V.nth (((r2.drop 1).drop 1).drop 1) 0).toList),.list ag ((V.nth ((r2.drop 1).drop 3) 0).toList),V.int .i64 ((V.nth (((r2.drop 1).drop 3).drop 1) 0).toInt),.list ab ((V.nth ((((r2.drop 1).drop 3).drop 1).drop 1) 0).toList),.list ab ((V.nth (((((r2.drop 1).drop 3).drop 1).drop 1).drop 1) 0).toList),.list ab ((V.nth ((((((r2.drop 1).drop 3).drop 1).drop 1).drop 1).drop 1) 0).toList),.list ab ((V.nth (((((((r2.drop 1).drop 3).drop 1).drop 1).drop 1).drop 1).drop 1) 0).toList),.list ab ((V.nth ((((((((r2.drop 1).drop 3).drop 1).drop 1).drop 1).drop 1).drop 1).drop 1) 0).toList),.list ab ((V.nth (((((((((r2.drop 1).drop 3).drop 1).drop 1).drop 1).drop 1).drop 1).drop 1).drop 1) 0).toList),.list ab ((V.nth ((((((((((r2.drop 1).drop 3).drop 1).drop 1).drop 1).drop 1).drop 1).drop 1).drop 1).drop 1) 0).toList),.list ab ((V.nth (((((((((((r2.drop 1).drop 3).drop 1).drop 1).drop 1).drop 1).drop 1).drop 1).drop 1).drop 1).drop 1) 0).toList),.list ab ((V.nth ((((((((((((r2.drop 1).drop 3).drop 1).drop 1).drop 1).drop 1).drop 1).drop 1).drop 1).drop 1).drop 1).drop 1) 0).toList),.list ab ((V.nth (((((((((((((r2.drop 1).drop 3).drop 1).drop 1).drop 1).drop 1).drop 1).drop 1).drop 1).drop 1).drop 1).drop 1).drop 1) 0).toList),.list ab ((V.nth ((((((((((((((r2.drop 1).drop 3).drop 1).drop 1).drop 1).drop 1).drop 1).drop 1).drop 1).drop 1).drop 1).drop 1).drop 1).drop 1) 0).toList),.list ab ((V.nth (((r2.drop 1).drop 3).drop 13) 0).toList)]).bind fun r3=>
   bif (V.nth (r3.drop 1) 0).toBool then
    (C FW [.list bA ((V.nth (r3.drop 3) 0).toList),.list bA ((V.nth ((r3.drop 3).drop 1) 0).toList),.list ag ((V.nth (((r3.drop 3).drop 1).drop 1) 0).toList),.list ag ((V.nth ((r3.drop 3).drop 3) 0).toList),V.int .i64 ((V.nth (((r3.drop 3).drop 3).drop 1) 0).toInt),.list ab ((V.nth ((((r3.drop 3).drop 3).drop 1).drop 1) 0).toList),.list ab ((V.nth (((((r3.drop 3).drop 3).drop 1).drop 1).drop 1) 0).toList),.list ab ((V.nth ((((((r3.drop 3).drop 3).drop 1).drop 1).drop 1).drop 1) 0).toList),.list ab ((V.nth (((((((r3.drop 3).drop 3).drop 1).drop 1).drop 1).drop 1).drop 1) 0).toList),.list ab ((V.nth ((((((((r3.drop 3).drop 3).drop 1).drop 1).drop 1).drop 1).drop 1).drop 1) 0).toList),.list ab ((V.nth (((((((((r3.drop 3).drop 3).drop 1).drop 1).drop 1).drop 1).drop 1).drop 1).drop 1) 0).toList),.list ab ((V.nth ((((((((((r3.drop 3).drop 3).drop 1).drop 1).drop 1).drop 1).drop 1).drop 1).drop 1).drop 1) 0).toList),.list ab ((V.nth (((((((((((r3.drop 3).drop 3).drop 1).drop 1).drop 1).drop 1).drop 1).drop 1).drop 1).drop 1).drop 1) 0).toList),.list ab ((V.nth ((((((((((((r3.drop 3).drop 3).drop 1).drop 1).drop 1).drop 1).drop 1).drop 1).drop 1).drop 1).drop 1).drop 1) 0).toList),.list ab ((V.nth (((((((((((((r3.drop 3).drop 3).drop 1).drop 1).drop 1).drop 1).drop 1).drop 1).drop 1).drop 1).drop 1).drop 1).drop 1) 0).toList),.list ab ((V.nth ((((((((((((((r3.drop 3).drop 3).drop 1).drop 1).drop 1).drop 1).drop 1).drop 1).drop 1).drop 1).drop 1).drop 1).drop 1).drop 1) 0).toList),.list ab ((V.nth (((r3.drop 3).drop 3).drop 13) 0).toList)]).bind fun r4=>
    some [V.int .i64 ((V.nth r3 0).toInt),V.int .i64 0,.list ab ((V.nth ((r4.drop 3).drop 13) 0).toList)]
   else
    bif (V.nth ((r3.drop 1).drop 1) 0).toBool then
    some [V.int .i64 ((V.nth r3 0).toInt),V.int .i64 9,.list ab ([]:LV)]
    else
    some [V.int .i64 0,V.int .i64 7,.list ab ([]:LV)]
theorem auD {table dH:LV} {lJ lL:Int} {lM:LV} {lN lO:Int} {lQ:LV} {eg:Int} {r:Option LV} (h:vS CC table dH lJ lL lM lN lO lQ eg=r):CC FT [.list ag table,.list ab dH,V.int .i64 lJ,V.int .i64 lL,.list ai lM,V.int .i64 lN,V.int .i64 lO,.list ai lQ,V.int .i64 eg]=r:=bQ (L:=bO) aw h
structure ji where
 l0:Int
 l1:Int
 l2:LV
 r0:Int
 r1:Int
 r2:LV
 p:List (Nat×Nat)
 q:List (Nat×Nat)
 o1:Nat→Bool
 e1:Nat→Bool
 cQ:Nat→Bool
 cT:Nat→Bool
 nv:Nat
def cJ (d:ji):List V:=[.int .i64 d.l0,.int .i64 d.l1,.list ai d.l2,.int .i64 d.r0,.int .i64 d.r1,.list ai d.r2]
def cP (o e:Nat→Bool):List V:=[.bool (o 0),.bool (o 1),.bool (o 2),.bool (o 3),.bool (o 4),.bool (o 5),.bool (e 0),.bool (e 1),.bool (e 2),.bool (e 3),.bool (e 4),.bool (e 5)]
structure nT (d:ji):Prop where
 val:CC lU (cJ d)=some [.int .i64 0]
 cl:CC fF [.int .i64 d.l0,.int .i64 d.l1,.list ai d.l2]=some [.list bA (d.p.map cb)]
 cr:CC fF [.int .i64 d.r0,.int .i64 d.r1,.list ai d.r2]=some [.list bA (d.q.map cb)]
 v1:CC gv ([.int .i64 d.l0,.int .i64 d.l1,.list ai d.l2,.int .i64 0,.int .i64 0,.list ai []]++cP (fun _=>false) (fun _=>false))=some (cP d.o1 d.e1)
 v2:CC gv ([.int .i64 d.r0,.int .i64 d.r1,.list ai d.r2,.int .i64 0,.int .i64 0,.list ai []]++cP d.o1 d.e1)=some (cP d.cQ d.cT)
 vars:CC mZ [.list ai [.agg [.int .i64 d.l0,.int .i64 d.l1,.list ai d.l2],.agg [.int .i64 d.r0,.int .i64 d.r1,.list ai d.r2]]]=some [.int .i64 (d.nv:Int)]
 nv:d.nv≤6
 okp: ∀s∈d.p,fy s
 okq: ∀s∈d.q,fy s
 lp:d.p.length≤1000
 lq:d.q.length≤1000
 wp:vR d.nv d.p 0=some 1
 wq:vR d.nv d.q 0=some 1
section
variable {K:Nat} {mul:Nat→Nat→Nat} (h:Tb K mul) (ha: ∀i j k,i<K→j<K→k<K→mul (mul i j) k=mul i (mul j k)) (ae: ∀j,j<K→mul 0 j=j∧mul j 0=j) {Z:List Nat} (hZ: ∀z∈Z,z<K) (Al:Z.length≤400) {d:ji} (hd:nT d)
include hZ Al hd
theorem auE: ∃R,RG K R∧R.length=d.nv∧CC CA (.list ag (tG K mul):: .list ab (nS Z)::cJ d)=some [.list ag (RV R)]:=by
 have hn:=hd.nv;obtain ⟨R,h1,h2,e⟩:=auB (mul:=mul) hZ Al d.cQ d.cT hd.nv;have fin: ∀z,Va CC (tG K mul) (nS Z) d.l0 d.l1 d.l2 d.r0 d.r1 d.r2=z→CC CA (.list ag (tG K mul):: .list ab (nS Z)::cJ d)=z:=fun z h=>aug h;refine ⟨R,h1,h2,fin _ ?_⟩;unfold Va;refine bs hd.v1 (bs hd.v2 (bs hd.vars (bT (fO (by omega) (by omega)) ?_)));rw[show (V.nth [V.int IntKind.i64 (d.nv:Int)] 0).toInt=(d.nv:Int) from rfl,Int.toNat_natCast,v5];exact bs e rfl
include h ha ae
theorem auF:(∃e:Int,e≠0∧CC Cr (.list ag (tG K mul):: .list ab (nS Z)::cJ d)=some [.bool true,.int .i64 e])∨∃R A B nx,RG K R∧R.length=d.nv∧qq K d.p d.p.length A B∧qq K d.q d.q.length A B∧nx=List.replicate R.length (V.int .i64 0)∧
  CC Cr (.list ag (tG K mul):: .list ab (nS Z)::cJ d)=some (.bool false::pJ d.p d.q R (tG K mul) 0 A B [.list ab nx]):=by
 have hn:=hd.nv;have fin: ∀z,NP CC (tG K mul) (nS Z) d.l0 d.l1 d.l2 d.r0 d.r1 d.r2=z→CC Cr (.list ag (tG K mul):: .list ab (nS Z)::cJ d)=z:=fun z h=>auC h;obtain ⟨b,hc⟩:=aub h hZ Al;cases b with
 | false=>
  refine .inl ⟨1,by omega,fin _ ?_⟩;unfold NP;exact bs (US h ha) (bF rfl (bs hc (bT rfl rfl)))
 | true=>
  obtain ⟨R,h1,h2,er⟩:=auE (mul:=mul) hZ Al hd;obtain ⟨A,B,_,_,hP,hQ,em⟩:=atr h ha hd.okp hd.okq hd.lp hd.lq (one:=0);refine .inr ⟨R,A,B,_,h1,h2,hP,hQ,rfl,fin _ ?_⟩;unfold NP;refine bs (US h ha) (bF rfl (bs hc (bF rfl (bs hd.val (bF rfl (bs (auA h ha ae) (bF rfl (bs hd.cl (bs hd.cr (bs er (bs em ?_)))))))))));have hl:((V.nth [V.list ag (RV R)] 0).toList.length:Int)=(R.length:Int):=by show ((RV R).length:Int)=_;rw[NO]
  simp only[hl];refine bT (fO (by omega) (by omega)) ?_;rw[Int.toNat_natCast];rfl
theorem auG (eg:Int): ∃(s e:Int) (l:LV),CC FT (.list ag (tG K mul):: .list ab (nS Z)::(cJ d++[.int .i64 eg]))=some [.int .i64 s,.int .i64 e,.list ab l]:=by
 have hk:=h.k1;have hn:=hd.nv;have fin: ∀z,vS CC (tG K mul) (nS Z) d.l0 d.l1 d.l2 d.r0 d.r1 d.r2 eg=z→CC FT (.list ag (tG K mul):: .list ab (nS Z)::(cJ d++[.int .i64 eg]))=z:=fun z h=>auD h;rcases auF h ha ae hZ Al hd with ⟨e,he,e0⟩|⟨R,A,B,nx,hR,yn,hP,hQ,wU,e0⟩
 ·refine ⟨0,e,[],fin _ ?_⟩;unfold vS;exact bs e0 (bT rfl (bT (by show (e != 0)=true;rw[bne_iff_ne];exact he) rfl))
 ·by_cases c1:eg<1
  ·refine ⟨0,1,[],fin _ ?_⟩;unfold vS;exact bs e0 (bF rfl (bT (cp c1) rfl))
  by_cases c2:eg>1048576
  ·refine ⟨0,1,[],fin _ ?_⟩;unfold vS;exact bs e0 (bF rfl (bF (da c1) (bT (cp c2) rfl)))
  obtain ⟨b,e1,hb⟩:=auy (R:=R) (by omega) hR.len (p:=d.p) (q:=d.q) (t:=tG K mul) (A:=A) (B:=B) (one:=0) (l:=nx);cases b with
  | true=>
   refine ⟨0,9,[],fin _ ?_⟩;unfold vS;exact bs e0 (bF rfl (bF (da c1) (bF (da c2) (bs e1 (bT rfl rfl)))))
  | false=>
   have bH:=hb rfl;have hN:NX R nx:=⟨by rw[wU,v5],fun i hi=>⟨0,bH i hi,by rw[wU,DG,aE hi];rfl⟩⟩
   obtain ⟨lim,rfl⟩:=IF (show 0≤eg by omega);have ho: ∀{p:List (Nat×Nat)},(∃s∈p,s.1=0)→∃o:Nat,o<K∧(0:Int)=(o:Int):=fun _=>⟨0,hk,rfl⟩
   obtain ⟨s,b1,b2,lI,hN',e2⟩:=at3 h hR hd.okp hd.okq hd.lp hd.lq hP hQ ho ho (by rw[yn];exact hd.wp) (by rw[yn];exact hd.wq) hN (lim:=lim) (by omega);cases b1 with
   | true=>
    obtain ⟨vs,_,e3⟩:=aeJ hR hN' (p:=d.p) (q:=d.q) (t:=tG K mul) (A:=A) (B:=B) (one:=0);refine ⟨s,0,vs,fin _ ?_⟩;unfold vS;exact bs e0 (bF rfl (bF (da c1) (bF (da c2) (bs e1 (bF rfl (bs e2 (bT rfl (bs e3 rfl))))))))
   | false=>
    cases b2 with
    | true=>
     refine ⟨s,9,[],fin _ ?_⟩;unfold vS;exact bs e0 (bF rfl (bF (da c1) (bF (da c2) (bs e1 (bF rfl (bs e2 (bF rfl (bT rfl rfl))))))))
    | false=>
     refine ⟨0,7,[],fin _ ?_⟩;unfold vS;exact bs e0 (bF rfl (bF (da c1) (bF (da c2) (bs e1 (bF rfl (bs e2 (bF rfl (bF rfl rfl))))))))
end
noncomputable def Ic (C:af) (s:LV) (v t7 t8:Int) {β:Type} (kn:Int→Option β) (kr:((Int) ⊕ (Int×Bool))→Option β):Option β:=
 bif decide (t8<t7) then
  (idx s t8).bind fun x1=>
  bif v==x1.toInt then
  kr (.inl t8)
  else
  kn (wrap .i64 (t8+1))
 else
  kr (.inr (t8,decide (t8<t7)))
noncomputable def NQ (C:af) (s:LV) (v t7:Int):=fun t8=>Ic C s v t7 t8 (fun y=>some (Sum.inl y)) (fun r=>some (Sum.inr r))
noncomputable def auH (C:af):cF:=bN 33 SN [EQ,EQ,EQ,H1] [[0],[1,2,3,0,0]] (@Ic C) bO
theorem auI (C:af):bB C (auH C) 98 (Lp [1,0,1,0,0] 98):=bP SN [EQ,EQ,EQ,H1] [[0],[1,2,3,0,0]] (@Ic C) (bu aw)
noncomputable def Vh (C:af) (s:LV) (v:Int):Option LV:=
 (Loop (NQ C s v (s.length:Int)) 0).bind (gj (fun zP=>
  some [V.int .i64 zP]) (un fun (jJ:Int) (lV:Bool)=>
  some [V.int .i64 (-1)]))
theorem aeT {s:LV} {v:Int} {r:Option LV} (h:Vh CC s v=r):CC LB [.list ab s,V.int .i64 v]=r:=bQ (bC (auI CC) aw) h
noncomputable def aeU (C:af) (s:LV) (v:Int):Option LV:=
 (C LB [.list ab s,V.int .i64 v]).bind fun r1=>
 some [.bool (decide ((((V.nth r1 0).toInt):Int)≥0))]
theorem auJ {s:LV} {v:Int} {r:Option LV} (h:aeU CC s v=r):CC Lv [.list ab s,V.int .i64 v]=r:=bQ (L:=bO) aw h
noncomputable def Ie (C:af) (n ss:Int) (bm:LV) (nz nA:Int) (nB:Bool) (nC ms:Int) (aA aQ bw b7 cg gB jK gR fS fT gk gA dR gQ kQ:LV) (i:Int) (fU ig:LV) {β:Type} (kn:(Int×LV×LV)→Option β) (kr:(Int×Bool×LV×LV)→Option β):Option β:=
 bif decide (i<n) then
  aP fS i fun x3=>
  bif (decide (0≤x3.toInt))&&(decide (x3.toInt<(fU.length:Int))) then
  (fU[(x3.toInt:Int).toNat]?).bind fun x4=>
  aP fT i fun x5=>
  bif Nat.ble (x4.toStr.length+(lb ([.int .u8 (wrap .u8 (wrap .i64 (97+x5.toInt)))]:LV)).length) oT then
   aP fU i fun x6=>
   aP ig i fun x7=>
   kn (wrap .i64 (i+1),bj fU i (.str (x4.toStr++(lb ([.int .u8 (wrap .u8 (wrap .i64 (97+x5.toInt)))]:LV)))),bj ig i (.bool true))
  else none
  else none
 else
  kr (i,decide (i<n),fU,ig)
noncomputable def Ig (C:af) (n ss:Int) (bm:LV) (nz nA:Int) (nB:Bool) (nC ms:Int) (aA aQ bw b7 cg gB jK gR fS fT gk gA dR gQ kQ:LV):=un fun i=>un fun fU ig=>Ie C n ss bm nz nA nB nC ms aA aQ bw b7 cg gB jK gR fS fT gk gA dR gQ kQ i fU ig (fun y=>some (Sum.inl y)) (fun r=>some (Sum.inr r))
noncomputable def Ih (C:af) (n i t87 t88 ss:Int) (bm:LV) (nz nA:Int) (nB:Bool) (nC ms:Int) (ua aQ bw b7 cg gB jK gR fS fT gk gA fU gQ kQ ig:LV) (j:Int) (dR:LV) {β:Type} (kn:(Int×LV)→Option β) (kr:(Int×Bool×LV)→Option β):Option β:=
 bif decide (j<n) then
  aP dR i fun x20=>
  aP dR i fun x21=>
  aP fT j fun Nb=>
  (e9 Tryz.prog ag dR [(i.toNat,0)]).bind fun x23=>
  bif (decide (0≤Nb.toInt))&&(decide (Nb.toInt<(x23.toList.length:Int))) then
  (e9 Tryz.prog ag dR [(i.toNat,0)]).bind fun MT=>
  (MT.toList[(Nb.toInt:Int).toNat]?).bind fun Vi=>
  bif (decide (0≤Vi.toInt))&&(decide (Vi.toInt<(ua.length:Int))) then
   (ua[(Vi.toInt:Int).toNat]?).bind fun MS=>
   aP gk j fun x27=>
   (idx MS.toList x27.toInt).bind fun x28=>
   (e9 Tryz.prog ag dR [(i.toNat,0)]).bind fun x29=>
   bif (decide (0≤j))&&(decide (j<(x29.toList.length:Int))) then
   (e9 Tryz.prog ag dR [(i.toNat,0)]).bind fun x30=>
   (x30.toList[j.toNat]?).bind fun x31=>
   kn (wrap .i64 (j+1),setRow Tryz.prog (bj x30.toList j (V.int .i64 x28.toInt)) ag dR [(i.toNat,0)])
   else none
  else none
  else none
 else
  kr (j,decide (j<n),dR)
noncomputable def Dw (C:af) (n i t87 t88 ss:Int) (bm:LV) (nz nA:Int) (nB:Bool) (nC ms:Int) (ua aQ bw b7 cg gB jK gR fS fT gk gA fU gQ kQ ig:LV):=un fun j dR=>Ih C n i t87 t88 ss bm nz nA nB nC ms ua aQ bw b7 cg gB jK gR fS fT gk gA fU gQ kQ ig j dR (fun y=>some (Sum.inl y)) (fun r=>some (Sum.inr r))
noncomputable def Ii (C:af) (n t87 ss:Int) (bm:LV) (nz nA:Int) (nB:Bool) (nC ms:Int) (ua aQ bw b7 cg gB jK gR fS fT gk gA fU gQ kQ:LV) (t88:Int) (dR ig:LV) {β:Type} (kn:(Int×LV×LV)→Option β) (kr:(Int×Bool×LV×LV)→Option β):Option β:=
 bif decide (t88<t87) then
  aP ua t88 fun kR=>
  bif decide (0<(ig.length:Int)) then
  (ig[0]?).bind fun NI=>
  bif NI.toBool then
   bif decide (0<(ig.length:Int)) then
   (ig[0]?).bind fun JZ=>
   bif (decide (0≤n))&&((decide (n≤n))&&(Nat.ble ((n.toNat)*8) aW)) then
    aP dR t88 fun J0=>
    aP (bj dR t88 (.list ab (List.replicate (n.toNat) (V.int .i64 0)))) t88 fun J1=>
    (e9 Tryz.prog ag (bj dR t88 (.list ab (List.replicate (n.toNat) (V.int .i64 0)))) [(t88.toNat,0)]).bind fun uT=>
    bif decide (0<(uT.toList.length:Int)) then
    (e9 Tryz.prog ag (bj dR t88 (.list ab (List.replicate (n.toNat) (V.int .i64 0)))) [(t88.toNat,0)]).bind fun J2=>
    (J2.toList[0]?).bind fun Dm=>
    (Loop (Dw C n t88 t87 t88 ss bm nz nA nB nC ms ua aQ bw b7 cg gB jK gR fS fT gk gA fU gQ kQ (ig.set 0 (.bool true))) (1,setRow Tryz.prog (J2.toList.set 0 (V.int .i64 t88)) ag (bj dR t88 (.list ab (List.replicate (n.toNat) (V.int .i64 0)))) [(t88.toNat,0)])).bind (un fun axZ=>un fun (atU:Bool) (zN:LV)=>
     kn (wrap .i64 (t88+1),zN,ig.set 0 (.bool true)))
    else none
   else none
   else none
  else
   (C Lv [.list ab kR.toList,V.int .i64 0]).bind fun r35=>
   bif decide (0<(ig.length:Int)) then
   (ig[0]?).bind fun x36=>
   bif (decide (0≤n))&&((decide (n≤n))&&(Nat.ble ((n.toNat)*8) aW)) then
    aP dR t88 fun x37=>
    aP (bj dR t88 (.list ab (List.replicate (n.toNat) (V.int .i64 0)))) t88 fun x38=>
    (e9 Tryz.prog ag (bj dR t88 (.list ab (List.replicate (n.toNat) (V.int .i64 0)))) [(t88.toNat,0)]).bind fun x39=>
    bif decide (0<(x39.toList.length:Int)) then
    (e9 Tryz.prog ag (bj dR t88 (.list ab (List.replicate (n.toNat) (V.int .i64 0)))) [(t88.toNat,0)]).bind fun x40=>
    (x40.toList[0]?).bind fun x41=>
    (Loop (Dw C n t88 t87 t88 ss bm nz nA nB nC ms ua aQ bw b7 cg gB jK gR fS fT gk gA fU gQ kQ (ig.set 0 (.bool ((V.nth r35 0).toBool)))) (1,setRow Tryz.prog (x40.toList.set 0 (V.int .i64 t88)) ag (bj dR t88 (.list ab (List.replicate (n.toNat) (V.int .i64 0)))) [(t88.toNat,0)])).bind (un fun ax0=>un fun (Uh:Bool) (Hb:LV)=>
     kn (wrap .i64 (t88+1),Hb,ig.set 0 (.bool ((V.nth r35 0).toBool))))
    else none
   else none
   else none
  else none
 else
  kr (t88,decide (t88<t87),dR,ig)
noncomputable def NR (C:af) (n t87 ss:Int) (bm:LV) (nz nA:Int) (nB:Bool) (nC ms:Int) (ua aQ bw b7 cg gB jK gR fS fT gk gA fU gQ kQ:LV):=un fun t88=>un fun dR ig=>Ii C n t87 ss bm nz nA nB nC ms ua aQ bw b7 cg gB jK gR fS fT gk gA fU gQ kQ t88 dR ig (fun y=>some (Sum.inl y)) (fun r=>some (Sum.inr r))
noncomputable def Ij (C:af) (n k' t163 t164 t176 Dx:Int) (bm:LV) (nz nA:Int) (nB:Bool) (nC ms Vj:Int) (Vk:LV) (Vl:Int) (An Vm cg gB jK gR fS fT gk gA dR fU gQ kQ ig Dy aeV:LV) (t177:Int) (qt:LV) {β:Type} (kn:(Int×LV)→Option β) (kr:(Int×Bool×LV)→Option β):Option β:=
 bif decide (t177<t176) then
  aP Vm t177 fun x51=>
  aP qt k' fun x52=>
  (C Lw [V.int .i64 Vj,.list ar Vk,V.int .i64 Vl,.list ab x51.toList]).bind fun r53=>
  (e9 Tryz.prog kH qt [(k'.toNat,0)]).bind fun x54=>
  bif (decide (0≤t177))&&(decide (t177<(x54.toList.length:Int))) then
  (e9 Tryz.prog kH qt [(k'.toNat,0)]).bind fun x55=>
  (x55.toList[t177.toNat]?).bind fun x56=>
  kn (wrap .i64 (t177+1),setRow Tryz.prog (bj x55.toList t177 (.bool ((V.nth r53 0).toBool))) kH qt [(k'.toNat,0)])
  else none
 else
  kr (t177,decide (t177<t176),qt)
noncomputable def NS (C:af) (n k' t163 t164 t176 Dx:Int) (bm:LV) (nz nA:Int) (nB:Bool) (nC ms Vj:Int) (Vk:LV) (Vl:Int) (An Vm cg gB jK gR fS fT gk gA dR fU gQ kQ ig Dy aeV:LV):=un fun t177 qt=>Ij C n k' t163 t164 t176 Dx bm nz nA nB nC ms Vj Vk Vl An Vm cg gB jK gR fS fT gk gA dR fU gQ kQ ig Dy aeV t177 qt (fun y=>some (Sum.inl y)) (fun r=>some (Sum.inr r))
noncomputable def yr (C:af) (n t163 Dx:Int) (bm:LV) (nz nA:Int) (nB:Bool) (nC ms:Int) (An bw b7 cg gB jK gR fS fT gk gA dR fU gQ kQ ig Dy:LV) (t164:Int) (qt:LV) {β:Type} (kn:(Int×LV)→Option β) (kr:(Int×Bool×LV)→Option β):Option β:=
 bif decide (t164<t163) then
  aP An t164 fun Vn=>
  bif (decide (0≤n))&&((decide (n≤n))&&(Nat.ble ((n.toNat)*1) aW)) then
  aP qt t164 fun x50=>
  (Loop (NS C n t164 t163 t164 (fS.length:Int) Dx bm nz nA nB nC ms ((Vn.cell 0).toInt) ((Vn.cell 1).toList) ((Vn.cell 2).toInt) An fS bw b7 cg gB jK gR fT gk gA dR fU gQ kQ ig Dy) (0,bj qt t164 (.list ar (List.replicate (n.toNat) (V.bool false))))).bind (un fun aq2=>un fun (aq3:Bool) (auK:LV)=>
   kn (wrap .i64 (t164+1),auK))
  else none
 else
  kr (t164,decide (t164<t163),qt)
noncomputable def yq (C:af) (n t163 Dx:Int) (bm:LV) (nz nA:Int) (nB:Bool) (nC ms:Int) (An bw b7 cg gB jK gR fS fT gk gA dR fU gQ kQ ig Dy:LV):=un fun t164 qt=>yr C n t163 Dx bm nz nA nB nC ms An bw b7 cg gB jK gR fS fT gk gA dR fU gQ kQ ig Dy t164 qt (fun y=>some (Sum.inl y)) (fun r=>some (Sum.inr r))
noncomputable def Ik (C:af):cF:=bN 145 Sj [EQ,H1,EQ,EQ,EQ,EQ,EQ,EQ,EQ,EQ,EQ,EQ,EQ,EQ,EQ,EQ,EQ,EQ,EQ,EQ,EQ,EQ,H1,EQ,EQ,H1] [[1,0,0,3,4,5,6,7,8,9,10,11,12,13,14,15,16,17,18,19,20,21,22,0,24,25,0]] (@Ie C) (bN 321 Sk [EQ,EQ,H1,EQ,EQ,EQ,EQ,EQ,EQ,EQ,EQ,EQ,EQ,EQ,EQ,EQ,EQ,EQ,EQ,EQ,EQ,EQ,EQ,EQ,H1,EQ,EQ,EQ,EQ] [[1,2,0,4,5,0,6,7,8,9,10,11,12,13,14,15,16,17,18,19,20,21,22,23,24,0,26,27,28,29]] (@Ih C) (bN 225 Sl [EQ,EQ,H1,EQ,EQ,EQ,EQ,EQ,EQ,EQ,EQ,EQ,EQ,EQ,EQ,EQ,EQ,EQ,EQ,EQ,EQ,EQ,H1,EQ,EQ,EQ,H1] [[1,2,0,0,4,5,6,7,8,9,10,11,12,13,14,15,16,17,18,19,20,21,22,0,24,25,26,0]] (@Ii C) (bN 481 Sm [EQ,EQ,EQ,EQ,EQ,H1,EQ,EQ,EQ,EQ,EQ,EQ,EQ,H1,EQ,EQ,EQ,EQ,EQ,EQ,EQ,EQ,EQ,EQ,EQ,EQ,EQ,EQ,EQ,EQ,EQ,EQ,EQ,EQ] [[1,2,3,4,5,0,0,7,8,9,10,11,12,13,0,15,16,17,18,19,20,21,22,23,24,25,26,27,28,29,30,31,32,33,34]] (@Ij C) (bN 417 Sn [EQ,EQ,H1,EQ,EQ,EQ,EQ,EQ,EQ,EQ,H1,EQ,EQ,EQ,EQ,EQ,EQ,EQ,EQ,EQ,EQ,EQ,EQ,EQ,EQ,EQ,EQ,EQ] [[1,2,0,0,4,5,6,7,8,9,10,0,12,13,14,15,16,17,18,19,20,21,22,23,24,25,26,27,28]] (@yr C) bO))))
theorem auL (C:af):bB C (Ik C) 46 (Lp [1,1,1,1,1,1,0,1,0,0] 46):=bP Sj [EQ,H1,EQ,EQ,EQ,EQ,EQ,EQ,EQ,EQ,EQ,EQ,EQ,EQ,EQ,EQ,EQ,EQ,EQ,EQ,EQ,EQ,H1,EQ,EQ,H1] [[1,0,0,3,4,5,6,7,8,9,10,11,12,13,14,15,16,17,18,19,20,21,22,0,24,25,0]] (@Ie C) (bu aw)
theorem auM (C:af):bB C (Ik C) 46 (Lp [1,1,1,1,1,1,1,0,1,0,0,1,1,0,0,1,1,1,1,1,0,0] 46):=bP Sk [EQ,EQ,H1,EQ,EQ,EQ,EQ,EQ,EQ,EQ,EQ,EQ,EQ,EQ,EQ,EQ,EQ,EQ,EQ,EQ,EQ,EQ,EQ,EQ,H1,EQ,EQ,EQ,EQ] [[1,2,0,4,5,0,6,7,8,9,10,11,12,13,14,15,16,17,18,19,20,21,22,23,24,0,26,27,28,29]] (@Ih C) (bu aw)
theorem auN (C:af):bB C (Ik C) 46 (Lp [1,1,1,1,1,1,1,0,1,0,0] 46):=bP Sl [EQ,EQ,H1,EQ,EQ,EQ,EQ,EQ,EQ,EQ,EQ,EQ,EQ,EQ,EQ,EQ,EQ,EQ,EQ,EQ,EQ,EQ,H1,EQ,EQ,EQ,H1] [[1,2,0,0,4,5,6,7,8,9,10,11,12,13,14,15,16,17,18,19,20,21,22,0,24,25,26,0]] (@Ii C) (bu (bC (auM C) aw))
theorem auO (C:af):bB C (Ik C) 46 (Lp [1,1,1,1,1,1,1,1,1,0,1,0,0,1,1,0,0,1,1,1,0,0] 46):=bP Sm [EQ,EQ,EQ,EQ,EQ,H1,EQ,EQ,EQ,EQ,EQ,EQ,EQ,H1,EQ,EQ,EQ,EQ,EQ,EQ,EQ,EQ,EQ,EQ,EQ,EQ,EQ,EQ,EQ,EQ,EQ,EQ,EQ,EQ] [[1,2,3,4,5,0,0,7,8,9,10,11,12,13,0,15,16,17,18,19,20,21,22,23,24,25,26,27,28,29,30,31,32,33,34]] (@Ij C) (bu aw)
theorem auP (C:af):bB C (Ik C) 46 (Lp [1,1,1,1,1,1,1,1,1,0,1,0,0] 46):=bP Sn [EQ,EQ,H1,EQ,EQ,EQ,EQ,EQ,EQ,EQ,H1,EQ,EQ,EQ,EQ,EQ,EQ,EQ,EQ,EQ,EQ,EQ,EQ,EQ,EQ,EQ,EQ,EQ] [[1,2,0,0,4,5,6,7,8,9,10,0,12,13,14,15,16,17,18,19,20,21,22,23,24,25,26,27,28]] (@yr C) (bu (bC (auO C) aw))
noncomputable def rX (C:af) (ss:Int) (bm aM:LV):Option LV:=
 (C Bt [.list ag bm,.bool true]).bind fun r1=>
 bif (((V.nth (r1.drop 3) 0).toInt):Int) != 0 then
  some [V.int .i64 0,.list ag ([]:LV),.list bZ ([]:LV),.list ab ([]:LV),.list ar ([]:LV),.list ar ([]:LV),.list kH ([]:LV),V.int .i64 ((V.nth (r1.drop 3) 0).toInt),V.int .i64 ss,.list ag bm,.list fN aM]
 else
  bif decide (((((V.nth ((r1.drop 4).drop 1) 0).toList).length:Int):Int)>400) then
  some [V.int .i64 0,.list ag ([]:LV),.list bZ ([]:LV),.list ab ([]:LV),.list ar ([]:LV),.list ar ([]:LV),.list kH ([]:LV),V.int .i64 3,V.int .i64 ss,.list ag bm,.list fN aM]
  else
  bif (decide (0≤(((V.nth ((r1.drop 4).drop 1) 0).toList).length:Int)))&&((decide ((((V.nth ((r1.drop 4).drop 1) 0).toList).length:Int)≤(((V.nth ((r1.drop 4).drop 1) 0).toList).length:Int)))&&(Nat.ble ((((((V.nth ((r1.drop 4).drop 1) 0).toList).length:Int):Int).toNat)*24) aW)) then
   bif (decide (0≤(((V.nth ((r1.drop 4).drop 1) 0).toList).length:Int)))&&((decide ((((V.nth ((r1.drop 4).drop 1) 0).toList).length:Int)≤(((V.nth ((r1.drop 4).drop 1) 0).toList).length:Int)))&&(Nat.ble ((((((V.nth ((r1.drop 4).drop 1) 0).toList).length:Int):Int).toNat)*16) aW)) then
   bif decide (0<(((V.nth (((((r1.drop 4).drop 1).drop 1).drop 1).drop 1) 0).toList).length:Int)) then
    (((V.nth (((((r1.drop 4).drop 1).drop 1).drop 1).drop 1) 0).toList)[0]?).bind fun x2=>
    bif Nat.ble (x2.toList.length*8) aW then
    bif (decide (0≤(((V.nth ((r1.drop 4).drop 1) 0).toList).length:Int)))&&((decide ((((V.nth ((r1.drop 4).drop 1) 0).toList).length:Int)≤(((V.nth ((r1.drop 4).drop 1) 0).toList).length:Int)))&&(Nat.ble ((((((V.nth ((r1.drop 4).drop 1) 0).toList).length:Int):Int).toNat)*1) aW)) then
     (Loop (Ig C (((V.nth ((r1.drop 4).drop 1) 0).toList).length:Int) ss bm 0 ((V.nth r1 0).toInt) ((V.nth (r1.drop 1) 0).toBool) ((V.nth ((r1.drop 1).drop 1) 0).toInt) (bm.length:Int) aM ([]:LV) ([]:LV) ([]:LV) ([]:LV) ([]:LV) ((V.nth (r1.drop 4) 0).toList) ((V.nth ((r1.drop 4).drop 1) 0).toList) ((V.nth (((r1.drop 4).drop 1).drop 1) 0).toList) ((V.nth ((((r1.drop 4).drop 1).drop 1).drop 1) 0).toList) ((V.nth (((((r1.drop 4).drop 1).drop 1).drop 1).drop 1) 0).toList) ((V.nth ((((((r1.drop 4).drop 1).drop 1).drop 1).drop 1).drop 1) 0).toList) (List.replicate (((((V.nth ((r1.drop 4).drop 1) 0).toList).length:Int):Int).toNat) (V.list ab ([]:LV))) x2.toList ([]:LV)) (1,List.replicate (((((V.nth ((r1.drop 4).drop 1) 0).toList).length:Int):Int).toNat) (V.str []),List.replicate (((((V.nth ((r1.drop 4).drop 1) 0).toList).length:Int):Int).toNat) (V.bool false))).bind (un fun i_8=>un fun (vK:Bool)=>un fun (qm:LV) (zI:LV)=>
      (Loop (NR C (((V.nth ((r1.drop 4).drop 1) 0).toList).length:Int) (((V.nth (((((r1.drop 4).drop 1).drop 1).drop 1).drop 1) 0).toList).length:Int) ss bm 0 ((V.nth r1 0).toInt) ((V.nth (r1.drop 1) 0).toBool) ((V.nth ((r1.drop 1).drop 1) 0).toInt) (bm.length:Int) ((V.nth (((((r1.drop 4).drop 1).drop 1).drop 1).drop 1) 0).toList) aM ([]:LV) ([]:LV) ([]:LV) ([]:LV) ([]:LV) ((V.nth (r1.drop 4) 0).toList) ((V.nth ((r1.drop 4).drop 1) 0).toList) ((V.nth (((r1.drop 4).drop 1).drop 1) 0).toList) ((V.nth ((((r1.drop 4).drop 1).drop 1).drop 1) 0).toList) ((V.nth ((((((r1.drop 4).drop 1).drop 1).drop 1).drop 1).drop 1) 0).toList) qm x2.toList ([]:LV)) (0,List.replicate (((((V.nth ((r1.drop 4).drop 1) 0).toList).length:Int):Int).toNat) (V.list ab ([]:LV)),zI)).bind (un fun ax1=>un fun (ax2:Bool)=>un fun (De:LV) (xB:LV)=>
       bif (decide (0≤(aM.length:Int)))&&((decide ((aM.length:Int)≤(aM.length:Int)))&&(Nat.ble (((aM.length:Int).toNat)*24) aW)) then
       (Loop (yq C (((V.nth ((r1.drop 4).drop 1) 0).toList).length:Int) (aM.length:Int) ss bm 0 ((V.nth r1 0).toInt) ((V.nth (r1.drop 1) 0).toBool) ((V.nth ((r1.drop 1).drop 1) 0).toInt) (bm.length:Int) aM ([]:LV) ([]:LV) ([]:LV) ([]:LV) ([]:LV) ((V.nth (r1.drop 4) 0).toList) ((V.nth ((r1.drop 4).drop 1) 0).toList) ((V.nth (((r1.drop 4).drop 1).drop 1) 0).toList) ((V.nth ((((r1.drop 4).drop 1).drop 1).drop 1) 0).toList) ((V.nth (((((r1.drop 4).drop 1).drop 1).drop 1).drop 1) 0).toList) ((V.nth ((((((r1.drop 4).drop 1).drop 1).drop 1).drop 1).drop 1) 0).toList) De qm x2.toList ([]:LV) xB) (0,List.replicate ((aM.length:Int).toNat) (V.list ar ([]:LV)))).bind (un fun ax3=>un fun (ax4:Bool) (auQ:LV)=>
        some [V.int .i64 (bm.length:Int),.list ag De,.list bZ qm,.list ab x2.toList,.list ar ([]:LV),.list ar xB,.list kH auQ,V.int .i64 0,V.int .i64 ss,.list ag bm,.list fN aM])
       else none))
    else none
    else none
   else none
   else none
  else none
theorem JC {ss:Int} {bm aM:LV} {r:Option LV} (h:rX CC ss bm aM=r):CC pV [V.int .i64 ss,.list ag bm,.list fN aM]=r:=bQ (bC (auL CC) (bC (auN CC) (bC (auP CC) aw))) h
theorem auR {l:List Nat} (hl:l.length≤1000000):CC Lv [.list ab (nS l),.int .i64 0]=some [.bool (decide (0∈l))]:=by
 have key: ∃k:Int,CC LB [.list ab (nS l),.int .i64 0]=some [.int .i64 k]∧decide (k≥0)=decide (0∈l):=by
  have hL:=ap2 (step:=NQ CC (nS l) 0 ((nS l).length:Int)) (fun i=>l.getD i 0==0) l.length (fun i=>(i:Int)) (fun i=> .inl (i:Int)) (.inr ((l.length:Int),false)) (fun i hi=> ?_) ?_
  ·rcases hL with ⟨i,hi,hb,_,e⟩|⟨hb,e⟩
   ·refine ⟨(i:Int),aeT ?_,?_⟩
    ·unfold Vh;exact bs e rfl
    ·rw[cp (by omega),cp ?_];rw[cN hi,beq_iff_eq] at hb;exact hb▸dm hi
   ·refine ⟨-1,aeT ?_,?_⟩
    ·unfold Vh;exact bs e rfl
    ·rw[da (by omega),da fun hm=> ?_];obtain ⟨i,hi,e⟩:=List.getElem_of_mem hm;have:=hb i hi;rw[cN hi,e] at this;cases this
  ·simp only[NQ,Ic];rw[dy];refine bT (bh hi) (bs (iw hi) ?_);by_cases c:l[i]=0
   ·rw[aE (by rw[cN hi,c];rfl)];exact bT (by show ((0:Int)==((l[i]:Nat):Int))=true;rw[c];rfl) rfl
   ·rw[aF (by rw[cN hi];simpa using c)];refine bF (by show ((0:Int)==((l[i]:Nat):Int))=false;rw[ue];omega) ?_;rw[br (by omega)]
  ·simp only[NQ,Ic];rw[dy];refine bF (aV (av _)) ?_;rw[aV (av _)]
 obtain ⟨k,e,h⟩:=key;refine auJ ?_;unfold aeU;rw[←h];exact bs e rfl
theorem getD_map {l:List Nat} {k:Nat→Nat} {i:Nat} (h:i<l.length):(l.map k).getD i 0=k (l.getD i 0):=by
 rw[cN (by simpa using h),cN h,DK]
theorem Vo {n:Nat} {f g k:List Nat} (hf:Tr n f) (hg:Tr n g):comp (comp f g) k=comp f (comp g k):=by
 unfold comp;rw[AH];exact pK fun i hi=>(getD_map (k:=fun i=>k.getD i 0) (by rw[hg.1];exact hf.2 i hi)).symm
theorem comp_id {n:Nat} {f:List Nat} (hf:Tr n f):comp f (List.range n)=f:=by
 refine ui (by simp[comp]) fun i h1 h2=> ?_;have:=hf.at h2;simp[comp,this]
def fP (S:List (List Nat)) (i j:Nat):Nat:=ic S (comp (S.getD i []) (S.getD j []))
def sG (S:List (List Nat)) (i j:Nat):LV:=tab S.length fun b=>if b<j then nV (fP S i b) else V.int .i64 0
def qu (S:List (List Nat)) (i j:Nat):LV:=tab S.length fun a=>if a<i then .list ab (sG S a S.length) else if a=i then .list ab (sG S i j) else .list ab []
def rp (S:List (List Nat)) (i:Nat):LV:=tab S.length fun a=>if a<i then .list ab (sG S a S.length) else .list ab []
def Ao (L:Nat) (g:Nat→List Nat) (S:List (List Nat)) (i:Nat):Bool:=decide (∃a,a<i∧0∈fc L g S (S.getD a []))
def gN (L:Nat) (g:Nat→List Nat) (S:List (List Nat)) (i:Nat):LV:=tab S.length fun j=> .bool (if j=0 then Ao L g S i else true)
def Big (n:Nat):Prop:= ∃T:List (List Nat),T.Nodup∧(∀f∈T,Tr n f)∧400<T.length
section
variable {L n:Nat} {g:Nat→List Nat} {S:List (List Nat)} {P K:List Int} {R:List (List Nat)} {W:List (List UInt8)} {B:List Int} {s:List Nat}
theorem lr.row (h:lr L n S.length g S P K R W B s):R=S.map (fc L g S):=by rw[h.rr,vW]
theorem lr.Ey (h:lr L n S.length g S P K R W B s) {i:Nat} (hi:i<S.length):(sV R)[i]? =some (tV (fc L g S (S.getD i []))):=by
 rw[h.row];simp[sV,hi]
theorem lr.O2 (h:lr L n S.length g S P K R W B s) {f:List Nat} (hf:f∈S) {x:Nat} (hx:x<L):bn g f x∈S:=h.cl f (by rw[vW];exact hf) x hx
theorem lr.word (h:lr L n S.length g S P K R W B s): ∀{i:Nat},i<S.length→∃w,WL L w∧S.getD i []=w.foldl (bn g) (List.range n):=by
 intro i
 induction i using Nat.strongRecOn with
 | ind i ih=>
  intro hi;rcases DE i with rfl|h0
  ·refine ⟨[],WL.nil,?_⟩;have:=h.I.id;cases S with
   | nil=>cases this
   | cons a S=>exact dM this
  ·obtain ⟨p,x,_,_,hp,hx,e⟩:=h.I.p i h0 hi;obtain ⟨w,hw,e2⟩:=ih p hp (by omega);refine ⟨w++[x],WL.app.2 ⟨hw,WL.nil.cons hx⟩,?_⟩;rw[DJ,←e2,e];rfl
theorem lr.aeW (h:lr L n S.length g S P K R W B s) (hg: ∀x,x<L→Tr n (g x)) {f:List Nat} (hf:f∈S): ∀{j:Nat},j<S.length→comp f (S.getD j [])∈S:=by
 intro j hj
 induction j using Nat.strongRecOn with
 | ind j ih=>
  rcases DE j with rfl|h0
  ·have:S.getD 0 []=List.range n:=by
    have:=h.I.id;cases S with
    | nil=>cases this
    | cons a S=>exact dM this
   rw[this,comp_id (h.I.tr f hf)];exact hf
  ·obtain ⟨p,x,_,_,hp,hx,e⟩:=h.I.p j h0 hj;have eD:p<S.length:=by omega
   have Vp:Tr n (S.getD p []):=by rw[cN eD];exact h.I.tr _ (dm eD)
   rw[e,←Vo (h.I.tr f hf) Vp];exact h.O2 (ih p hp eD) hx
theorem lr.auS (h:lr L n S.length g S P K R W B s) (hg: ∀x,x<L→Tr n (g x)) {i j:Nat} (hi:i<S.length) (hj:j<S.length):fP S i j<S.length:=
 sC (h.aeW hg (by rw[cN hi];exact dm hi) hj)
section
variable (h:lr L n S.length g S P K R W B s) (hg: ∀x,x<L→Tr n (g x))
include h hg
theorem aeX {i:Nat} (hi:i<S.length) {k1 k2 k3 k4 k5 k6 k7:Int} {k8:Bool} {l1 l2 l3 l4 l5 l6 l7 l8 l9 l10 l11 l12 l13 l14:LV}:
  Loop (Dw CC (S.length:Int) (i:Int) k1 k2 k3 l1 k4 k5 k8 k6 k7 (sV R) l2 l3 l4 l5 l6 l7 l8 l9 (iL P) (iL K) l10 l11 l12 l13 l14) (1,qu S i 1)=some ((S.length:Int),false,qu S i S.length):=by
 have hlen:=h.I.len;have ky: ∀{j:Nat},(qu S i j)[i]? =some (.list ab (sG S i j)):=fun {j}=>by unfold qu;rw[nq hi,dA,dv]
 have hl: ∀{j:Nat},(sG S i j).length=S.length:=fun {j}=>fG;have jg: ∀{j:Nat},j<S.length→(qu S i j).set i (.list ab ((sG S i j).set j (nV (fP S i j))))=qu S i (j+1):=fun {j} hj=>by
  unfold qu sG;rw[mH,mH];refine dB fun a _=> ?_;by_cases c:a=i
  ·subst c;rw[dv,dA,dv];refine congrArg _ (dB fun b _=> ?_);by_cases c2:b=j
   ·rw[aE c2,dv,c2]
   ·rw[aF c2];by_cases c3:b<j
    ·rw[aE c3,dv]
    ·rw[aF c3,dA]
  ·rw[aF c];by_cases c2:a<i
   ·rw[aE c2,aE c2]
   ·rw[aF c2,aF c,aF c2,aF c]
 have hfi:Tr n (S.getD i []):=by rw[cN hi];exact h.I.tr _ (dm hi)
 have key:=jD (step:=Dw CC (S.length:Int) (i:Int) k1 k2 k3 l1 k4 k5 k8 k6 k7 (sV R) l2 l3 l4 l5 l6 l7 l8 l9 (iL P) (iL K) l10 l11 l12 l13 l14) (fun j x=>x=((j:Int),qu S i j)) (fun r=>r=((S.length:Int),false,qu S i S.length)) (S.length-1) 1 (1,qu S i 1) (fun j h1 hj x hx=> ?_) (fun x hx=> ?_) rfl
 ·obtain ⟨r,e,rfl⟩:=key;exact e
 ·subst hx;have hj:j<S.length:=by omega
  obtain ⟨p,x,eP,eK,hp,hx,e⟩:=h.I.p j (by omega) hj;have eD:p<S.length:=by omega
  have Vp:Tr n (S.getD p []):=by rw[cN eD];exact h.I.tr _ (dm eD)
  have hm:=h.auS hg hi eD;have hmm:S.getD (fP S i p) []=comp (S.getD i []) (S.getD p []):=by
   rw[cN hm];exact T6 (h.aeW hg (by rw[cN hi];exact dm hi) eD)
  have hv:(fc L g S (S.getD (fP S i p) [])).getD x 0=fP S i j:=by
   unfold fc;rw[getD_map (by rw[jN];exact hx),cN (l:=List.range L) (by rw[jN];exact hx),IJ,hmm];unfold fP bn;rw[Vo hfi Vp,←e]
  have hrl:(fc L g S (S.getD (fP S i p) [])).length=L:=by simp[fc]
  refine ⟨_,?_,rfl⟩;simp only[Dw,Ih,un,aP,bj,Int.toNat_natCast];have g1:(sG S i j)[p]? =some (nV (fP S i p)):=by unfold sG;rw[nq eD,aE hp]
  have g2:(sG S i j)[j]? =some (.int .i64 0):=by unfold sG;rw[nq hj,dA]
  refine bT (bh hj) ((bX ky).trans ((bX ky).trans ((bX (tX (by rw[h.I.lP];exact hj))).trans (bs (pZ ky) ?_))));rw[eP,V.ei];refine bT (ou (by rw[hl];exact eD)) (bs (pZ ky) ?_);rw[V.ei,show (V.int IntKind.i64 (p:Int)).toInt.toNat=p from rfl];refine bs g1 (bT (ou (by rw[pW,h.row,db];exact hm)) (bs (by rw[show (nV (fP S i p)).toInt.toNat=fP S i p from rfl];exact h.Ey hm) ((bX (tX (by rw[h.I.lK];exact hj))).trans ?_)));rw[eK,oq];refine bs (iw (i:=x) (by rw[hrl];exact hx)) (bs (pZ ky) ?_);rw[V.ei];refine bT (ou (by rw[hl];exact hj)) (bs (pZ ky) ?_);rw[V.ei];refine bs g2 ?_;have mU:(fc L g S (S.getD (fP S i p) []))[x]'(by rw[hrl];exact hx)=fP S i j:=(cN (d:=0) _).symm.trans hv;rw[ES ky,br (by omega),←jg hj,mU];rfl
 ·subst hx;have e1:1+(S.length-1)=S.length:=by have:=h.I.pos;omega
  rw[e1];refine ⟨_,?_,rfl⟩;simp only[Dw,Ih,un];refine bF (aV (av _)) ?_;rw[aV (av _)]
end
end
section
variable {L n:Nat} {g:Nat→List Nat} {S:List (List Nat)} {P K:List Int} {R:List (List Nat)} {W:List (List UInt8)} {B:List Int} {s:List Nat}
section
variable (h:lr L n S.length g S P K R W B s) (hg: ∀x,x<L→Tr n (g x))
include h
theorem lr.wJ:S.getD 0 []=List.range n:=by
 have:=h.I.id;cases S with
 | nil=>cases this
 | cons a S=>exact dM this
theorem mul_zero {i:Nat} (hi:i<S.length):fP S i 0=i:=by
 unfold fP;have:=h.I.tr _ (dm hi);rw[h.wJ,cN hi,comp_id this];exact T7 h.I.nd hi
theorem WR {k1 k2 k3 k4 k5:Int} {k8:Bool} {l1 l2 l3 l4 l5 l6 l7 l8 l9 l10 l11 l12 l13 l14:LV}: ∃f:Nat→List UInt8,
  Loop (Ig CC (S.length:Int) k1 l1 k2 k3 k8 k4 k5 l2 l3 l4 l5 l6 l7 l8 l9 (iL P) (iL K) l10 l11 l12 l13 l14) (1,List.replicate S.length (V.str []),List.replicate S.length (V.bool false))=some ((S.length:Int),false,tab S.length fun j=> .str (f j),gN L g S 0):=by
 have hlen:=h.I.len;have key:=jD (step:=Ig CC (S.length:Int) k1 l1 k2 k3 k8 k4 k5 l2 l3 l4 l5 l6 l7 l8 l9 (iL P) (iL K) l10 l11 l12 l13 l14)
  (fun i x=> ∃f:Nat→List UInt8,x=((i:Int),(tab S.length fun j=>V.str (f j)),tab S.length fun j=>V.bool (decide (0<j∧j<i)))∧∀j,(f j).length≤j)
  (fun r=> ∃f:Nat→List UInt8,r=((S.length:Int),false,(tab S.length fun j=>V.str (f j)),gN L g S 0)) (S.length-1) 1
  (1,List.replicate S.length (V.str []),List.replicate S.length (V.bool false)) (fun i h1 hi x hx=> ?_) (fun x hx=> ?_) ⟨fun _=>[],?_,fun j=>by simp⟩
 ·obtain ⟨r,e,f,rfl⟩:=key;exact ⟨f,e⟩
 ·obtain ⟨f,rfl,hf⟩:=hx;have bp:i<S.length:=by omega
  obtain ⟨p,x,eP,eK,hp,hx,_⟩:=h.I.p i (by omega) bp;have eD:p<S.length:=by omega
  have hfp:=hf p;simp only[Ig,Ie,un,aP,bj];refine ⟨_,bT (bh bp) ((bX (tX (by rw[h.I.lP];exact bp))).trans ?_),fun j=>if j=i then f p++lb [V.int .u8 (wrap .u8 (wrap .i64 (97+(x:Int))))] else f j,rfl,fun j=> ?_⟩
  ·rw[eP];refine bT (ou (by simpa using eD)) (bs (by rw[show (V.int IntKind.i64 (p:Int)).toInt.toNat=p from rfl];exact nq eD) ((bX (tX (by rw[h.I.lK];exact bp))).trans ?_));rw[eK];refine bT (xH ?_) ((ri (by simpa using bp)).trans ((ri (by simpa using bp)).trans ?_))
   ·show (f p).length+1≤oT;unfold oT;omega
   ·rw[br (by omega),Int.toNat_natCast,mH,mH];refine congrArg (fun t=>some (Sum.inl t)) (cK rfl (cK (dB fun j _=> ?_) (dB fun j _=> ?_)))
    ·dsimp only;by_cases c:j=i
     ·rw[aE c,aE c];rfl
     ·rw[aF c,aF c]
    ·by_cases c:j=i
     ·rw[aE c,cp (by omega)]
     ·rw[aF c];by_cases c2:0<j∧j<i
      ·rw[cp c2,cp (by omega)]
      ·rw[da c2,da (by omega)]
  ·dsimp only;by_cases c:j=i
   ·rw[aE c,ik];show _+1≤j;omega
   ·rw[aF c];exact hf j
 ·obtain ⟨f,rfl,hf⟩:=hx;have e1:1+(S.length-1)=S.length:=by have:=h.I.pos;omega
  rw[e1];simp only[Ig,Ie,un];refine ⟨_,bF (aV (av _)) rfl,f,?_⟩;rw[aV (av _)];refine cK rfl (cK rfl (cK rfl (dB fun j hj=> ?_)));by_cases c:j=0
  ·rw[aE c,da (by omega)];exact congrArg V.bool (da (by rintro ⟨a,ha,_⟩;omega)).symm
  ·rw[aF c,cp (by omega)]
 ·rw[qo,qo];refine cK rfl (cK rfl (dB fun j _=> ?_));rw[da (by omega)]
include hg
theorem WS (hL:L≤6) {k1 k2 k3 k4 k5:Int} {k8:Bool} {l1 l2 l3 l4 l5 l6 l7 l8 l9 l10 l11 l12 l13:LV}:
  Loop (NR CC (S.length:Int) (S.length:Int) k1 l1 k2 k3 k8 k4 k5 (sV R) l2 l3 l4 l5 l6 l7 l8 l9 (iL P) (iL K) l10 l11 l12 l13) (0,List.replicate S.length (V.list ab ([]:LV)),gN L g S 0)=some ((S.length:Int),false,rp S S.length,gN L g S S.length):=by
 have hlen:=h.I.len;have eQ:=h.I.pos;rw[show List.replicate S.length (V.list ab ([]:LV))=rp S 0 from by rw[qo];exact dB fun j _=>by rw[dA]];refine gx S.length (fun i=>((i:Int),rp S i,gN L g S i)) _ (fun i hi=> ?_) ?_
 ·have hl:(gN L g S i).length=S.length:=fG;have hy:(rp S i).length=S.length:=fG;have e0:(gN L g S i)[0]? =some (.bool (Ao L g S i)):=nq eQ;have hz:((rp S i).set i (V.list ab (List.replicate S.length (V.int .i64 0))))[i]? =some (V.list ab (List.replicate S.length (V.int .i64 0))):=by
   rw[oN (by rw[hy];exact hi)]
  have kJ:setRow Tryz.prog ((List.replicate S.length (V.int .i64 0)).set 0 (V.int .i64 (i:Int))) ag ((rp S i).set i (V.list ab (List.replicate S.length (V.int .i64 0)))) [(i,0)]=qu S i 1:=by
   rw[ES hz,AI];unfold rp qu;rw[mH];refine dB fun a _=> ?_;by_cases c:a=i
   ·subst c;rw[dv,dA,dv,qo,mH];refine congrArg _ (dB fun b _=> ?_);by_cases c2:b=0
    ·rw[aE c2,dv,c2,mul_zero h hi];rfl
    ·rw[aF c2,dA]
   ·rw[aF c];by_cases c2:a<i
    ·rw[aE c2,aE c2]
    ·rw[aF c2,aF c2,aF c]
  have jU:qu S i S.length=rp S (i+1):=dB fun a _=>by
   by_cases c:a=i
   ·subst c;rw[dA,dv,dv]
   ·by_cases c2:a<i
    ·rw[dv,dv]
    ·rw[dA,aF c,dA]
  have eD: ∀c:Bool,c=Ao L g S (i+1)→(gN L g S i).set 0 (.bool c)=gN L g S (i+1):=fun c hc=>by
   unfold gN;rw[mH];refine dB fun j _=> ?_;by_cases c2:j=0
   ·rw[aE c2,aE c2,hc]
   ·rw[aF c2,aF c2,aF c2]
  have NT:Ao L g S (i+1)=(Ao L g S i||decide (0∈fc L g S (S.getD i []))):=by
   unfold Ao;rw[xL,DC,DL,DL,DL];constructor
   ·rintro ⟨a,ha,hm⟩;rcases js a i with c|c
    ·exact .inl ⟨a,c,hm⟩
    ·exact .inr (by rw[show i=a by omega];exact hm)
   ·rintro (⟨a,ha,hm⟩|hm)
    ·exact ⟨a,by omega,hm⟩
    ·exact ⟨i,by omega,hm⟩
  simp only[NR,Ii,un,aP,bj,Int.toNat_natCast];have Dz: ∀{l:LV},l.length=S.length→decide (0<(l.length:Int))=true:=fun {l} hl=>cp (by omega);have s9:(decide (0≤(S.length:Int))&&(decide ((S.length:Int)≤(S.length:Int))&&(S.length*8).ble aW))=true:=by
   have:=fO (n:=S.length) (m:=8) (by omega) (by omega);rwa [Int.toNat_natCast] at this
  have KX:(rp S i)[i]? =some (.list ab []):=by unfold rp;rw[nq hi,dA]
  have hzi:(((rp S i).set i (V.list ab (List.replicate S.length (V.int .i64 0)))).length)=S.length:=by rw[od,hy]
  have hz0:(List.replicate S.length (V.int .i64 0))[0]? =some (.int .i64 0):=by rw[DG,aE eQ]
  cases hb:Ao L g S i with
  | true=>
   rw[hb] at e0 NT;refine bT (bh hi) ((bX (h.Ey hi)).trans (bT (Dz hl) (bs e0 (bT rfl (bT (Dz hl) (bs e0 (bT s9 ((bX KX).trans ((bX hz).trans (bs (pZ hz) ?_))))))))));rw[V.ei];refine bT (Dz (by simp)) (bs (pZ hz) ?_);rw[V.ei];refine bs hz0 ?_;rw[kJ];refine bs (aeX h hg hi) ?_;rw[eD true (by rw[NT];rfl),jU,br (by omega)];rfl
  | false=>
   rw[hb] at e0 NT;have hC:=auR (l:=fc L g S (S.getD i [])) (by rw[fc,db,jN];omega);refine bT (bh hi) ((bX (h.Ey hi)).trans (bT (Dz hl) (bs e0 (bF rfl (bs (by rw[oq];exact hC) (bT (Dz hl) (bs e0 (bT s9 ((bX KX).trans ((bX hz).trans (bs (pZ hz) ?_)))))))))));rw[V.ei];refine bT (Dz (by simp)) (bs (pZ hz) ?_);rw[V.ei];refine bs hz0 ?_;rw[kJ];refine bs (aeX h hg hi) ?_;rw[jU,br (by omega)];show some (Sum.inl (_,_,(gN L g S i).set 0 (V.bool (decide (0∈fc L g S (S.getD i []))))))=_;rw[eD _ (by rw[NT];rfl)]
 ·simp only[NR,Ii,un];refine bF (aV (av _)) ?_;rw[aV (av _)]
end
end
noncomputable def Ew (C:af) (a b':LV) (t12 t13:Int) {β:Type} (kn:Int→Option β) (kr:((Bool) ⊕ (Int×Bool))→Option β):Option β:=
 bif decide (t13<t12) then
  (idx a t13).bind fun x1=>
  (idx b' t13).bind fun x2=>
  bif (x1.toInt:Int) != x2.toInt then
  kr (.inl false)
  else
  kn (wrap .i64 (t13+1))
 else
  kr (.inr (t13,decide (t13<t12)))
noncomputable def O0 (C:af) (a b':LV) (t12:Int):=fun t13=>Ew C a b' t12 t13 (fun y=>some (Sum.inl y)) (fun r=>some (Sum.inr r))
noncomputable def auT (C:af):cF:=bN 65 R9 [EQ,EQ,EQ,H1] [[0],[1,2,3,0,0]] (@Ew C) bO
theorem auU (C:af):bB C (auT C) 15 (Lp [1,1,0,1,0,0] 15):=bP R9 [EQ,EQ,EQ,H1] [[0],[1,2,3,0,0]] (@Ew C) (bu aw)
noncomputable def WI (C:af) (a b':LV):Option LV:=
 bif (a.length:Int) != (b'.length:Int) then
  some [.bool false]
 else
  (Loop (O0 C a b' (a.length:Int)) 0).bind (gj (fun (jJ:Bool)=>
   some [.bool jJ]) (un fun (lV:Int) (kC:Bool)=>
   some [.bool true]))
theorem ag2 {a b':LV} {r:Option LV} (h:WI CC a b'=r):CC OZ [.list ab a,.list ab b']=r:=bQ (bC (auU CC) aw) h
end Go.AM
set_option maxRecDepth 100000
namespace Go.AM
open Go.IntKind (wrap)
open Go.Proofs
namespace Da
def Il (a:Da) (k q:Nat):Prop:= ∃w,WL a.L w∧w.length≤k∧a.acc q w=true
def Live (a:Da) (q:Nat):Prop:= ∃w,WL a.L w∧a.acc q w=true
open Classical in
noncomputable def Ou (a:Da) (q:Nat):Bool:=decide (a.Live q)
theorem Il.live {a:Da} {k q:Nat} (h:a.Il k q):a.Live q:=by obtain ⟨w,h1,_,h3⟩:=h;exact ⟨w,h1,h3⟩
theorem Il.mono {a:Da} {k m q:Nat} (h:a.Il k q) (hk:k≤m):a.Il m q:=by obtain ⟨w,h1,h2,h3⟩:=h;exact ⟨w,h1,by omega,h3⟩
end Da
def bV (n:Nat) (r:Nat→Bool):List V:=tab n fun q=>V.bool (r q)
def upd (r:Nat→Bool) (p:Nat) (b:Bool) (q:Nat):Bool:=if q=p then b else r q
structure LvI (a:Da) (r0 r:Nat→Bool) (c:Bool):Prop where
 lH: ∀q,q<a.n→r q=true→a.Live q
 up: ∀q,q<a.n→r0 q=true→r q=true
 yes:c=true→∃q,q<a.n∧r0 q=false∧r q=true
 no:c=false→∀q,q<a.n→r q=r0 q
section
variable {a:Da} (h:a.Ok)
include h
end
section
variable {a:Da} (h:a.Ok)
include h
end
end Go.AM
set_option maxRecDepth 100000
namespace Go.AM
open Go.IntKind (wrap)
open Go.Proofs
theorem rW {a:Da} (h:a.Ok):(minD a).Ok:=(uO h).ok
theorem Bx {a:Da} (h:a.Ok):(minD a).L=a.L:=(uO h).hL
theorem Xr {a:Da} (h:a.Ok):(minD a).st=0:=(uO h).st
theorem JM {a:Da} (h:a.Ok) {w:List Nat} (hw:WL a.L w):(minD a).acc (minD a).st w=a.acc a.st w:=by
 rw[Xr h];exact (uO h).CW w hw
theorem Pb {a b:Da} (ha:a.Ok) (hb:b.Ok) (hL:a.L=b.L) (hl: ∀w,WL a.L w→a.acc a.st w=b.acc b.st w):minD a=minD b:=
 O9 hb (hL▸Canon.congr (uO ha) hl)
theorem W0 {a:Da} (ha:a.Ok):minD (minD a)=minD a:=
 Pb (rW ha) ha (Bx ha) fun w hw=>JM ha (by rwa [Bx ha] at hw)
noncomputable def rY (C:af) (cU cX:Int) (cG c8:LV):Option LV:=
 (C s6 [V.int .i64 cU,V.int .i64 cX,.list ar cG,.list ag c8]).bind fun r1=>
 bif (((V.nth r1 0).toInt):Int) != 0 then
  some [V.int .i64 0,.list ag ([]:LV),.list bZ ([]:LV),.list ab ([]:LV),.list ar ([]:LV),.list ar ([]:LV),V.int .i64 ((V.nth r1 0).toInt)]
 else
  (C zh [V.int .i64 cU,V.int .i64 cX,.list ar cG,.list ag c8]).bind fun r2=>
  (C Ls [V.int .i64 ((V.nth r2 0).toInt),V.int .i64 ((V.nth (r2.drop 1) 0).toInt),.list ar ((V.nth (r2.drop 2) 0).toList),.list ag ((V.nth ((r2.drop 2).drop 1) 0).toList),V.int .i64 0]).bind fun r3=>
  bif (((V.nth r3 0).toInt):Int) != 0 then
  some [V.int .i64 0,.list ag ([]:LV),.list bZ ([]:LV),.list ab ([]:LV),.list ar ([]:LV),.list ar ([]:LV),V.int .i64 ((V.nth r3 0).toInt)]
  else
  (C pV [V.int .i64 ((V.nth (r3.drop 1) 0).toInt),.list ag ((V.nth ((r3.drop 1).drop 1) 0).toList),.list fN ((V.nth (((r3.drop 1).drop 1).drop 1) 0).toList)]).bind fun r4=>
  bif (((V.nth ((r4.drop 6).drop 1) 0).toInt):Int) != 0 then
   some [V.int .i64 0,.list ag ([]:LV),.list bZ ([]:LV),.list ab ([]:LV),.list ar ([]:LV),.list ar ([]:LV),V.int .i64 ((V.nth ((r4.drop 6).drop 1) 0).toInt)]
  else
   (((V.nth (r4.drop 6) 0).toList)[0]?).bind fun x5=>
   some [V.int .i64 ((V.nth r4 0).toInt),.list ag ((V.nth (r4.drop 1) 0).toList),.list bZ ((V.nth ((r4.drop 1).drop 1) 0).toList),.list ab ((V.nth (((r4.drop 1).drop 1).drop 1) 0).toList),.list ar x5.toList,.list ar ((V.nth (((((r4.drop 1).drop 1).drop 1).drop 1).drop 1) 0).toList),V.int .i64 0]
theorem Ez {cU cX:Int} {cG c8:LV} {r:Option LV} (h:rY CC cU cX cG c8=r):CC kG [V.int .i64 cU,V.int .i64 cX,.list ar cG,.list ag c8]=r:=bQ (L:=bO) aw h
structure pX (m:Da) (S:List (List Nat)):Prop where
 tr: ∀f∈S,Tr m.n f
 nd:S.Nodup
 wJ:S.getD 0 []=List.range m.n
 pos:0<S.length
 cl: ∀f∈S,∀x,x<m.L→bn m.gT f x∈S
 re: ∀i,i<S.length→∃w,WL m.L w∧S.getD i []=w.foldl (bn m.gT) (List.range m.n)
 le:S.length≤400
def ln (S:List (List Nat)):LV:=tab S.length fun i=> .list ab (tab S.length fun j=>nV (fP S i j))
def iI (m:Da) (S:List (List Nat)):LV:=nS (fc m.L m.gT S (List.range m.n))
def ja (m:Da) (S:List (List Nat)):LV:=tab S.length fun i=> .bool (m.fin ((S.getD i []).getD m.st 0))
def jb (m:Da) (S:List (List Nat)) (f:Nat→List UInt8):List V:=
 [.int .i64 (m.L:Int),.list ag (ln S),.list bZ (tab S.length fun j=> .str (f j)),.list ab (iI m S),.list ar (ja m S),.list ar (gN m.L m.gT S S.length)]
def JF (e:Int):List V:=[.int .i64 0,.list ag [],.list bZ [],.list ab [],.list ar [],.list ar [],.int .i64 e]
theorem WV {S:List (List Nat)}:rp S S.length=ln S:=dB fun i hi=>by
 rw[aE hi];exact congrArg _ (dB fun j hj=>aE hj)
section
variable {m:Da} (h:m.Ok) (fA:m.n≤32)
include h fA
theorem WU {S:List (List Nat)} (hS: ∀f∈S,Tr m.n f) (hl:S.length≤400) {k1 k2 k3 k4 k5 k6 k7 k8:Int} {k9:Bool} {l1 l2 l3 l4 l5 l6 l7 l8 l9 l10 l11 l12 l13 l14 yo yp l17:LV}:
  Loop (NS CC k1 0 k2 k3 (S.length:Int) k4 l1 k5 k6 k9 k7 k8 (m.st:Int) m.dU 0 l2 (sV S) l3 l4 l5 l6 l7 l8 l9 l10 l11 l12 l13 l14 yo yp l17) (0,[V.list ar (List.replicate S.length (V.bool false))])=some ((S.length:Int),false,[V.list ar (ja m S)]):=by
 refine tW (fun i a=>((i:Int),[V.list ar a])) S.length (fun i=> .bool (m.fin ((S.getD i []).getD m.st 0))) _ (by simp) (fun a=>((S.length:Int),false,[V.list ar a])) (fun i hi a ha=> ?_) ?_
 ·simp only[NS,Ij,un,aP,bj];have e0:([V.list ar a]:LV)[0]? =some (.list ar a):=rfl;refine bT (bh hi) ((bX (G5 hi)).trans ((bX (i:=0) e0).trans (bs (by rw[oq];exact asx h fA (hS _ (dm hi))) (bs (aep e0) ?_))));rw[V.ei];refine bT (ou (by rw[ha];exact hi)) (bs (aep e0) ?_);rw[V.ei,Int.toNat_natCast];refine bs (bU (by rw[ha];exact hi)) ?_;rw[br (by omega),cN hi];exact congrArg (fun t=>some (Sum.inl (((i+1:Nat):Int),t))) (asu e0)
 ·simp only[NS,Ij,un];refine bF (aV (av _)) ?_;rw[aV (av _)]
theorem auV: ∃r,CC pV [.int .i64 (m.n:Int),.list ag (gV m.L m.gT),.list fN (gy m)]=some r∧
  ((r=[.int .i64 0,.list ag [],.list bZ [],.list ab [],.list ar [],.list ar [],.list kH [],.int .i64 3,.int .i64 (m.n:Int),.list ag (gV m.L m.gT),.list fN (gy m)]∧Big m.n)∨
   ∃S,∃f:Nat→List UInt8,r=[.int .i64 (m.L:Int),.list ag (ln S),.list bZ (tab S.length fun j=> .str (f j)),.list ab (iI m S),.list ar [],.list ar (gN m.L m.gT S S.length),.list kH [.list ar (ja m S)],.int .i64 0,.int .i64 (m.n:Int),.list ag (gV m.L m.gT),.list fN (gy m)]∧pX m S):=by
 have hs:=h.s;have hL:=h.l6;have hg: ∀x,x<m.L→Tr m.n (m.gT x):=fun x hx=>h.gT hx;obtain ⟨r,e1,h1⟩:=WX (n:=m.n) (by omega) fA hg h.l1 h.l6;have fin: ∀z,rX CC (m.n:Int) (gV m.L m.gT) (gy m)=z→CC pV [.int .i64 (m.n:Int),.list ag (gV m.L m.gT),.list fN (gy m)]=z:=fun z h=>JC h;rcases h1 with ⟨rfl,T,t1,t2,t3⟩|⟨S,P,K,R,W,B,s,U,rfl,hE⟩
 ·refine ⟨_,fin _ ?_,.inl ⟨rfl,T,t1,t2,by omega⟩⟩;unfold rX;exact bs e1 (bT rfl rfl)
 ·rcases js 400 S.length with c|c
  ·refine ⟨_,fin _ ?_,.inl ⟨rfl,S,hE.I.nd,hE.I.tr,c⟩⟩;unfold rX;exact bs e1 (bF rfl (bT (by show decide ((((sV S).length:Nat):Int)>400)=true;rw[pW];exact cp (by omega)) rfl))
  ·have eQ:=hE.I.pos;obtain ⟨f,e2⟩:=WR (L:=m.L) (g:=m.gT) hE (k1:=(m.n:Int)) (k2:=0) (k3:=(m.n:Int)) (k4:=(S.length:Int)) (k5:=((gV m.L m.gT).length:Int)) (k8:=true) (l1:=gV m.L m.gT) (l2:=gy m) (l3:=[]) (l4:=[]) (l5:=[]) (l6:=[]) (l7:=[]) (l8:=gV m.L m.gT) (l9:=sV S) (l10:=sV R) (l11:=U) (l12:=List.replicate S.length (V.list ab [])) (l13:=iI m S) (l14:=[]);refine ⟨_,fin _ ?_,.inr ⟨S,f,rfl,hE.I.tr,hE.I.nd,hE.wJ,eQ,fun f hf x hx=>hE.O2 hf hx,fun i hi=>hE.word hi,c⟩⟩;unfold rX;refine bs e1 (bF rfl (bF (by show decide ((((sV S).length:Nat):Int)>400)=false;rw[pW];exact da (by omega)) ?_));have jU:(sV R)[0]? =some (tV (fc m.L m.gT S (List.range m.n))):=by rw[hE.Ey eQ,hE.wJ]
   have yn:(sV R).length=S.length:=by rw[pW,hE.row,db]
   have e3:=WS hE hg hL (k1:=(m.n:Int)) (k2:=0) (k3:=(m.n:Int)) (k4:=(S.length:Int)) (k5:=((gV m.L m.gT).length:Int)) (k8:=true) (l1:=gV m.L m.gT) (l2:=gy m) (l3:=[]) (l4:=[]) (l5:=[]) (l6:=[]) (l7:=[]) (l8:=gV m.L m.gT) (l9:=sV S) (l10:=U) (l11:=tab S.length fun j=> .str (f j)) (l12:=iI m S) (l13:=[]);have e4: ∀{k1 k2 k3 k4 k5:Int} {k8:Bool} {l1 l2 l3 l4 l5 l6 l7 l8 l9 l10 l11 l12 l13 l14 yo yp:LV},Loop (yq CC (S.length:Int) 1 k1 l1 k2 k3 k8 k4 k5 (gy m) l2 l3 l4 l5 l6 l7 (sV S) l8 l9 l10 l11 l12 l13 l14 yo yp) (0,[V.list ar []])=some (1,false,[V.list ar (ja m S)]):=by
    intro k1 k2 k3 k4 k5 k8 l1 l2 l3 l4 l5 l6 l7 l8 l9 l10 l11 l12 l13 l14 yo yp;refine gx 1 (fun i=>((i:Int),if i=0 then [V.list ar []] else [V.list ar (ja m S)])) _ (fun i hi=> ?_) ?_
    ·obtain rfl:i=0:=by omega
     simp only[yq,yr,un,aP,bj];refine bT rfl ((bX (es:=gy m) (i:=0) rfl).trans (bT (fO (by omega) (by omega)) ((bX (i:=0) (v:= .list ar []) rfl).trans ?_)));rw[pW];exact bs (WU h fA hE.I.tr c) rfl
    ·simp only[yq,yr,un];rfl
   have s9: ∀k,k≤1000→(decide (0≤(S.length:Int))&&(decide ((S.length:Int)≤(S.length:Int))&&(S.length*k).ble aW))=true:=fun k hk=>by
    have:=fO (n:=S.length) (m:=k) (by omega) hk;rwa [Int.toNat_natCast] at this
   have pY:(nS (fc m.L m.gT S (List.range m.n))).length≤6:=by rw[dy,fc,db,jN];exact hL
   simp only[Iz,ud,V.JD,V.ei,V.toInt_int,V.O3,pW,Int.toNat_natCast];refine bT (s9 24 (by omega)) (bT (s9 16 (by omega)) (bT (cp (by rw[hE.row,db];omega)) (bs jU (bT (by rw[oq];exact cap (b:=0) (by omega) (by omega)) (bT (s9 1 (by omega)) ?_)))));rw[oq];refine bs e2 ?_;rw[show R.length=S.length by rw[hE.row,db]];refine bs e3 ?_;simp only[un];rw[show (gy m).length=1 from rfl];refine bT (fO (n:=1) (by omega) (by omega)) (bs e4 ?_);rw[WV,show (gV m.L m.gT).length=m.L from fG];rfl
end
theorem ag4 {a:Da} (h:a.Ok) (fA:(minD a).n≤32):(CC kG (dK a)=some (JF 3)∧Big (minD a).n)∨∃S,∃f:Nat→List UInt8,CC kG (dK a)=some (jb (minD a) S f++[.int .i64 0])∧pX (minD a) S:=by
 have hm:=rW h;obtain ⟨r,e,h1⟩:=auV hm fA;have fin: ∀z,rY CC (a.L:Int) (a.st:Int) a.dU a.eh=z→CC kG (dK a)=z:=fun z h=>Ez h;rcases h1 with ⟨rfl,hb⟩|⟨S,f,rfl,hS⟩
 ·refine .inl ⟨fin _ ?_,hb⟩;unfold rY;exact bs (mC h) (bF rfl (bs (Bu h) (bs (JG hm fA) (bF rfl (bs e (bT rfl rfl))))))
 ·refine .inr ⟨S,f,fin _ ?_,hS⟩;unfold rY;refine bs (mC h) (bF rfl (bs (Bu h) (bs (JG hm fA) (bF rfl (bs e (bF rfl (bs (a:=V.list ar (ja (minD a) S)) rfl ?_)))))));rw[V.ei];rfl
def n9 (m:Da) (w:List Nat):List Nat:=w.foldl (bn m.gT) (List.range m.n)
def vl (m:Da) (S:List (List Nat)) (w:List Nat):Nat:=ic S (n9 m w)
section
variable {m:Da} (hm:m.Ok)
include hm
theorem aeY: ∀(w:List Nat) {f:List Nat},Tr m.n f→WL m.L w→Tr m.n (w.foldl (bn m.gT) f)
 | [],_,hf,_=>hf
 | x::w,f,hf,hw=>aeY w (f:=bn m.gT f x) (hf.comp (hm.gT hw.head)) hw.tail
theorem auW {w:List Nat} (hw:WL m.L w):Tr m.n (n9 m w):=aeY hm w G3 hw
theorem auX: ∀(w:List Nat) {f:List Nat},Tr m.n f→WL m.L w→w.foldl (bn m.gT) f=comp f (n9 m w):=by
 intro w
 induction w with
 | nil=>exact fun {f} hf _=>(comp_id hf).symm
 | cons x w ih=>
  intro f hf hw;have h1:=hm.gT hw.head;have e1:n9 m (x::w)=comp (m.gT x) (n9 m w):=by
   show w.foldl (bn m.gT) (bn m.gT (List.range m.n) x)=_;rw[ih (f:=bn m.gT (List.range m.n) x) (G3.comp h1) hw.tail,adZ (L:=m.L) (fun x hx=>hm.gT hx) hw.head]
  rw[e1,←Vo hf h1];exact ih (hf.comp h1) hw.tail
theorem auY {u v:List Nat} (hu:WL m.L u) (hv:WL m.L v):n9 m (u++v)=comp (n9 m u) (n9 m v):=by
 unfold n9;rw[DJ];exact auX hm v (auW hm hu) hv
theorem aeZ: ∀(w:List Nat) {f:List Nat} {q:Nat},Tr m.n f→q<m.n→WL m.L w→(w.foldl (bn m.gT) f).getD q 0=m.run (f.getD q 0) w
 | [],_,_,_,_,_=>rfl
 | x::w,f,q,hf,hq,hw=>by
  have h1:=hm.gT hw.head;rw[List.foldl_cons,aeZ w (f:=bn m.gT f x) (hf.comp h1) hq hw.tail,Da.ac5];refine congrArg (fun p=>m.run p w) ?_;have dz:q<f.length:=by rw[hf.1];exact hq
  have h2:=hf.at dz;unfold bn comp;rw[getD_map (k:=fun i=>(m.gT x).getD i 0) dz,cN dz,Da.gT,getD_map (by simpa using h2),cN (l:=List.range m.n) (by simpa using h2),IJ]
theorem auZ {w:List Nat} {q:Nat} (hq:q<m.n) (hw:WL m.L w):(n9 m w).getD q 0=m.run q w:=by
 unfold n9;rw[aeZ hm w G3 hq hw,cN (by simpa using hq),IJ]
section
variable {S:List (List Nat)} (hS:pX m S)
include hS
omit hm in
theorem ae0: ∀(w:List Nat) {f:List Nat},f∈S→WL m.L w→w.foldl (bn m.gT) f∈S
 | [],_,hf,_=>hf
 | x::w,f,hf,hw=>ae0 w (hS.cl f hf x hw.head) hw.tail
omit hm in
theorem Vq:List.range m.n∈S:=by
 rw[←hS.wJ,cN hS.pos];exact dm _
omit hm in
theorem ae1 {w:List Nat} (hw:WL m.L w):n9 m w∈S:=ae0 hS w (Vq hS) hw
omit hm in
theorem NU {w:List Nat} (hw:WL m.L w):vl m S w<S.length:=sC (ae1 hS hw)
omit hm in
theorem NV {w:List Nat} (hw:WL m.L w):S.getD (vl m S w) []=n9 m w:=by
 rw[cN (NU hS hw)];exact T6 (ae1 hS hw)
omit hm in
theorem Ap {i:Nat} (hi:i<S.length): ∃w,WL m.L w∧vl m S w=i:=by
 obtain ⟨w,hw,e⟩:=hS.re i hi;refine ⟨w,hw,?_⟩;unfold vl n9;rw[←e,cN hi];exact T7 hS.nd hi
omit hm in
theorem ae2:vl m S []=0:=by
 unfold vl;show ic S (List.range m.n)=0;rw[←hS.wJ,cN hS.pos];exact T7 hS.nd hS.pos
theorem xF {u v:List Nat} (hu:WL m.L u) (hv:WL m.L v):fP S (vl m S u) (vl m S v)=vl m S (u++v):=by
 unfold fP;rw[NV hS hu,NV hS hv,←auY hm hu hv];rfl
theorem ae3 {i j:Nat} (hi:i<S.length) (hj:j<S.length):fP S i j<S.length:=by
 obtain ⟨u,hu,rfl⟩:=Ap hS hi;obtain ⟨v,hv,rfl⟩:=Ap hS hj;rw[xF hm hS hu hv];exact NU hS (WL.app.2 ⟨hu,hv⟩)
theorem au0 {i j k:Nat} (hi:i<S.length) (hj:j<S.length) (hk:k<S.length):fP S (fP S i j) k=fP S i (fP S j k):=by
 obtain ⟨u,hu,rfl⟩:=Ap hS hi;obtain ⟨v,hv,rfl⟩:=Ap hS hj;obtain ⟨w,hw,rfl⟩:=Ap hS hk;rw[xF hm hS hu hv,xF hm hS hv hw,xF hm hS (WL.app.2 ⟨hu,hv⟩) hw,xF hm hS hu (WL.app.2 ⟨hv,hw⟩),la]
end
end
def kV (m:Da) (S:List (List Nat)):Da:=⟨m.L,0,tab S.length fun i=>m.fin ((S.getD i []).getD m.st 0),tab S.length fun i=>fc m.L m.gT S (S.getD i [])⟩
section
variable {m:Da} (hm:m.Ok) {S:List (List Nat)} (hS:pX m S)
theorem DA:(kV m S).n=S.length:=fG
theorem ae4 {i:Nat} (hi:i<S.length):(kV m S).fin i=m.fin ((S.getD i []).getD m.st 0):=wM hi
theorem ae5 {i x:Nat} (hi:i<S.length) (hx:x<m.L):(kV m S).nx i x=ic S (bn m.gT (S.getD i []) x):=by
 unfold Da.nx kV;simp only;rw[wM hi];unfold fc;rw[getD_map (by rw[jN];exact hx),cN (l:=List.range m.L) (by rw[jN];exact hx),IJ]
include hm hS
theorem ae6:(kV m S).Ok:=by
 refine ⟨hm.l1,hm.l6,by rw[DA];exact fG,fun r hr=> ?_,by rw[DA];exact hS.pos,by rw[DA];have:=hS.le;omega⟩;obtain ⟨i,hi,rfl⟩:=JJ.1 hr;refine ⟨by simp[fc,kV],fun q hq=> ?_⟩;obtain ⟨x,hx,rfl⟩:=iQ.1 hq;rw[DA];exact sC (hS.cl _ (by rw[cN hi];exact dm _) x (iD.1 hx))
omit hm in
theorem ae7: ∀(w:List Nat) {f:List Nat},f∈S→WL m.L w→(kV m S).run (ic S f) w=ic S (w.foldl (bn m.gT) f)
 | [],_,_,_=>rfl
 | x::w,f,hf,hw=>by
  rw[Da.ac5,ae5 (sC hf) hw.head,cN (sC hf),T6 hf];exact ae7 w (hS.cl f hf x hw.head) hw.tail
omit hm in
theorem au1 {w:List Nat} (hw:WL m.L w):(kV m S).run 0 w=vl m S w:=by
 have:=ae7 hS w (Vq hS) hw;rwa [show ic S (List.range m.n)=0 from ae2 hS] at this
theorem au2 {w:List Nat} (hw:WL m.L w):(kV m S).acc (kV m S).st w=m.acc m.st w:=by
 show (kV m S).fin ((kV m S).run 0 w)=m.fin (m.run m.st w);rw[au1 hS hw,ae4 (NU hS hw),NV hS hw,auZ hm hm.s hw]
end
theorem au3 {a:Da} (ha:a.Ok) {S:List (List Nat)} (hS:pX (minD a) S):minD (kV (minD a) S)=minD a:=by
 have hm:=rW ha;refine (Pb (ae6 hm hS) hm rfl fun w hw=>au2 hm hS hw).trans (W0 ha)
theorem WK {a b:Da} (ha:a.Ok) (hb:b.Ok) (e:minD a=minD b):CC kG (dK a)=CC kG (dK b):=by
 have A: ∀z,rY CC (a.L:Int) (a.st:Int) a.dU a.eh=z→CC kG (dK a)=z:=fun z h=>Ez h;have B: ∀z,rY CC (b.L:Int) (b.st:Int) b.dU b.eh=z→CC kG (dK b)=z:=fun z h=>Ez h;refine A _ (Eq.trans ?_ (B _ rfl).symm);unfold rY;refine bs (mC ha) (bF rfl (bs (Bu ha) ?_));rw[e];exact (bs (mC hb) (bF rfl (bs (Bu hb) rfl))).symm
noncomputable def Im (C:af) (s1 s2:LV) (t12 t13:Int) {β:Type} (kn:Int→Option β) (kr:((Bool) ⊕ (Int×Bool))→Option β):Option β:=
 bif decide (t13<t12) then
  (idx s1 t13).bind fun x1=>
  (idx s2 t13).bind fun x2=>
  bif (x1.toInt:Int) != x2.toInt then
  kr (.inl false)
  else
  kn (wrap .i64 (t13+1))
 else
  kr (.inr (t13,decide (t13<t12)))
noncomputable def Vr (C:af) (s1 s2:LV) (t12:Int):=fun t13=>Im C s1 s2 t12 t13 (fun y=>some (Sum.inl y)) (fun r=>some (Sum.inr r))
noncomputable def au4 (C:af):cF:=bN 65 SR [EQ,EQ,EQ,H1] [[0],[1,2,3,0,0]] (@Im C) bO
theorem au5 (C:af):bB C (au4 C) 104 (Lp [1,1,0,1,0,0] 104):=bP SR [EQ,EQ,EQ,H1] [[0],[1,2,3,0,0]] (@Im C) (bu aw)
noncomputable def ae8 (C:af) (s1 s2:LV):Option LV:=
 bif (s1.length:Int) != (s2.length:Int) then
  some [.bool false]
 else
  (Loop (Vr C s1 s2 (s1.length:Int)) 0).bind (gj (fun (jJ:Bool)=>
   some [.bool jJ]) (un fun (lV:Int) (kC:Bool)=>
   some [.bool true]))
theorem au6 {s1 s2:LV} {r:Option LV} (h:ae8 CC s1 s2=r):CC FY [.list ab s1,.list ab s2]=r:=bQ (bC (au5 CC) aw) h
noncomputable def Io (C:af) (s1 s2:LV) (t12 t13:Int) {β:Type} (kn:Int→Option β) (kr:((Bool) ⊕ (Int×Bool))→Option β):Option β:=
 bif decide (t13<t12) then
  (idx s1 t13).bind fun x1=>
  (idx s2 t13).bind fun x2=>
  bif !(x1.toBool==x2.toBool) then
  kr (.inl false)
  else
  kn (wrap .i64 (t13+1))
 else
  kr (.inr (t13,decide (t13<t12)))
noncomputable def Vs (C:af) (s1 s2:LV) (t12:Int):=fun t13=>Io C s1 s2 t12 t13 (fun y=>some (Sum.inl y)) (fun r=>some (Sum.inr r))
noncomputable def au7 (C:af):cF:=bN 65 SU [EQ,EQ,EQ,H1] [[0],[1,2,3,0,0]] (@Io C) bO
theorem au8 (C:af):bB C (au7 C) 106 (Lp [1,1,0,1,0,0] 106):=bP SU [EQ,EQ,EQ,H1] [[0],[1,2,3,0,0]] (@Io C) (bu aw)
noncomputable def ae9 (C:af) (s1 s2:LV):Option LV:=
 bif (s1.length:Int) != (s2.length:Int) then
  some [.bool false]
 else
  (Loop (Vs C s1 s2 (s1.length:Int)) 0).bind (gj (fun (jJ:Bool)=>
   some [.bool jJ]) (un fun (lV:Int) (kC:Bool)=>
   some [.bool true]))
theorem au9 {s1 s2:LV} {r:Option LV} (h:ae9 CC s1 s2=r):CC FZ [.list ar s1,.list ar s2]=r:=bQ (bC (au8 CC) aw) h
noncomputable def Ip (C:af) (s1 s2:LV) (t12 t13:Int) {β:Type} (kn:Int→Option β) (kr:((Bool) ⊕ (Int×Bool))→Option β):Option β:=
 bif decide (t13<t12) then
  (idx s1 t13).bind fun x1=>
  (idx s2 t13).bind fun x2=>
  bif !(x1.toStr==x2.toStr) then
  kr (.inl false)
  else
  kn (wrap .i64 (t13+1))
 else
  kr (.inr (t13,decide (t13<t12)))
noncomputable def Vt (C:af) (s1 s2:LV) (t12:Int):=fun t13=>Ip C s1 s2 t12 t13 (fun y=>some (Sum.inl y)) (fun r=>some (Sum.inr r))
noncomputable def ava (C:af):cF:=bN 65 SS [EQ,EQ,EQ,H1] [[0],[1,2,3,0,0]] (@Ip C) bO
theorem avb (C:af):bB C (ava C) 105 (Lp [1,1,0,1,0,0] 105):=bP SS [EQ,EQ,EQ,H1] [[0],[1,2,3,0,0]] (@Ip C) (bu aw)
noncomputable def afa (C:af) (s1 s2:LV):Option LV:=
 bif (s1.length:Int) != (s2.length:Int) then
  some [.bool false]
 else
  (Loop (Vt C s1 s2 (s1.length:Int)) 0).bind (gj (fun (jJ:Bool)=>
   some [.bool jJ]) (un fun (lV:Int) (kC:Bool)=>
   some [.bool true]))
theorem avc {s1 s2:LV} {r:Option LV} (h:afa CC s1 s2=r):CC LF [.list bZ s1,.list bZ s2]=r:=bQ (bC (avb CC) aw) h
noncomputable def Iq (C:af) (n:Int) (t7:LV) (t8 t9:Int) {β:Type} (kn:Int→Option β) (kr:((Bool) ⊕ (Int×Bool))→Option β):Option β:=
 bif decide (t9<t8) then
  (idx t7 t9).bind fun x1=>
  bif decide ((x1.toInt:Int)<0) then
  kr (.inl false)
  else
  bif decide ((x1.toInt:Int)≥n) then
   kr (.inl false)
  else
   kn (wrap .i64 (t9+1))
 else
  kr (.inr (t9,decide (t9<t8)))
noncomputable def Vu (C:af) (n:Int) (t7:LV) (t8:Int):=fun t9=>Iq C n t7 t8 t9 (fun y=>some (Sum.inl y)) (fun r=>some (Sum.inr r))
noncomputable def avd (C:af):cF:=bN 33 Te [EQ,EQ,EQ,H1] [[0],[1,2,3,0,0]] (@Iq C) bO
theorem ave (C:af):bB C (avd C) 141 (Lp [1,0,1,0,0] 141):=bP Te [EQ,EQ,EQ,H1] [[0],[1,2,3,0,0]] (@Iq C) (bu aw)
noncomputable def afb (C:af) (list:LV) (n:Int):Option LV:=
 (Loop (Vu C n list (list.length:Int)) 0).bind (gj (fun (zP:Bool)=>
  some [.bool zP]) (un fun (jJ:Int) (lV:Bool)=>
  some [.bool true]))
theorem avf {list:LV} {n:Int} {r:Option LV} (h:afb CC list n=r):CC Gb [.list ab list,V.int .i64 n]=r:=bQ (bC (ave CC) aw) h
noncomputable def Ir (C:af) (n:Int) (t53:LV) (t54 iu:Int) (dx lX kD lY lZ:LV) (t55:Int) {β:Type} (kn:Int→Option β) (kr:((Bool) ⊕ (Int×Bool))→Option β):Option β:=
 bif decide (t55<t54) then
  (idx t53 t55).bind fun x1=>
  bif (x1.toList.length:Int) != n then
  kr (.inl false)
  else
  (C Gb [.list ab x1.toList,V.int .i64 n]).bind fun r2=>
  bif !((V.nth r2 0).toBool) then
   kr (.inl false)
  else
   kn (wrap .i64 (t55+1))
 else
  kr (.inr (t55,decide (t55<t54)))
noncomputable def Vv (C:af) (n:Int) (t53:LV) (t54 iu:Int) (dx lX kD lY lZ:LV):=fun t55=>Ir C n t53 t54 iu dx lX kD lY lZ t55 (fun y=>some (Sum.inl y)) (fun r=>some (Sum.inr r))
noncomputable def avg (C:af):cF:=bN 113 SO [EQ,EQ,EQ,H1,EQ,EQ,EQ,EQ,EQ,EQ] [[0],[1,2,3,0,0,5,6,7,8,9,10]] (@Ir C) bO
theorem avh (C:af):bB C (avg C) 102 (Lp [1,1,1,1,0,1,0,0] 102):=bP SO [EQ,EQ,EQ,H1,EQ,EQ,EQ,EQ,EQ,EQ] [[0],[1,2,3,0,0,5,6,7,8,9,10]] (@Ir C) (bu aw)
noncomputable def afc (C:af) (gC:Int) (ed ij gY gD gL:LV):Option LV:=
 bif decide (gC<1) then
  some [.bool false]
 else
  bif decide (gC>6) then
  some [.bool false]
  else
  bif decide ((ed.length:Int)<1) then
   some [.bool false]
  else
   bif decide ((ed.length:Int)>400) then
   some [.bool false]
   else
   bif (ij.length:Int) != (ed.length:Int) then
    some [.bool false]
   else
    bif (gD.length:Int) != (ed.length:Int) then
    some [.bool false]
    else
    bif (gL.length:Int) != (ed.length:Int) then
     some [.bool false]
    else
     bif (gY.length:Int) != gC then
     some [.bool false]
     else
     (Loop (Vv C (ed.length:Int) ed (ed.length:Int) gC ed ij gY gD gL) 0).bind (gj (fun (jJ:Bool)=>
      some [.bool jJ]) (un fun (lV:Int) (kC:Bool)=>
      (C Gb [.list ab gY,V.int .i64 (ed.length:Int)]).bind fun r6=>
      some [.bool ((V.nth r6 0).toBool)]))
theorem avi {gC:Int} {ed ij gY gD gL:LV} {r:Option LV} (h:afc CC gC ed ij gY gD gL=r):CC LC [V.int .i64 gC,.list ag ed,.list bZ ij,.list ab gY,.list ar gD,.list ar gL]=r:=bQ (bC (avh CC) aw) h
noncomputable def Is (C:af) (x:Int) (row t19:LV) (t20 t21:Int) (t34:LV) (t35 iu:Int) (dx lX kD lY lZ:LV) (gf gg bz bL:Int) (aN aR aO:LV) (t36:Int) (aA:LV) {β:Type} (kn:(Int×LV)→Option β) (kr:(Int×Bool×LV)→Option β):Option β:=
 bif decide (t36<t35) then
  (idx t34 t36).bind fun x3=>
  aP aA x fun x4=>
  (idx row x3.toInt).bind fun x5=>
  (e9 Tryz.prog ag aA [(x.toNat,0)]).bind fun x6=>
  bif (decide (0≤t36))&&(decide (t36<(x6.toList.length:Int))) then
  (e9 Tryz.prog ag aA [(x.toNat,0)]).bind fun x7=>
  (x7.toList[t36.toNat]?).bind fun x8=>
  kn (wrap .i64 (t36+1),setRow Tryz.prog (bj x7.toList t36 (V.int .i64 x5.toInt)) ag aA [(x.toNat,0)])
  else none
 else
  kr (t36,decide (t36<t35),aA)
noncomputable def NW (C:af) (x:Int) (row t19:LV) (t20 t21:Int) (t34:LV) (t35 iu:Int) (dx lX kD lY lZ:LV) (gf gg bz bL:Int) (aN aR aO:LV):=un fun t36 aA=>Is C x row t19 t20 t21 t34 t35 iu dx lX kD lY lZ gf gg bz bL aN aR aO t36 aA (fun y=>some (Sum.inl y)) (fun r=>some (Sum.inr r))
noncomputable def It (C:af) (t19:LV) (t20 iu:Int) (dx lX kD lY lZ:LV) (gf gg bz bL:Int) (aN aR aO:LV) (t21:Int) (aA:LV) {β:Type} (kn:(Int×LV)→Option β) (kr:(Int×Bool×LV)→Option β):Option β:=
 bif decide (t21<t20) then
  (idx t19 t21).bind fun x1=>
  bif (decide (0≤iu))&&((decide (iu≤iu))&&(Nat.ble ((iu.toNat)*8) aW)) then
  aP aA t21 fun x2=>
  (Loop (NW C t21 x1.toList t19 t20 t21 kD (kD.length:Int) iu dx lX kD lY lZ gf gg bz bL aN aR aO) (0,bj aA t21 (.list ab (List.replicate (iu.toNat) (V.int .i64 0))))).bind (un fun vK=>un fun (TR:Bool) (zI:LV)=>
   kn (wrap .i64 (t21+1),zI))
  else none
 else
  kr (t21,decide (t21<t20),aA)
noncomputable def Vw (C:af) (t19:LV) (t20 iu:Int) (dx lX kD lY lZ:LV) (gf gg bz bL:Int) (aN aR aO:LV):=un fun t21 aA=>It C t19 t20 iu dx lX kD lY lZ gf gg bz bL aN aR aO t21 aA (fun y=>some (Sum.inl y)) (fun r=>some (Sum.inr r))
noncomputable def afd (C:af):cF:=bN 113 SP [EQ,EQ,EQ,EQ,EQ,EQ,EQ,H1,EQ,EQ,EQ,EQ,EQ,EQ,EQ,EQ,EQ,EQ,EQ,EQ,EQ,H1] [[1,2,3,4,5,6,7,0,0,9,10,11,12,13,14,15,16,17,18,19,20,21,0]] (@Is C) (bN 49 SQ [EQ,EQ,H1,EQ,EQ,EQ,EQ,EQ,EQ,EQ,EQ,EQ,EQ,EQ,EQ,EQ,H1] [[1,2,0,0,4,5,6,7,8,9,10,11,12,13,14,15,16,0]] (@It C) bO)
theorem avj (C:af):bB C (afd C) 103 (Lp [1,1,0,1,0,0,1,1,0,0,1,1,1,0,0] 103):=bP SP [EQ,EQ,EQ,EQ,EQ,EQ,EQ,H1,EQ,EQ,EQ,EQ,EQ,EQ,EQ,EQ,EQ,EQ,EQ,EQ,EQ,H1] [[1,2,3,4,5,6,7,0,0,9,10,11,12,13,14,15,16,17,18,19,20,21,0]] (@Is C) (bu aw)
theorem avk (C:af):bB C (afd C) 103 (Lp [1,1,0,1,0,0] 103):=bP SQ [EQ,EQ,H1,EQ,EQ,EQ,EQ,EQ,EQ,EQ,EQ,EQ,EQ,EQ,EQ,EQ,H1] [[1,2,0,0,4,5,6,7,8,9,10,11,12,13,14,15,16,0]] (@It C) (bu (bC (avj C) aw))
noncomputable def afe (C:af) (gC:Int) (ed ij gY gD gL:LV):Option LV:=
 bif Nat.ble (gD.length*1) aW then
  bif (decide (0≤(ed.length:Int)))&&((decide ((ed.length:Int)≤(ed.length:Int)))&&(Nat.ble (((ed.length:Int).toNat)*24) aW)) then
  (Loop (Vw C ed (ed.length:Int) gC ed ij gY gD gL 0 0 gC 0 ([]:LV) ([]:LV) gD) (0,List.replicate ((ed.length:Int).toNat) (V.list ab ([]:LV)))).bind (un fun JS=>un fun (BC:Bool) (o7:LV)=>
   some [V.int .i64 gC,V.int .i64 0,.list ar gD,.list ag o7])
  else none
 else none
theorem avl {gC:Int} {ed ij gY gD gL:LV} {r:Option LV} (h:afe CC gC ed ij gY gD gL=r):CC LD [V.int .i64 gC,.list ag ed,.list bZ ij,.list ab gY,.list ar gD,.list ar gL]=r:=bQ (bC (avk CC) aw) h
noncomputable def Iu (C:af) (t28:LV) (t29 iu:Int) (dx lX kD lY lZ:LV) (fH:Int) (fI eY eS gJ gK:LV) (t30:Int) {β:Type} (kn:Int→Option β) (kr:((Int) ⊕ (Int×Bool))→Option β):Option β:=
 bif decide (t30<t29) then
  (idx t28 t30).bind fun x4=>
  (idx dx t30).bind fun x5=>
  (C FY [.list ab x4.toList,.list ab x5.toList]).bind fun r6=>
  bif !((V.nth r6 0).toBool) then
  kr (.inl 8)
  else
  kn (wrap .i64 (t30+1))
 else
  kr (.inr (t30,decide (t30<t29)))
noncomputable def NY (C:af) (t28:LV) (t29 iu:Int) (dx lX kD lY lZ:LV) (fH:Int) (fI eY eS gJ gK:LV):=fun t30=>Iu C t28 t29 iu dx lX kD lY lZ fH fI eY eS gJ gK t30 (fun y=>some (Sum.inl y)) (fun r=>some (Sum.inr r))
noncomputable def avm (C:af):cF:=bN 113 Sz [EQ,EQ,H1,EQ,EQ,EQ,EQ,EQ,EQ,EQ,EQ,EQ,EQ,EQ,EQ] [[0],[1,2,0,0,4,5,6,7,8,9,10,11,12,13,14,15]] (@Iu C) bO
theorem avn (C:af):bB C (avm C) 70 (Lp [1,1,1,1,0,1,0,0] 70):=bP Sz [EQ,EQ,H1,EQ,EQ,EQ,EQ,EQ,EQ,EQ,EQ,EQ,EQ,EQ,EQ] [[0],[1,2,0,0,4,5,6,7,8,9,10,11,12,13,14,15]] (@Iu C) (bu aw)
noncomputable def Vx (C:af) (gC:Int) (ed ij gY gD gL:LV):Option LV:=
 (C LC [V.int .i64 gC,.list ag ed,.list bZ ij,.list ab gY,.list ar gD,.list ar gL]).bind fun r1=>
 bif !((V.nth r1 0).toBool) then
  some [V.int .i64 8]
 else
  (C LD [V.int .i64 gC,.list ag ed,.list bZ ij,.list ab gY,.list ar gD,.list ar gL]).bind fun r2=>
  (C kG [V.int .i64 ((V.nth r2 0).toInt),V.int .i64 ((V.nth (r2.drop 1) 0).toInt),.list ar ((V.nth (r2.drop 2) 0).toList),.list ag ((V.nth ((r2.drop 2).drop 1) 0).toList)]).bind fun r3=>
  bif (((V.nth (r3.drop 6) 0).toInt):Int) != 0 then
  some [V.int .i64 8]
  else
  bif ((((V.nth (r3.drop 1) 0).toList).length:Int):Int) != (ed.length:Int) then
   some [V.int .i64 8]
  else
   (Loop (NY C ((V.nth (r3.drop 1) 0).toList) (((V.nth (r3.drop 1) 0).toList).length:Int) gC ed ij gY gD gL ((V.nth r3 0).toInt) ((V.nth (r3.drop 1) 0).toList) ((V.nth ((r3.drop 1).drop 1) 0).toList) ((V.nth (((r3.drop 1).drop 1).drop 1) 0).toList) ((V.nth ((((r3.drop 1).drop 1).drop 1).drop 1) 0).toList) ((V.nth (((((r3.drop 1).drop 1).drop 1).drop 1).drop 1) 0).toList)) 0).bind (gj (fun oo=>
    some [V.int .i64 oo]) (un fun (wQ:Int) (vK:Bool)=>
    (C LF [.list bZ ((V.nth ((r3.drop 1).drop 1) 0).toList),.list bZ ij]).bind fun eb=>
    bif !((V.nth eb 0).toBool) then
    some [V.int .i64 8]
    else
    (C FY [.list ab ((V.nth (((r3.drop 1).drop 1).drop 1) 0).toList),.list ab gY]).bind fun cx=>
    bif !((V.nth cx 0).toBool) then
     some [V.int .i64 8]
    else
     (C FZ [.list ar ((V.nth ((((r3.drop 1).drop 1).drop 1).drop 1) 0).toList),.list ar gD]).bind fun tc=>
     bif !((V.nth tc 0).toBool) then
     some [V.int .i64 8]
     else
     (C FZ [.list ar ((V.nth (((((r3.drop 1).drop 1).drop 1).drop 1).drop 1) 0).toList),.list ar gL]).bind fun gz=>
     bif !((V.nth gz 0).toBool) then
      some [V.int .i64 8]
     else
      some [V.int .i64 0]))
theorem avo {gC:Int} {ed ij gY gD gL:LV} {r:Option LV} (h:Vx CC gC ed ij gY gD gL=r):CC wO [V.int .i64 gC,.list ag ed,.list bZ ij,.list ab gY,.list ar gD,.list ar gL]=r:=bQ (bC (avn CC) aw) h
section
variable {l:LV} (hl:l.length≤1000000)
include hl
theorem aff:CC FY [.list ab l,.list ab l]=some [.bool true]:=by
 refine au6 ?_;unfold ae8;refine bF (by simp) (bs (gx l.length (fun i=>(i:Int)) (.inr ((l.length:Int),false)) (fun i hi=> ?_) ?_) rfl)
 ·simp only[Vr,Im];have e:=Q4 l i;rw[bU hi] at e;refine bT (bh hi) (bs e (bs e (bF (by simp) ?_)));rw[br (by omega)]
 ·simp only[Vr,Im];rw[aV (av _)];rfl
theorem afg:CC FZ [.list ar l,.list ar l]=some [.bool true]:=by
 refine au9 ?_;unfold ae9;refine bF (by simp) (bs (gx l.length (fun i=>(i:Int)) (.inr ((l.length:Int),false)) (fun i hi=> ?_) ?_) rfl)
 ·simp only[Vs,Io];have e:=Q4 l i;rw[bU hi] at e;refine bT (bh hi) (bs e (bs e (bF (by simp) ?_)));rw[br (by omega)]
 ·simp only[Vs,Io];rw[aV (av _)];rfl
theorem avp:CC LF [.list bZ l,.list bZ l]=some [.bool true]:=by
 refine avc ?_;unfold afa;refine bF (by simp) (bs (gx l.length (fun i=>(i:Int)) (.inr ((l.length:Int),false)) (fun i hi=> ?_) ?_) rfl)
 ·simp only[Vt,Ip];have e:=Q4 l i;rw[bU hi] at e;refine bT (bh hi) (bs e (bs e (bF (by simp) ?_)));rw[br (by omega)]
 ·simp only[Vt,Ip];rw[aV (av _)];rfl
end
theorem afh {l:List Nat} {n:Nat} (hl:l.length≤1000000) (h: ∀y∈l,y<n):CC Gb [.list ab (nS l),.int .i64 (n:Int)]=some [.bool true]:=by
 refine avf ?_;unfold afb;rw[dy];refine bs (gx l.length (fun i=>(i:Int)) (.inr ((l.length:Int),false)) (fun i hi=> ?_) ?_) rfl
 ·simp only[Vu,Iq];refine bT (bh hi) (bs (iw hi) (bF xx (bF (Db (h _ (dm hi))) ?_)));rw[br (by omega)]
 ·simp only[Vu,Iq];rw[aV (av _)];rfl
section
variable {m:Da} (hm:m.Ok) {S:List (List Nat)} (hS:pX m S) (f:Nat→List UInt8)
def qv (S:List (List Nat)) (i:Nat):List Nat:=(List.range S.length).map fun j=>fP S i j
theorem avq {i:Nat}:(tab S.length fun j=>nV (fP S i j))=nS (qv S i):=by unfold qv nS;rw[AH];rfl
theorem NZ {i:Nat} (hi:i<S.length):idx (ln S) (i:Int)=some (.list ab (nS (qv S i))):=by rw[←avq];exact qp hi
include hm hS
theorem avr {i:Nat} (hi:i<S.length): ∀y∈qv S i,y<S.length:=fun y hy=>by
 obtain ⟨j,hj,rfl⟩:=iQ.1 hy;exact ae3 hm hS hi (iD.1 hj)
theorem avs:CC LC (jb m S f)=some [.bool true]:=by
 have h1:=hm.l1;have h6:=hm.l6;have hp:=hS.pos;have hle:=hS.le;have e1:(ln S).length=S.length:=fG;have e2:(iI m S).length=m.L:=by unfold iI;rw[dy,fc,db,jN]
 have e3:(ja m S).length=S.length:=fG;have e4:(gN m.L m.gT S S.length).length=S.length:=fG;refine avi ?_;unfold afc;rw[e1,e2,e3,e4,fG];refine bF (da (by omega)) (bF (da (by omega)) (bF (da (by omega)) (bF (da (by omega)) (bF (by simp) (bF (by simp) (bF (by simp) (bF (by simp) ?_)))))));refine bs (gx S.length (fun i=>(i:Int)) (.inr ((S.length:Int),false)) (fun i hi=> ?_) ?_) ?_
 ·simp only[Vv,Ir];refine bT (bh hi) (bs (NZ hi) ?_);rw[V.ei];have e5:(nS (qv S i)).length=S.length:=by rw[dy,qv,db,jN]
  refine bF (by rw[e5];simp) (bs (afh (by rw[dy] at e5;omega) (avr hm hS hi)) (bF rfl ?_));rw[br (by omega)]
 ·simp only[Vv,Ir];rw[aV (av _)];rfl
 ·refine bs (afh (l:=fc m.L m.gT S (List.range m.n)) (by rw[fc,db,jN];omega) fun y hy=> ?_) rfl;obtain ⟨x,hx,rfl⟩:=iQ.1 hy;exact sC (hS.cl _ (Vq hS) x (iD.1 hx))
omit hm hS in
theorem avt {x:Nat} (hx:x<m.L):idx (iI m S) (x:Int)=some (nV (vl m S [x])):=by
 unfold iI;rw[iw (by rw[fc,db,jN];exact hx)];simp[fc,vl,n9]
theorem avu {i x:Nat} (hi:i<S.length) (hx:x<m.L):idx (nS (qv S i)) (vl m S [x]:Int)=some (nV (ic S (bn m.gT (S.getD i []) x))):=by
 have kJ:WL m.L [x]:=WL.nil.cons hx;have h1:=NU hS kJ;rw[iw (by rw[qv,db,jN];exact h1)];obtain ⟨w,hw,rfl⟩:=Ap hS hi;have:(qv S (vl m S w))[vl m S [x]]'(by rw[qv,db,jN];exact h1)=fP S (vl m S w) (vl m S [x]):=by simp[qv]
 rw[this,xF hm hS hw kJ,NV hS hw];unfold vl n9;rw[DJ];rfl
theorem avv:CC LD (jb m S f)=some (dK (kV m S)):=by
 have h6:=hm.l6;have hle:=hS.le;have e1:(ln S).length=S.length:=fG;have e2:(iI m S).length=m.L:=by unfold iI;rw[dy,fc,db,jN]
 have e3:(ja m S).length=S.length:=fG;refine avl ?_;unfold afe;rw[e1,e3];refine bT (cap (b:=0) (by omega) (by omega)) (bT (fO (by omega) (by omega)) ?_);rw[Int.toNat_natCast];have mA: ∀{i:Nat},i<S.length→∀{k1 k2 k3 k4 k5 k6 k7:Int} {l1 l2 l3 l4 l5 l6 l7 l8 l9:LV} {a:LV},a.length=S.length→Loop (NW CC (i:Int) (nS (qv S i)) l1 k1 k2 (iI m S) (m.L:Int) k3 l2 l3 l4 l5 l6 k4 k5 k6 k7 l7 l8 l9) (0,a.set i (.list ab (List.replicate m.L (V.int .i64 0))))=some ((m.L:Int),false,a.set i (o6 m.L ((kV m S).nx i))):=by
  intro i hi k1 k2 k3 k4 k5 k6 k7 l1 l2 l3 l4 l5 l6 l7 l8 l9 a ha;refine tW (fun x b=>((x:Int),a.set i (.list ab b))) m.L (fun x=>nV ((kV m S).nx i x)) _ (by simp) (fun b=>((m.L:Int),false,a.set i (.list ab b))) (fun x hx b hb=> ?_) ?_
  ·simp only[NW,Is,un,aP,bj,Int.toNat_natCast];have e0:(a.set i (V.list ab b))[i]? =some (.list ab b):=oN (by rw[ha];exact hi);refine bT (bh hx) (bs (avt hx) ((bX e0).trans (bs (avu hm hS hi hx) (bs (pZ e0) ?_))));rw[V.ei];refine bT (ou (by rw[hb];exact hx)) (bs (pZ e0) ?_);rw[V.ei];refine bs (bU (by rw[hb];exact hx)) ?_;rw[ES e0,AI,br (by omega),ae5 hi hx];rfl
  ·simp only[NW,Is,un];refine bF (aV (av _)) ?_;rw[aV (av _)]
 refine bs (tW (fun i a=>((i:Int),a)) S.length (fun i=>o6 m.L ((kV m S).nx i)) _ (by simp) (fun a=>((S.length:Int),false,a)) (fun i hi a ha=> ?_) ?_) ?_
 ·simp only[Vw,It,un,aP,bj];refine bT (bh hi) (bs (NZ hi) (bT (fO (by omega) (by omega)) ((ri (by rw[ha];exact hi)).trans ?_)));rw[V.ei,e2,Int.toNat_natCast,Int.toNat_natCast];refine bs (mA hi ha) ?_;rw[br (by omega)];rfl
 ·simp only[Vw,It,un];refine bF (aV (av _)) ?_;rw[aV (av _)]
 ·have e5:ja m S=(kV m S).dU:=by
   unfold ja Da.dU;rw[DA];exact dB fun i hi=>by rw[ae4 hi]
  have e6:(tab S.length fun i=>o6 m.L ((kV m S).nx i))=(kV m S).eh:=by unfold Da.eh;rw[DA];rfl
  rw[e6,e5];rfl
end
section
variable {a:Da} (ha:a.Ok) {S:List (List Nat)} {f:Nat→List UInt8} (hS:pX (minD a) S) (Ex:CC kG (dK a)=some (jb (minD a) S f++[.int .i64 0]))
include ha hS Ex
theorem O1:CC wO (jb (minD a) S f)=some [.int .i64 0]:=by
 have hm:=rW ha;have hle:=hS.le;have hL6:=hm.l6;have hO:CC kG (dK (kV (minD a) S))=some (jb (minD a) S f++[.int .i64 0]):=(WK (ae6 hm hS) ha (au3 ha hS)).trans Ex;have fin: ∀z,Vx CC ((minD a).L:Int) (ln S) (tab S.length fun j=> .str (f j)) (iI (minD a) S) (ja (minD a) S) (gN (minD a).L (minD a).gT S S.length)=z→CC wO (jb (minD a) S f)=z:=fun z h=>avo h;refine fin _ ?_;unfold Vx;refine bs (avs hm hS f) (bF rfl (bs (avv hm hS f) (bs hO (bF rfl (bF (by simp[jb]) ?_)))));have e1:(ln S).length=S.length:=fG;refine bs (a:= .inr ((S.length:Int),false)) ?_ ?_
 ·show Loop (NY CC (ln S) ((ln S).length:Int) _ _ _ _ _ _ _ _ _ _ _ _) 0=_;rw[e1];refine gx S.length (fun i=>(i:Int)) _ (fun i hi=> ?_) ?_
  ·simp only[NY,Iu];refine bT (bh hi) (bs (NZ hi) (bs (NZ hi) (bs (aff (by rw[V.ei,dy,qv,db,jN];omega)) (bF rfl ?_))));rw[br (by omega)]
  ·simp only[NY,Iu];rw[aV (av _)];rfl
 ·have e2:(iI (minD a) S).length=(minD a).L:=by unfold iI;rw[dy,fc,db,jN]
  refine bs (avp (l:=tab S.length fun j=> .str (f j)) (by simp;omega)) (bF rfl (bs (aff (l:=iI (minD a) S) (by omega)) (bF rfl (bs (afg (l:=ja (minD a) S) (by simp[ja];omega)) (bF rfl (bs (afg (l:=gN (minD a).L (minD a).gT S S.length) (by simp[gN];omega)) (bF rfl rfl)))))))
end
noncomputable def Iv (C:af) (oa:Int) (t26:LV) (t27:Int) (lists:LV) (t28:Int) (rq:LV) {β:Type} (kn:(Int×LV)→Option β) (kr:(Int×Bool×LV)→Option β):Option β:=
 bif decide (t28<t27) then
  (idx t26 t28).bind fun x3=>
  bif x3.toBool then
  bif Nat.ble ((rq.length+([V.int .i64 t28]:LV).length)*8) aW then
   kn (wrap .i64 (t28+1),rq++([V.int .i64 t28]:LV))
  else none
  else
  aP lists oa fun x4=>
  bif (x4.cell 1).toBool then
   bif Nat.ble ((rq.length+([V.int .i64 t28]:LV).length)*8) aW then
   kn (wrap .i64 (t28+1),rq++([V.int .i64 t28]:LV))
   else none
  else
   kn (wrap .i64 (t28+1),rq)
 else
  kr (t28,decide (t28<t27),rq)
noncomputable def N3 (C:af) (oa:Int) (t26:LV) (t27:Int) (lists:LV):=un fun t28 rq=>Iv C oa t26 t27 lists t28 rq (fun y=>some (Sum.inl y)) (fun r=>some (Sum.inr r))
noncomputable def avw (C:af):cF:=bN 145 Sp [EQ,EQ,EQ,H1,EQ,H1] [[1,2,3,0,0,5,0]] (@Iv C) bO
theorem avx (C:af):bB C (avw C) 49 (Lp [1,1,1,1,1,0,1,0,0] 49):=bP Sp [EQ,EQ,EQ,H1,EQ,H1] [[1,2,3,0,0,5,0]] (@Iv C) (bu aw)
noncomputable def EJ (C:af) (gC:Int) (ed ij gY gD gL:LV) (oa:Int):Option LV:=
 (C wO [V.int .i64 gC,.list ag ed,.list bZ ij,.list ab gY,.list ar gD,.list ar gL]).bind fun r1=>
 bif (((V.nth r1 0).toInt):Int) != 0 then
  some [V.int .i64 ((V.nth r1 0).toInt),.list ab ([]:LV)]
 else
  (C Bq []).bind fun r2=>
  bif decide (oa<0) then
  some [V.int .i64 1,.list ab ([]:LV)]
  else
  bif decide (oa≥(((V.nth r2 0).toList).length:Int)) then
   some [V.int .i64 1,.list ab ([]:LV)]
  else
   (Loop (N3 C oa gL (gL.length:Int) ((V.nth r2 0).toList)) (0,([]:LV))).bind (un fun kC=>un fun (j7:Bool) (avy:LV)=>
    some [V.int .i64 0,.list ab avy])
theorem W3 {gC:Int} {ed ij gY gD gL:LV} {oa:Int} {r:Option LV} (h:EJ CC gC ed ij gY gD gL oa=r):CC uP [V.int .i64 gC,.list ag ed,.list bZ ij,.list ab gY,.list ar gD,.list ar gL,V.int .i64 oa]=r:=bQ (bC (avx CC) aw) h
noncomputable def Iw (C:af) (eg t40 iu:Int) (dx lX kD lY lZ rq zO:LV) (Aq t41:Int) {β:Type} (kn:(Int×Int)→Option β) (kr:((Bool×Int×Int×Int×LV) ⊕ (Int×Int×Bool))→Option β):Option β:=
 bif decide (t41<t40) then
  aP zO t41 fun x5=>
  bif Aq==eg then
  kr (.inl (false,0,0,7,([]:LV)))
  else
  (C FT [.list ag dx,.list ab rq,V.int .i64 ((x5.cell 0).toInt),V.int .i64 ((x5.cell 1).toInt),.list ai ((x5.cell 2).toList),V.int .i64 ((x5.cell 3).toInt),V.int .i64 ((x5.cell 4).toInt),.list ai ((x5.cell 5).toList),V.int .i64 (wrap .i64 (eg-Aq))]).bind fun r6=>
  bif (((V.nth (r6.drop 1) 0).toInt):Int)==0 then
   kr (.inl (false,t41,wrap .i64 (Aq+((V.nth r6 0).toInt)),0,(V.nth (r6.drop 2) 0).toList))
  else
   bif (((V.nth (r6.drop 1) 0).toInt):Int)==9 then
   kn (wrap .i64 (Aq+((V.nth r6 0).toInt)),wrap .i64 (t41+1))
   else
   kr (.inl (false,0,0,(V.nth (r6.drop 1) 0).toInt,([]:LV)))
 else
  kr (.inr (Aq,t41,decide (t41<t40)))
noncomputable def N4 (C:af) (eg t40 iu:Int) (dx lX kD lY lZ rq zO:LV):=un fun Aq t41=>Iw C eg t40 iu dx lX kD lY lZ rq zO Aq t41 (fun y=>some (Sum.inl y)) (fun r=>some (Sum.inr r))
noncomputable def avz (C:af):cF:=bN 129 Sb [EQ,H1,EQ,H1,EQ,EQ,EQ,EQ,EQ,EQ,EQ,EQ] [[0,0,0,0,0],[1,0,3,0,0,5,6,7,8,9,10,11,12]] (@Iw C) bO
theorem avA (C:af):bB C (avz C) 29 (Lp [1,1,1,1,1,0,1,0,0] 29):=bP Sb [EQ,H1,EQ,H1,EQ,EQ,EQ,EQ,EQ,EQ,EQ,EQ] [[0,0,0,0,0],[1,0,3,0,0,5,6,7,8,9,10,11,12]] (@Iw C) (bu aw)
noncomputable def By (C:af) (gC:Int) (ed ij gY gD gL:LV) (oa eg:Int):Option LV:=
 (C uP [V.int .i64 gC,.list ag ed,.list bZ ij,.list ab gY,.list ar gD,.list ar gL,V.int .i64 oa]).bind fun r1=>
 bif (((V.nth r1 0).toInt):Int) != 0 then
  some [.bool false,V.int .i64 0,V.int .i64 0,V.int .i64 ((V.nth r1 0).toInt),.list ab ([]:LV)]
 else
  bif decide (eg<1) then
  some [.bool false,V.int .i64 0,V.int .i64 0,V.int .i64 1,.list ab ([]:LV)]
  else
  bif decide (eg>1048576) then
   some [.bool false,V.int .i64 0,V.int .i64 0,V.int .i64 1,.list ab ([]:LV)]
  else
   (C Bq []).bind fun r2=>
   aP ((V.nth r2 0).toList) oa fun x3=>
   (C jC [.str ((x3.cell 0).toStr),.bool ((x3.cell 1).toBool),V.int .i64 ((x3.cell 2).toInt),V.int .i64 ((x3.cell 3).toInt),.str ((x3.cell 4).toStr),.str ((x3.cell 5).toStr)]).bind fun r4=>
   (Loop (N4 C eg (((V.nth (r4.drop 4) 0).toList).length:Int) gC ed ij gY gD gL ((V.nth (r1.drop 1) 0).toList) ((V.nth (r4.drop 4) 0).toList)) (0,0)).bind (gj (un fun (oo:Bool)=>un fun wQ=>un fun vK=>un fun (TR:Int) (avB:LV)=>
    some [.bool oo,V.int .i64 wQ,V.int .i64 vK,V.int .i64 TR,.list ab avB]) (un fun avC=>un fun (BC:Int) (uS:Bool)=>
    some [.bool true,V.int .i64 (-1),V.int .i64 avC,V.int .i64 0,.list ab ([]:LV)]))
theorem W4 {gC:Int} {ed ij gY gD gL:LV} {oa eg:Int} {r:Option LV} (h:By CC gC ed ij gY gD gL oa eg=r):CC wG [V.int .i64 gC,.list ag ed,.list bZ ij,.list ab gY,.list ar gD,.list ar gL,V.int .i64 oa,V.int .i64 eg]=r:=bQ (bC (avA CC) aw) h
structure Jy (rows:LV) (s8:Nat→List ji):Prop where
 wF:CC Bq []=some [.list Et rows]
 len:rows.length=17
 cls: ∀c,c<17→∃x,rows[c]? =some x∧∃(a:List UInt8) (b:Bool) (e f:Int),CC jC [.str (x.cell 0).toStr,.bool (x.cell 1).toBool,.int .i64 (x.cell 2).toInt,.int .i64 (x.cell 3).toInt,.str (x.cell 4).toStr,.str (x.cell 5).toStr]=some [.str a,.bool b,.int .i64 e,.int .i64 f,.list iq ((s8 c).map fun d=> .agg (cJ d))]
 ok: ∀c,c<17→∀d∈s8 c,nT d
 il: ∀c,c<17→(s8 c).length≤2
section
variable {rows:LV} {s8:Nat→List ji} (hC:Jy rows s8) {m:Da} {S:List (List Nat)} {f:Nat→List UInt8} (hm:m.Ok) (hS:pX m S) (hV:CC wO (jb m S f)=some [.int .i64 0]) {c:Nat} (hc:c<17)
include hC hS hV hc
omit hS in
theorem avD (hle:S.length≤400): ∃Z:List Nat,(∀z∈Z,z<S.length)∧Z.length≤S.length∧CC uP (jb m S f++[.int .i64 (c:Int)])=some [.int .i64 0,.list ab (nS Z)]:=by
 obtain ⟨x,hx,_⟩:=hC.cls c hc;have hl:=hC.len;have pl:(gN m.L m.gT S S.length).length=S.length:=fG;have key:=jD (step:=N3 CC (c:Int) (gN m.L m.gT S S.length) (S.length:Int) rows) (fun i y=> ∃Z:List Nat,(∀z∈Z,z<S.length)∧Z.length≤i∧y=((i:Int),nS Z)) (fun r=> ∃Z:List Nat,(∀z∈Z,z<S.length)∧Z.length≤S.length∧r=((S.length:Int),false,nS Z)) S.length 0 (0,nS []) (fun i _ hi y hy=> ?_) (fun y hy=> ?_) ⟨[],fun _ h=>(by cases h),av _,rfl⟩
 ·obtain ⟨r,e,Z,h1,h2,rfl⟩:=key;have fin: ∀z,EJ CC (m.L:Int) (ln S) (tab S.length fun j=> .str (f j)) (iI m S) (ja m S) (gN m.L m.gT S S.length) (c:Int)=z→CC uP (jb m S f++[.int .i64 (c:Int)])=z:=fun z h=>W3 h;refine ⟨Z,h1,h2,fin _ ?_⟩;unfold EJ;rw[pl];refine bs hV (bF rfl (bs hC.wF (bF xx (bF ?_ (bs e rfl)))));show decide ((c:Int)≥(rows.length:Int))=false;rw[hl];exact da (by omega)
 ·obtain ⟨Z,h1,h2,rfl⟩:=hy;have bp:i<S.length:=by omega
  have hb: ∃b,idx (gN m.L m.gT S S.length) (i:Int)=some b:=⟨_,by rw[ym rfl];exact bU (by rw[pl];exact bp)⟩
  obtain ⟨b,hb⟩:=hb;have lH:(∀z∈Z++[i],z<S.length)∧(Z++[i]).length≤i+1:=⟨fun z hz=>by
   rcases eF.1 hz with hz|hz
   ·exact h1 z hz
   ·rw[fu.1 hz];exact bp,by simp;omega⟩
  have app: ∀{r:Int×LV},r=(((i+1:Nat):Int),nS (Z++[i]))→(bif Nat.ble (((nS Z).length+([V.int .i64 (i:Int)]:LV).length)*8) aW then some (Sum.inl (β:=Int×Bool×LV) (wrap .i64 ((i:Int)+1),nS Z++([V.int .i64 (i:Int)]:LV))) else none)=some (.inl r):=by
   rintro _ rfl;refine bT (cap (by rw[dy];simp;omega) (by omega)) ?_;rw[br (by omega)];simp[nS,nV]
  simp only[N3,Iv,un];cases Vy:b.toBool with
  | true=>exact ⟨_,bT (bh bp) (bs hb (bT Vy (app rfl))),Z++[i],lH.1,lH.2,rfl⟩
  | false=>
   cases kJ:(x.cell 1).toBool with
   | true=>exact ⟨_,bT (bh bp) (bs hb (bF Vy ((bX hx).trans (bT kJ (app rfl))))),Z++[i],lH.1,lH.2,rfl⟩
   | false=>
    refine ⟨_,bT (bh bp) (bs hb (bF Vy ((bX hx).trans (bF kJ rfl)))),Z,h1,by omega,?_⟩;rw[br (by omega)]
 ·obtain ⟨Z,h1,h2,rfl⟩:=hy;rw[dt] at*
  simp only[N3,Iv,un];exact ⟨_,bF (aV (av _)) rfl,Z,h1,h2,cK rfl (cK (aV (av _)) rfl)⟩
include hm
theorem ag5 {bud:Int} (hb:1≤bud∧bud≤1048576): ∃(b:Bool) (i j e:Int) (l:LV),CC wG (jb m S f++[.int .i64 (c:Int),.int .i64 bud])=some [.bool b,.int .i64 i,.int .i64 j,.int .i64 e,.list ab l]:=by
 have hle:=hS.le;obtain ⟨Z,hZ,Al,eE⟩:=avD hC hV hc hle;obtain ⟨x,hx,a,b,e,f',j8⟩:=hC.cls c hc;have pY:=hC.il c hc;have ao:=hC.ok c hc;generalize s8 c=ids at j8 pY ao;have hT:Tb S.length (fP S):=⟨hS.pos,hS.le,fun _ _ hi hj=>ae3 hm hS hi hj⟩
 have hA: ∀i j k,i<S.length→j<S.length→k<S.length→fP S (fP S i j) k=fP S i (fP S j k):=fun _ _ _ hi hj hk=>au0 hm hS hi hj hk;have ae: ∀j,j<S.length→fP S 0 j=j∧fP S j 0=j:=fun j hj=>by
  obtain ⟨w,hw,rfl⟩:=Ap hS hj;have e0:vl m S []=0:=ae2 hS;refine ⟨?_,?_⟩
  ·rw[←e0,xF hm hS WL.nil hw];rfl
  ·rw[←e0,xF hm hS hw WL.nil,ug]
 have key:=xy (step:=N4 CC bud (ids.length:Int) (m.L:Int) (ln S) (tab S.length fun j=> .str (f j)) (iI m S) (ja m S) (gN m.L m.gT S S.length) (nS Z) (ids.map fun d=> .agg (cJ d)))
  (fun i y=> ∃t:Int,y=(t,(i:Int))) (fun (r:(Bool×Int×Int×Int×LV) ⊕ (Int×Int×Bool))=>(∃b i j e l,r= .inl (b,i,j,e,l))∨∃t i b,r= .inr (t,i,b)) ids.length (fun i hi y hy=> ?_) (fun y hy=> ?_) ids.length 0 (0,0) (dt _) ⟨0,rfl⟩
 ·obtain ⟨r,el,hr⟩:=key;have fin: ∀z,By CC (m.L:Int) (ln S) (tab S.length fun j=> .str (f j)) (iI m S) (ja m S) (gN m.L m.gT S S.length) (c:Int) bud=z→CC wG (jb m S f++[.int .i64 (c:Int),.int .i64 bud])=z:=fun z h=>W4 h;rcases hr with ⟨b,i,j,e,l,rfl⟩|⟨t,i,b,rfl⟩
  ·refine ⟨b,i,j,e,l,fin _ ?_⟩;unfold By;refine bs eE (bF rfl (bF (da (by omega)) (bF (da (by omega)) (bs hC.wF ((bX hx).trans (bs j8 ?_))))));have hl:(((V.nth (List.drop 4 [V.str a,V.bool b,V.int IntKind.i64 e,V.int IntKind.i64 f',V.list iq (ids.map fun d=>V.agg (cJ d))]) 0).toList).length:Int)=(ids.length:Int):=by show ((ids.map fun d=>V.agg (cJ d)).length:Int)=_;rw[db]
   first|exact bs (by rw[←hl] at el;exact el) rfl|exact bs el rfl
  ·refine ⟨true,-1,t,0,[],fin _ ?_⟩;unfold By;refine bs eE (bF rfl (bF (da (by omega)) (bF (da (by omega)) (bs hC.wF ((bX hx).trans (bs j8 ?_))))));have hl:((ids.map fun d=>V.agg (cJ d)).length:Int)=(ids.length:Int):=by rw[db]
   rw[←hl] at el;exact bs el rfl
 ·obtain ⟨t,rfl⟩:=hy;have jV:(ids.map fun d=>V.agg (cJ d))[i]? =some (.agg (cJ ids[i])):=by simp[hi]
  obtain ⟨s,e2,l,hv⟩:=auG hT hA ae hZ (by omega) (ao _ (dm hi)) (wrap .i64 (bud-t));simp only[N4,Iw,un];by_cases ct:(t==bud)=true
  ·exact .inr ⟨.inl (false,0,0,7,[]),bT (bh hi) ((bX jV).trans (bT ct rfl)),.inl ⟨false,0,0,7,[],rfl⟩⟩
  have ct:(t==bud)=false:=by simpa using ct
  by_cases c0:(e2==0)=true
  ·exact .inr ⟨_,bT (bh hi) ((bX jV).trans (bF ct (bs hv (bT c0 rfl)))),.inl ⟨false,(i:Int),wrap .i64 (t+s),0,l,rfl⟩⟩
  have c0:(e2==0)=false:=by simpa using c0
  by_cases c9:(e2==9)=true
  ·refine .inl ⟨(wrap .i64 (t+s),((i+1:Nat):Int)),bT (bh hi) ((bX jV).trans (bF ct (bs hv (bF c0 (bT c9 ?_))))),_,rfl⟩;rw[br (by omega)];rfl
  ·have c9:(e2==9)=false:=by simpa using c9
   exact .inr ⟨_,bT (bh hi) ((bX jV).trans (bF ct (bs hv (bF c0 (bF c9 rfl))))),.inl ⟨false,0,0,e2,[],rfl⟩⟩
 ·obtain ⟨t,rfl⟩:=hy;simp only[N4,Iw,un];exact ⟨.inr (t,(ids.length:Int),decide ((ids.length:Int)<(ids.length:Int))),bF (aV (av _)) rfl,.inr ⟨t,(ids.length:Int),decide ((ids.length:Int)<(ids.length:Int)),rfl⟩⟩
end
noncomputable def afi (C:af) (s:List UInt8):Option LV:=
 bif decide ((s.length:Int)>1000) then
  some [V.int .i64 0,V.int .i64 0,.list ai ([]:LV),V.int .i64 0,V.int .i64 0,.list ai ([]:LV),V.int .i64 0,V.int .i64 21]
 else
  (C ga [.str s,V.int .i64 0]).bind fun r1=>
  bif !((V.nth (r1.drop 3) 0).toBool) then
  some [V.int .i64 0,V.int .i64 0,.list ai ([]:LV),V.int .i64 0,V.int .i64 0,.list ai ([]:LV),V.int .i64 ((V.nth ((r1.drop 4).drop 1) 0).toInt),V.int .i64 2]
  else
  (C na [.int .u8 61,.str ((V.nth (r1.drop 4) 0).toStr),V.int .i64 ((V.nth ((r1.drop 4).drop 1) 0).toInt)]).bind fun r2=>
  bif !((V.nth r2 0).toBool) then
   some [V.int .i64 0,V.int .i64 0,.list ai ([]:LV),V.int .i64 0,V.int .i64 0,.list ai ([]:LV),V.int .i64 ((V.nth ((r2.drop 1).drop 1) 0).toInt),V.int .i64 2]
  else
   (C ga [.str ((V.nth (r2.drop 1) 0).toStr),V.int .i64 ((V.nth ((r2.drop 1).drop 1) 0).toInt)]).bind fun r3=>
   bif !((V.nth (r3.drop 3) 0).toBool) then
   some [V.int .i64 0,V.int .i64 0,.list ai ([]:LV),V.int .i64 0,V.int .i64 0,.list ai ([]:LV),V.int .i64 ((V.nth ((r3.drop 4).drop 1) 0).toInt),V.int .i64 2]
   else
   bif decide ((((V.nth ((r3.drop 4).drop 1) 0).toInt):Int)<(s.length:Int)) then
    some [V.int .i64 0,V.int .i64 0,.list ai ([]:LV),V.int .i64 0,V.int .i64 0,.list ai ([]:LV),V.int .i64 ((V.nth ((r3.drop 4).drop 1) 0).toInt),V.int .i64 2]
   else
    (C lU [V.int .i64 ((V.nth r1 0).toInt),V.int .i64 ((V.nth (r1.drop 1) 0).toInt),.list ai ((V.nth ((r1.drop 1).drop 1) 0).toList),V.int .i64 ((V.nth r3 0).toInt),V.int .i64 ((V.nth (r3.drop 1) 0).toInt),.list ai ((V.nth ((r3.drop 1).drop 1) 0).toList)]).bind fun r4=>
    bif (((V.nth r4 0).toInt):Int) != 0 then
    some [V.int .i64 0,V.int .i64 0,.list ai ([]:LV),V.int .i64 0,V.int .i64 0,.list ai ([]:LV),V.int .i64 0,V.int .i64 ((V.nth r4 0).toInt)]
    else
    some [V.int .i64 ((V.nth r1 0).toInt),V.int .i64 ((V.nth (r1.drop 1) 0).toInt),.list ai ((V.nth ((r1.drop 1).drop 1) 0).toList),V.int .i64 ((V.nth r3 0).toInt),V.int .i64 ((V.nth (r3.drop 1) 0).toInt),.list ai ((V.nth ((r3.drop 1).drop 1) 0).toList),V.int .i64 (-1),V.int .i64 0]
theorem avE {s:List UInt8} {r:Option LV} (h:afi CC s=r):CC Bp [.str s]=r:=bQ (L:=bO) aw h
noncomputable def vT (C:af) (Vz VA gf:List UInt8) (gg:Bool) (zM xw:Int) (EC:List UInt8) (ED:Bool) (afj afk:Int) (aM:LV) (t23:Int) (aN:LV) {β:Type} (kn:(Int×LV)→Option β) (kr:(Int×Bool×LV)→Option β):Option β:=
 bif decide (t23<2) then
  (idx ([.str Vz,.str VA]:LV) t23).bind fun x1=>
  (C Bp [.str x1.toStr]).bind fun r2=>
  bif (((V.nth ((r2.drop 6).drop 1) 0).toInt):Int)==0 then
  bif Nat.ble ((aN.length+([.agg [V.int .i64 ((V.nth r2 0).toInt),V.int .i64 ((V.nth (r2.drop 1) 0).toInt),.list ai ((V.nth ((r2.drop 1).drop 1) 0).toList),V.int .i64 ((V.nth (((r2.drop 1).drop 1).drop 1) 0).toInt),V.int .i64 ((V.nth ((((r2.drop 1).drop 1).drop 1).drop 1) 0).toInt),.list ai ((V.nth (((((r2.drop 1).drop 1).drop 1).drop 1).drop 1) 0).toList)]]:LV).length)*80) aW then
   kn (wrap .i64 (t23+1),aN++([.agg [V.int .i64 ((V.nth r2 0).toInt),V.int .i64 ((V.nth (r2.drop 1) 0).toInt),.list ai ((V.nth ((r2.drop 1).drop 1) 0).toList),V.int .i64 ((V.nth (((r2.drop 1).drop 1).drop 1) 0).toInt),V.int .i64 ((V.nth ((((r2.drop 1).drop 1).drop 1).drop 1) 0).toInt),.list ai ((V.nth (((((r2.drop 1).drop 1).drop 1).drop 1).drop 1) 0).toList)]]:LV))
  else none
  else
  kn (wrap .i64 (t23+1),aN)
 else
  kr (t23,decide (t23<2),aN)
noncomputable def qw (C:af) (Vz VA gf:List UInt8) (gg:Bool) (zM xw:Int) (EC:List UInt8) (ED:Bool) (afj afk:Int) (aM:LV):=un fun t23 aN=>vT C Vz VA gf gg zM xw EC ED afj afk aM t23 aN (fun y=>some (Sum.inl y)) (fun r=>some (Sum.inr r))
noncomputable def avF (C:af):cF:=bN 49 So [EQ,EQ,H1,EQ,EQ,EQ,EQ,EQ,EQ,EQ,EQ,EQ,H1] [[1,2,0,0,4,5,6,7,8,9,10,11,12,0]] (@vT C) bO
theorem avG (C:af):bB C (avF C) 48 (Lp [1,1,0,1,0,0] 48):=bP So [EQ,EQ,H1,EQ,EQ,EQ,EQ,EQ,EQ,EQ,EQ,EQ,H1] [[1,2,0,0,4,5,6,7,8,9,10,11,12,0]] (@vT C) (bu aw)
noncomputable def VB (C:af) (sx:List UInt8) (sy:Bool) (sA Ix:Int) (N5 vQ:List UInt8):Option LV:=
 (Loop (qw C N5 vQ [] false 0 0 sx sy sA Ix ([]:LV)) (0,([]:LV))).bind (un fun jJ=>un fun (lV:Bool) (b_5:LV)=>
  some [.str sx,.bool sy,V.int .i64 sA,V.int .i64 Ix,.list iq b_5])
theorem afl {sx:List UInt8} {sy:Bool} {sA Ix:Int} {N5 vQ:List UInt8} {r:Option LV} (h:VB CC sx sy sA Ix N5 vQ=r):CC jC [.str sx,.bool sy,V.int .i64 sA,V.int .i64 Ix,.str N5,.str vQ]=r:=bQ (bC (avG CC) aw) h
def mB (s:List UInt8) (d:ji):Prop:=CC Bp [.str s]=some (cJ d++[.int .i64 (-1),.int .i64 0])
theorem o4 {s:List UInt8} {d:ji} {p p2 q:Int} (hs:s.length≤1000) (h1:CC ga [.str s,.int .i64 0]=some [.int .i64 d.l0,.int .i64 d.l1,.list ai d.l2,.bool true,.str s,.int .i64 p])
  (h2:CC na [.int .u8 61,.str s,.int .i64 p]=some [.bool true,.str s,.int .i64 p2])
  (h3:CC ga [.str s,.int .i64 p2]=some [.int .i64 d.r0,.int .i64 d.r1,.list ai d.r2,.bool true,.str s,.int .i64 q]) (hq:(s.length:Int)≤q) (hv:CC lU (cJ d)=some [.int .i64 0]):mB s d:=by
 refine avE ?_;unfold afi;exact bF (da (by omega)) (bs h1 (bF rfl (bs h2 (bF rfl (bs h3 (bF rfl (bF (da (show¬q<(s.length:Int) by omega)) (bs hv (bF rfl rfl)))))))))
section
variable {n a b:List UInt8} {m:Bool} {f k:Int} {d e:ji}
theorem Br (h1:mB a d) (h2:mB b e):CC jC [.str n,.bool m,.int .i64 f,.int .i64 k,.str a,.str b]=some [.str n,.bool m,.int .i64 f,.int .i64 k,.list iq ([d,e].map fun d=> .agg (cJ d))]:=by
 refine afl ?_;unfold VB;have s1:qw CC a b [] false 0 0 n m f k ([]:LV) (0,[])=some (.inl (1,[.agg (cJ d)])):=by
  simp only[qw,vT,un];exact bT rfl (bs rfl (bs h1 (bT rfl rfl)))
 have s2:qw CC a b [] false 0 0 n m f k ([]:LV) (1,[.agg (cJ d)])=some (.inl (2,[.agg (cJ d),.agg (cJ e)])):=by
  simp only[qw,vT,un];exact bT rfl (bs rfl (bs h2 (bT rfl rfl)))
 have s3:qw CC a b [] false 0 0 n m f k ([]:LV) (2,[.agg (cJ d),.agg (cJ e)])=some (.inr (2,false,[.agg (cJ d),.agg (cJ e)])):=by
  simp only[qw,vT,un];exact bF rfl rfl
 exact bs ((iR s1).trans ((iR s2).trans (jX s3))) rfl
theorem rU (h1:mB a d) (h2:CC Bp [.str []]=some [.int .i64 0,.int .i64 0,.list ai [],.int .i64 0,.int .i64 0,.list ai [],.int .i64 0,.int .i64 2]):CC jC [.str n,.bool m,.int .i64 f,.int .i64 k,.str a,.str []]=some [.str n,.bool m,.int .i64 f,.int .i64 k,.list iq ([d].map fun d=> .agg (cJ d))]:=by
 refine afl ?_;unfold VB;have s1:qw CC a [] [] false 0 0 n m f k ([]:LV) (0,[])=some (.inl (1,[.agg (cJ d)])):=by
  simp only[qw,vT,un];exact bT rfl (bs rfl (bs h1 (bT rfl rfl)))
 have s2:qw CC a [] [] false 0 0 n m f k ([]:LV) (1,[.agg (cJ d)])=some (.inl (2,[.agg (cJ d)])):=by
  simp only[qw,vT,un];exact bT rfl (bs rfl (bs h2 (bF rfl rfl)))
 have s3:qw CC a [] [] false 0 0 n m f k ([]:LV) (2,[.agg (cJ d)])=some (.inr (2,false,[.agg (cJ d)])):=by
  simp only[qw,vT,un];exact bF rfl rfl
 exact bs ((iR s1).trans ((iR s2).trans (jX s3))) rfl
end
def eH:ji:={l0:=2,l1:=0,l2:=[],r0:=1,r1:=0,r2:=[],p:=[(1,0)],q:=[(0,0)],o1:=fun i=>[H1,EQ,EQ,EQ,EQ,EQ].getD i false,e1:=fun i=>[H1,EQ,EQ,EQ,EQ,EQ].getD i false,cQ:=fun i=>[H1,EQ,EQ,EQ,EQ,EQ].getD i false,cT:=fun i=>[H1,EQ,EQ,EQ,EQ,EQ].getD i false,nv:=1}
def Ar:List UInt8:=[120,32,61,32,49]
def dq:ji:={l0:=3,l1:=0,l2:=[.agg [.int .i64 2,.int .i64 0,.list ai []],.agg [.int .i64 2,.int .i64 1,.list ai []]],r0:=3,r1:=0,r2:=[.agg [.int .i64 2,.int .i64 1,.list ai []],.agg [.int .i64 2,.int .i64 0,.list ai []]],p:=[(1,0),(1,1),(2,0)],q:=[(1,1),(1,0),(2,0)],o1:=fun i=>[H1,H1,EQ,EQ,EQ,EQ].getD i false,e1:=fun i=>[H1,H1,EQ,EQ,EQ,EQ].getD i false,cQ:=fun i=>[H1,H1,EQ,EQ,EQ,EQ].getD i false,cT:=fun i=>[H1,H1,EQ,EQ,EQ,EQ].getD i false,nv:=2}
def As:List UInt8:=[120,121,32,61,32,121,120]
def aH:ji:={l0:=4,l1:=1,l2:=[.agg [.int .i64 2,.int .i64 0,.list ai []]],r0:=4,r1:=0,r2:=[.agg [.int .i64 2,.int .i64 0,.list ai []]],p:=[(1,0),(3,1)],q:=[(1,0),(3,0)],o1:=fun i=>[H1,EQ,EQ,EQ,EQ,EQ].getD i false,e1:=fun i=>[H1,EQ,EQ,EQ,EQ,EQ].getD i false,cQ:=fun i=>[H1,EQ,EQ,EQ,EQ,EQ].getD i false,cT:=fun i=>[H1,EQ,EQ,EQ,EQ,EQ].getD i false,nv:=1}
def Au:List UInt8:=[120,94,40,119,43,49,41,32,61,32,120,94,119]
def dJ:ji:={l0:=4,l1:=0,l2:=[.agg [.int .i64 2,.int .i64 0,.list ai []]],r0:=1,r1:=0,r2:=[],p:=[(1,0),(3,0)],q:=[(0,0)],o1:=fun i=>[H1,EQ,EQ,EQ,EQ,EQ].getD i false,e1:=fun i=>[EQ,EQ,EQ,EQ,EQ,EQ].getD i false,cQ:=fun i=>[H1,EQ,EQ,EQ,EQ,EQ].getD i false,cT:=fun i=>[EQ,EQ,EQ,EQ,EQ,EQ].getD i false,nv:=1}
def Av:List UInt8:=[120,94,119,32,61,32,49]
def eI:ji:={l0:=3,l1:=0,l2:=[.agg [.int .i64 2,.int .i64 0,.list ai []],.agg [.int .i64 2,.int .i64 0,.list ai []]],r0:=2,r1:=0,r2:=[],p:=[(1,0),(1,0),(2,0)],q:=[(1,0)],o1:=fun i=>[H1,EQ,EQ,EQ,EQ,EQ].getD i false,e1:=fun i=>[H1,EQ,EQ,EQ,EQ,EQ].getD i false,cQ:=fun i=>[H1,EQ,EQ,EQ,EQ,EQ].getD i false,cT:=fun i=>[H1,EQ,EQ,EQ,EQ,EQ].getD i false,nv:=1}
def Aw:List UInt8:=[120,120,32,61,32,120]
def en:ji:={l0:=3,l1:=0,l2:=[.agg [.int .i64 4,.int .i64 0,.list ai [.agg [.int .i64 3,.int .i64 0,.list ai [.agg [.int .i64 2,.int .i64 0,.list ai []],.agg [.int .i64 2,.int .i64 1,.list ai []]]]]],.agg [.int .i64 2,.int .i64 0,.list ai []]],r0:=4,r1:=0,r2:=[.agg [.int .i64 3,.int .i64 0,.list ai [.agg [.int .i64 2,.int .i64 0,.list ai []],.agg [.int .i64 2,.int .i64 1,.list ai []]]]],p:=[(1,0),(1,1),(2,0),(3,0),(1,0),(2,0)],q:=[(1,0),(1,1),(2,0),(3,0)],o1:=fun i=>[H1,H1,EQ,EQ,EQ,EQ].getD i false,e1:=fun i=>[H1,H1,EQ,EQ,EQ,EQ].getD i false,cQ:=fun i=>[H1,H1,EQ,EQ,EQ,EQ].getD i false,cT:=fun i=>[H1,H1,EQ,EQ,EQ,EQ].getD i false,nv:=2}
def Ax:List UInt8:=[40,120,121,41,94,119,120,32,61,32,40,120,121,41,94,119]
def eo:ji:={l0:=3,l1:=0,l2:=[.agg [.int .i64 2,.int .i64 1,.list ai []],.agg [.int .i64 4,.int .i64 0,.list ai [.agg [.int .i64 3,.int .i64 0,.list ai [.agg [.int .i64 2,.int .i64 0,.list ai []],.agg [.int .i64 2,.int .i64 1,.list ai []]]]]]],r0:=4,r1:=0,r2:=[.agg [.int .i64 3,.int .i64 0,.list ai [.agg [.int .i64 2,.int .i64 0,.list ai []],.agg [.int .i64 2,.int .i64 1,.list ai []]]]],p:=[(1,1),(1,0),(1,1),(2,0),(3,0),(2,0)],q:=[(1,0),(1,1),(2,0),(3,0)],o1:=fun i=>[H1,H1,EQ,EQ,EQ,EQ].getD i false,e1:=fun i=>[H1,H1,EQ,EQ,EQ,EQ].getD i false,cQ:=fun i=>[H1,H1,EQ,EQ,EQ,EQ].getD i false,cT:=fun i=>[H1,H1,EQ,EQ,EQ,EQ].getD i false,nv:=2}
def Ay:List UInt8:=[121,40,120,121,41,94,119,32,61,32,40,120,121,41,94,119]
def eJ:ji:={l0:=3,l1:=0,l2:=[.agg [.int .i64 4,.int .i64 0,.list ai [.agg [.int .i64 3,.int .i64 0,.list ai [.agg [.int .i64 2,.int .i64 0,.list ai []],.agg [.int .i64 2,.int .i64 1,.list ai []]]]]],.agg [.int .i64 2,.int .i64 0,.list ai []],.agg [.int .i64 4,.int .i64 0,.list ai [.agg [.int .i64 3,.int .i64 0,.list ai [.agg [.int .i64 2,.int .i64 0,.list ai []],.agg [.int .i64 2,.int .i64 1,.list ai []]]]]]],r0:=4,r1:=0,r2:=[.agg [.int .i64 3,.int .i64 0,.list ai [.agg [.int .i64 2,.int .i64 0,.list ai []],.agg [.int .i64 2,.int .i64 1,.list ai []]]]],p:=[(1,0),(1,1),(2,0),(3,0),(1,0),(2,0),(1,0),(1,1),(2,0),(3,0),(2,0)],q:=[(1,0),(1,1),(2,0),(3,0)],o1:=fun i=>[H1,H1,EQ,EQ,EQ,EQ].getD i false,e1:=fun i=>[H1,H1,EQ,EQ,EQ,EQ].getD i false,cQ:=fun i=>[H1,H1,EQ,EQ,EQ,EQ].getD i false,cT:=fun i=>[H1,H1,EQ,EQ,EQ,EQ].getD i false,nv:=2}
def Az:List UInt8:=[40,120,121,41,94,119,120,40,120,121,41,94,119,32,61,32,40,120,121,41,94,119]
def ep:ji:={l0:=3,l1:=0,l2:=[.agg [.int .i64 4,.int .i64 0,.list ai [.agg [.int .i64 2,.int .i64 0,.list ai []]]],.agg [.int .i64 2,.int .i64 1,.list ai []]],r0:=4,r1:=0,r2:=[.agg [.int .i64 2,.int .i64 0,.list ai []]],p:=[(1,0),(3,0),(1,1),(2,0)],q:=[(1,0),(3,0)],o1:=fun i=>[H1,H1,EQ,EQ,EQ,EQ].getD i false,e1:=fun i=>[EQ,H1,EQ,EQ,EQ,EQ].getD i false,cQ:=fun i=>[H1,H1,EQ,EQ,EQ,EQ].getD i false,cT:=fun i=>[EQ,H1,EQ,EQ,EQ,EQ].getD i false,nv:=2}
def AA:List UInt8:=[120,94,119,121,32,61,32,120,94,119]
def et:ji:={l0:=3,l1:=0,l2:=[.agg [.int .i64 2,.int .i64 1,.list ai []],.agg [.int .i64 4,.int .i64 0,.list ai [.agg [.int .i64 2,.int .i64 0,.list ai []]]]],r0:=4,r1:=0,r2:=[.agg [.int .i64 2,.int .i64 0,.list ai []]],p:=[(1,1),(1,0),(3,0),(2,0)],q:=[(1,0),(3,0)],o1:=fun i=>[H1,H1,EQ,EQ,EQ,EQ].getD i false,e1:=fun i=>[EQ,H1,EQ,EQ,EQ,EQ].getD i false,cQ:=fun i=>[H1,H1,EQ,EQ,EQ,EQ].getD i false,cT:=fun i=>[EQ,H1,EQ,EQ,EQ,EQ].getD i false,nv:=2}
def AB:List UInt8:=[121,120,94,119,32,61,32,120,94,119]
def eL:ji:={l0:=3,l1:=0,l2:=[.agg [.int .i64 4,.int .i64 0,.list ai [.agg [.int .i64 2,.int .i64 0,.list ai []]]],.agg [.int .i64 2,.int .i64 1,.list ai []],.agg [.int .i64 4,.int .i64 0,.list ai [.agg [.int .i64 2,.int .i64 0,.list ai []]]]],r0:=4,r1:=0,r2:=[.agg [.int .i64 2,.int .i64 0,.list ai []]],p:=[(1,0),(3,0),(1,1),(2,0),(1,0),(3,0),(2,0)],q:=[(1,0),(3,0)],o1:=fun i=>[H1,H1,EQ,EQ,EQ,EQ].getD i false,e1:=fun i=>[EQ,H1,EQ,EQ,EQ,EQ].getD i false,cQ:=fun i=>[H1,H1,EQ,EQ,EQ,EQ].getD i false,cT:=fun i=>[EQ,H1,EQ,EQ,EQ,EQ].getD i false,nv:=2}
def AD:List UInt8:=[120,94,119,121,120,94,119,32,61,32,120,94,119]
def eM:ji:={l0:=3,l1:=0,l2:=[.agg [.int .i64 4,.int .i64 0,.list ai [.agg [.int .i64 2,.int .i64 0,.list ai []]]],.agg [.int .i64 2,.int .i64 1,.list ai []],.agg [.int .i64 4,.int .i64 0,.list ai [.agg [.int .i64 2,.int .i64 0,.list ai []]]],.agg [.int .i64 2,.int .i64 1,.list ai []],.agg [.int .i64 4,.int .i64 0,.list ai [.agg [.int .i64 2,.int .i64 0,.list ai []]]]],r0:=3,r1:=0,r2:=[.agg [.int .i64 4,.int .i64 0,.list ai [.agg [.int .i64 2,.int .i64 0,.list ai []]]],.agg [.int .i64 2,.int .i64 1,.list ai []],.agg [.int .i64 4,.int .i64 0,.list ai [.agg [.int .i64 2,.int .i64 0,.list ai []]]]],p:=[(1,0),(3,0),(1,1),(2,0),(1,0),(3,0),(2,0),(1,1),(2,0),(1,0),(3,0),(2,0)],q:=[(1,0),(3,0),(1,1),(2,0),(1,0),(3,0),(2,0)],o1:=fun i=>[H1,H1,EQ,EQ,EQ,EQ].getD i false,e1:=fun i=>[EQ,H1,EQ,EQ,EQ,EQ].getD i false,cQ:=fun i=>[H1,H1,EQ,EQ,EQ,EQ].getD i false,cT:=fun i=>[EQ,H1,EQ,EQ,EQ,EQ].getD i false,nv:=2}
def AE:List UInt8:=[120,94,119,121,120,94,119,121,120,94,119,32,61,32,120,94,119,121,120,94,119]
def eN:ji:={l0:=3,l1:=0,l2:=[.agg [.int .i64 4,.int .i64 0,.list ai [.agg [.int .i64 2,.int .i64 0,.list ai []]]],.agg [.int .i64 2,.int .i64 1,.list ai []],.agg [.int .i64 4,.int .i64 0,.list ai [.agg [.int .i64 2,.int .i64 0,.list ai []]]],.agg [.int .i64 2,.int .i64 2,.list ai []],.agg [.int .i64 4,.int .i64 0,.list ai [.agg [.int .i64 2,.int .i64 0,.list ai []]]]],r0:=3,r1:=0,r2:=[.agg [.int .i64 4,.int .i64 0,.list ai [.agg [.int .i64 2,.int .i64 0,.list ai []]]],.agg [.int .i64 2,.int .i64 2,.list ai []],.agg [.int .i64 4,.int .i64 0,.list ai [.agg [.int .i64 2,.int .i64 0,.list ai []]]],.agg [.int .i64 2,.int .i64 1,.list ai []],.agg [.int .i64 4,.int .i64 0,.list ai [.agg [.int .i64 2,.int .i64 0,.list ai []]]]],p:=[(1,0),(3,0),(1,1),(2,0),(1,0),(3,0),(2,0),(1,2),(2,0),(1,0),(3,0),(2,0)],q:=[(1,0),(3,0),(1,2),(2,0),(1,0),(3,0),(2,0),(1,1),(2,0),(1,0),(3,0),(2,0)],o1:=fun i=>[H1,H1,H1,EQ,EQ,EQ].getD i false,e1:=fun i=>[EQ,H1,H1,EQ,EQ,EQ].getD i false,cQ:=fun i=>[H1,H1,H1,EQ,EQ,EQ].getD i false,cT:=fun i=>[EQ,H1,H1,EQ,EQ,EQ].getD i false,nv:=3}
def AF:List UInt8:=[120,94,119,121,120,94,119,122,120,94,119,32,61,32,120,94,119,122,120,94,119,121,120,94,119]
def eG:ji:={l0:=3,l1:=0,l2:=[.agg [.int .i64 4,.int .i64 0,.list ai [.agg [.int .i64 3,.int .i64 0,.list ai [.agg [.int .i64 4,.int .i64 0,.list ai [.agg [.int .i64 2,.int .i64 0,.list ai []]]],.agg [.int .i64 2,.int .i64 2,.list ai []],.agg [.int .i64 4,.int .i64 0,.list ai [.agg [.int .i64 2,.int .i64 1,.list ai []]]],.agg [.int .i64 2,.int .i64 3,.list ai []],.agg [.int .i64 4,.int .i64 0,.list ai [.agg [.int .i64 2,.int .i64 0,.list ai []]]]]]]],.agg [.int .i64 4,.int .i64 0,.list ai [.agg [.int .i64 2,.int .i64 0,.list ai []]]],.agg [.int .i64 2,.int .i64 2,.list ai []],.agg [.int .i64 4,.int .i64 0,.list ai [.agg [.int .i64 2,.int .i64 1,.list ai []]]],.agg [.int .i64 2,.int .i64 5,.list ai []],.agg [.int .i64 4,.int .i64 0,.list ai [.agg [.int .i64 2,.int .i64 0,.list ai []]]],.agg [.int .i64 4,.int .i64 0,.list ai [.agg [.int .i64 3,.int .i64 0,.list ai [.agg [.int .i64 4,.int .i64 0,.list ai [.agg [.int .i64 2,.int .i64 0,.list ai []]]],.agg [.int .i64 2,.int .i64 4,.list ai []],.agg [.int .i64 4,.int .i64 0,.list ai [.agg [.int .i64 2,.int .i64 1,.list ai []]]],.agg [.int .i64 2,.int .i64 5,.list ai []],.agg [.int .i64 4,.int .i64 0,.list ai [.agg [.int .i64 2,.int .i64 0,.list ai []]]]]]]]],r0:=3,r1:=0,r2:=[.agg [.int .i64 4,.int .i64 0,.list ai [.agg [.int .i64 3,.int .i64 0,.list ai [.agg [.int .i64 4,.int .i64 0,.list ai [.agg [.int .i64 2,.int .i64 0,.list ai []]]],.agg [.int .i64 2,.int .i64 2,.list ai []],.agg [.int .i64 4,.int .i64 0,.list ai [.agg [.int .i64 2,.int .i64 1,.list ai []]]],.agg [.int .i64 2,.int .i64 3,.list ai []],.agg [.int .i64 4,.int .i64 0,.list ai [.agg [.int .i64 2,.int .i64 0,.list ai []]]]]]]],.agg [.int .i64 4,.int .i64 0,.list ai [.agg [.int .i64 3,.int .i64 0,.list ai [.agg [.int .i64 4,.int .i64 0,.list ai [.agg [.int .i64 2,.int .i64 0,.list ai []]]],.agg [.int .i64 2,.int .i64 4,.list ai []],.agg [.int .i64 4,.int .i64 0,.list ai [.agg [.int .i64 2,.int .i64 1,.list ai []]]],.agg [.int .i64 2,.int .i64 5,.list ai []],.agg [.int .i64 4,.int .i64 0,.list ai [.agg [.int .i64 2,.int .i64 0,.list ai []]]]]]]]],p:=[(1,0),(3,0),(1,2),(2,0),(1,1),(3,0),(2,0),(1,3),(2,0),(1,0),(3,0),(2,0),(3,0),(1,0),(3,0),(2,0),(1,2),(2,0),(1,1),(3,0),(2,0),(1,5),(2,0),(1,0),(3,0),(2,0),(1,0),(3,0),(1,4),(2,0),(1,1),(3,0),(2,0),(1,5),(2,0),(1,0),(3,0),(2,0),(3,0),(2,0)],q:=[(1,0),(3,0),(1,2),(2,0),(1,1),(3,0),(2,0),(1,3),(2,0),(1,0),(3,0),(2,0),(3,0),(1,0),(3,0),(1,4),(2,0),(1,1),(3,0),(2,0),(1,5),(2,0),(1,0),(3,0),(2,0),(3,0),(2,0)],o1:=fun i=>[H1,H1,H1,H1,H1,H1].getD i false,e1:=fun i=>[EQ,EQ,H1,H1,H1,H1].getD i false,cQ:=fun i=>[H1,H1,H1,H1,H1,H1].getD i false,cT:=fun i=>[EQ,EQ,H1,H1,H1,H1].getD i false,nv:=6}
def yi:List UInt8:=[40,120,94,119,122,121,94,119,117,120,94,119,41,94,119,120,94,119,122,121,94,119,116,120,94,119,40,120,94,119,118,121,94,119,116,120,94,119,41,94,119,32,61,32,40,120,94,119,122,121,94,119,117,120,94,119,41,94,119,40,120,94,119,118,121,94,119,116,120,94,119,41,94,119]
def Wq:LV:=[.agg [.str [116,114,105,118,105,97,108],.bool true,.int .i64 1,.int .i64 0,.str [120,32,61,32,49],.str []],
 .agg [.str [99,111,109,109,117,116,97,116,105,118,101],.bool true,.int .i64 4,.int .i64 0,.str [120,121,32,61,32,121,120],.str []],
 .agg [.str [99,111,109,109,117,116,97,116,105,118,101,45,97,112,101,114,105,111,100,105,99],.bool true,.int .i64 4,.int .i64 0,.str [120,121,32,61,32,121,120],.str [120,94,40,119,43,49,41,32,61,32,120,94,119]],
 .agg [.str [97,98,101,108,105,97,110],.bool true,.int .i64 4,.int .i64 0,.str [120,121,32,61,32,121,120],.str [120,94,119,32,61,32,49]],
 .agg [.str [115,101,109,105,108,97,116,116,105,99,101],.bool true,.int .i64 2,.int .i64 6,.str [120,121,32,61,32,121,120],.str [120,120,32,61,32,120]],
 .agg [.str [97,112,101,114,105,111,100,105,99],.bool true,.int .i64 1,.int .i64 0,.str [120,94,40,119,43,49,41,32,61,32,120,94,119],.str []],
 .agg [.str [103,114,111,117,112],.bool true,.int .i64 5,.int .i64 0,.str [120,94,119,32,61,32,49],.str []],
 .agg [.str [106,45,116,114,105,118,105,97,108],.bool true,.int .i64 2,.int .i64 6,.str [40,120,121,41,94,119,120,32,61,32,40,120,121,41,94,119],.str [121,40,120,121,41,94,119,32,61,32,40,120,121,41,94,119]],
 .agg [.str [114,45,116,114,105,118,105,97,108],.bool true,.int .i64 3,.int .i64 1,.str [40,120,121,41,94,119,120,32,61,32,40,120,121,41,94,119],.str []],
 .agg [.str [108,45,116,114,105,118,105,97,108],.bool true,.int .i64 3,.int .i64 2,.str [121,40,120,121,41,94,119,32,61,32,40,120,121,41,94,119],.str []],
 .agg [.str [100,97],.bool true,.int .i64 3,.int .i64 3,.str [40,120,121,41,94,119,120,40,120,121,41,94,119,32,61,32,40,120,121,41,94,119],.str []],
 .agg [.str [102,105,110,105,116,101,45,111,114,45,99,111,102,105,110,105,116,101],.bool false,.int .i64 2,.int .i64 1,.str [120,94,119,121,32,61,32,120,94,119],.str [121,120,94,119,32,61,32,120,94,119]],
 .agg [.str [100,101,102,105,110,105,116,101],.bool false,.int .i64 2,.int .i64 3,.str [121,120,94,119,32,61,32,120,94,119],.str []],
 .agg [.str [114,101,118,101,114,115,101,45,100,101,102,105,110,105,116,101],.bool false,.int .i64 2,.int .i64 2,.str [120,94,119,121,32,61,32,120,94,119],.str []],
 .agg [.str [103,101,110,101,114,97,108,105,115,101,100,45,100,101,102,105,110,105,116,101],.bool false,.int .i64 2,.int .i64 4,.str [120,94,119,121,120,94,119,32,61,32,120,94,119],.str []],
 .agg [.str [108,111,99,97,108,108,121,45,116,101,115,116,97,98,108,101],.bool false,.int .i64 2,.int .i64 5,.str [120,94,119,121,120,94,119,121,120,94,119,32,61,32,120,94,119,121,120,94,119],.str [120,94,119,121,120,94,119,122,120,94,119,32,61,32,120,94,119,122,120,94,119,121,120,94,119]],
 .agg [.str [100,111,116,45,100,101,112,116,104,45,111,110,101],.bool false,.int .i64 2,.int .i64 7,.str [40,120,94,119,122,121,94,119,117,120,94,119,41,94,119,120,94,119,122,121,94,119,116,120,94,119,40,120,94,119,118,121,94,119,116,120,94,119,41,94,119,32,61,32,40,120,94,119,122,121,94,119,117,120,94,119,41,94,119,40,120,94,119,118,121,94,119,116,120,94,119,41,94,119],.str []]]
def agL (c:Nat):List ji:=[[eH],[dq],[dq,aH],[dq,dJ],[dq,eI],[aH],[dJ],[en,eo],[en],[eo],[eJ],[ep,et],[et],[ep],[eL],[eM,eN],[eG]].getD c []
end Go.AM
