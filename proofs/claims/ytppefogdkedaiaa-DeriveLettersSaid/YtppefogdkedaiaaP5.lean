/-
  Functions of the program, lifted to plain data.
-/
import Derived.Sort.AssemblyPlain
import Derived.Test.YtppefogdkedaiaaP4
set_option linter.unusedVariables false
set_option linter.unusedSimpArgs false
set_option maxRecDepth 100000
namespace Go.AM
open Go.Proofs
noncomputable abbrev RT:Code:=cJ Try.prog (ay.ba 146)
noncomputable def xo (C:ag) (i j:Int) (ss:List V) {β:Type} (kn:(Int × Int × (List V))→Option β) (kr:(Int × Int × Bool × (List V))→Option β):Option β:=
 bif decide ((j:Int)<(ss.length:Int)) then
  bif (decide (0≤j))&&(decide (j<(ss.length:Int))) then
  (ss[(j:Int).toNat]?).bind fun x2=>
  (C ou [.int .i64 ((x2.cell 0).toInt),.int .i64 ((x2.cell 1).toInt),.list aa ((x2.cell 2).toList)]).bind fun r3=>
  bif !((V.nth r3 0).toBool) then
   bif (decide (0≤i))&&(decide (i<(ss.length:Int))) then
   (ss[(i:Int).toNat]?).bind fun x4=>
   kn (IntKind.wrap .i64 (i+1),IntKind.wrap .i64 (j+1),ss.set ((i:Int).toNat) (.agg [.int .i64 ((x2.cell 0).toInt),.int .i64 ((x2.cell 1).toInt),.list aa ((x2.cell 2).toList)]))
   else none
  else
   kn (i,IntKind.wrap .i64 (j+1),ss)
  else none
 else
  kr (i,j,decide ((j:Int)<(ss.length:Int)),ss)
noncomputable def uC (C:ag):(Int × Int × (List V))→Option ((Int × Int × (List V)) ⊕ (Int × Int × Bool × (List V))):=un fun i=>un fun j ss=>xo C i j ss (fun y=>some (.inl y)) (fun r=>some (.inr r))
noncomputable def RU (C:ag):cz:=fun β n ds k=>
 bif Nat.beq n 81 then cb J3 [true,true,true] [[0,0,0,0]] (@xo C) ds k else
 none
abbrev ac6 (C:ag) (b:ct):Prop:=cv Try.prog ay C (RU C) 146 (cL Try.prog (ay.ba 146)) (ay.sin 146).bh.length b
theorem ac7 (C:ag):ac6 C (.loop (aw [1,1,1,0,1,0,0] RT)):=
 ch J3 [true,true,true] [[0,0,0,0]] (@xo C) (by kernel_rfl) (bq (bs:=[]) (by kernel_rfl) ax) (fun ds=>by kernel_rfl) (fun i x=>by kernel_rfl) (fun i x β k=>by kernel_rfl) (fun β ds k=>by kernel_rfl)
noncomputable def KM (C:ag) (ss:List V):Option (List V):=
 (C EA [.list aa ss]).bind fun r1=>
 bif (((V.nth r1 0).toInt):Int)==(-1) then
  some [V.bool true,.list aa ss]
 else
  (Loop (uC C) ((V.nth r1 0).toInt,IntKind.wrap .i64 (((V.nth r1 0).toInt)+1),ss)).bind (un fun (cQ:Int)=>un fun (KK:Int)=>un fun (py:Bool) (eF:List V)=>
   bif (decide (0≤cQ))&&(decide (cQ≤(eF.length:Int))) then
   bif (decide (0≤cQ))&&(decide (cQ≤((eF.take ((cQ:Int).toNat)++(List.replicate (eF.length-((cQ:Int).toNat)) (V.agg [.int .i64 0,.int .i64 0,.list aa ([]:List V)])++eF.drop (((cQ:Int).toNat)+(eF.length-((cQ:Int).toNat))))).length:Int))) then
    some [V.bool false,.list aa ((eF.take ((cQ:Int).toNat)++(List.replicate (eF.length-((cQ:Int).toNat)) (V.agg [.int .i64 0,.int .i64 0,.list aa ([]:List V)])++eF.drop (((cQ:Int).toNat)+(eF.length-((cQ:Int).toNat))))).take ((cQ:Int).toNat))]
   else none
   else none)
theorem RV {ss:List V} {r:Option (List V)} (h:KM CC ss=r):CC Ez [.list aa ss]=r:=
 bc (key:=146) (L:=RU CC) (bs:=[.loop (aw [1,1,1,0,1,0,0] RT)]) (by kernel_rfl) (bD (ac7 CC) ax) (a9 (by kernel_rfl) h)
noncomputable abbrev RW:Code:=cJ Try.prog (ay.ba 145)
noncomputable def xp (C:ag) (s:List V) (t7 t8:Int) {β:Type} (kn:Int→Option β) (kr:((Int) ⊕ (Int × Bool))→Option β):Option β:=
 bif decide ((t8:Int)<t7) then
  (idx s t8).bind fun x1=>
  (C l9 [.int .i64 ((x1.cell 0).toInt),.int .i64 ((x1.cell 1).toInt),.list aa ((x1.cell 2).toList)]).bind fun r2=>
  bif (V.nth r2 0).toBool then
  kr (.inl t8)
  else
  kn (IntKind.wrap .i64 (t8+1))
 else
  kr (.inr (t8,decide ((t8:Int)<t7)))
noncomputable def uD (C:ag) (s:List V) (t7:Int):(Int)→Option ((Int) ⊕ ((Int) ⊕ (Int × Bool))):=fun t8=>xp C s t7 t8 (fun y=>some (.inl y)) (fun r=>some (.inr r))
noncomputable def RX (C:ag):cz:=fun β n ds k=>
 bif Nat.beq n 33 then cb J2 [false,false,true] [[0],[1,2,0,0]] (@xp C) ds k else
 none
abbrev ac8 (C:ag) (b:ct):Prop:=cv Try.prog ay C (RX C) 145 (cL Try.prog (ay.ba 145)) (ay.sin 145).bh.length b
theorem ac9 (C:ag):ac8 C (.loop (aw [1,0,1,0,0] RW)):=
 ch J2 [false,false,true] [[0],[1,2,0,0]] (@xp C) (by kernel_rfl) (bq (bs:=[]) (by kernel_rfl) ax) (fun ds=>by kernel_rfl) (fun i x=>by kernel_rfl) (fun i x β k=>by kernel_rfl) (fun β ds k=>by kernel_rfl)
noncomputable def KN (C:ag) (s:List V):Option (List V):=
 (Loop (uD C s (s.length:Int)) 0).bind (cq (fun (jy:Int)=>
  some [.int .i64 jy]) (un fun (mg:Int) (pw:Bool)=>
  some [.int .i64 (-1)]))
theorem RY {s:List V} {r:Option (List V)} (h:KN CC s=r):CC Af [.list aa s]=r:=
 bc (key:=145) (L:=RX CC) (bs:=[.loop (aw [1,0,1,0,0] RW)]) (by kernel_rfl) (bD (ac9 CC) ax) (a9 (by kernel_rfl) h)
noncomputable def RZ (C:ag) (s:List V):Option (List V):=
 (C Af [.list aa s]).bind fun r1=>
 some [.bool (decide ((((V.nth r1 0).toInt):Int)≥0))]
theorem ada {s:List V} {r:Option (List V)} (h:RZ CC s=r):CC IN [.list aa s]=r:=
 bc (key:=144) (L:=cf) (bs:=[]) (by kernel_rfl) ax (a9 (by kernel_rfl) h)
noncomputable abbrev R0:Code:=cJ Try.prog (ay.ba 94)
noncomputable def xq (C:ag) (i j:Int) (ss:List V) {β:Type} (kn:(Int × Int × (List V))→Option β) (kr:(Int × Int × Bool × (List V))→Option β):Option β:=
 bif decide ((j:Int)<(ss.length:Int)) then
  bif (decide (0≤j))&&(decide (j<(ss.length:Int))) then
  (ss[(j:Int).toNat]?).bind fun x2=>
  (C l9 [.int .i64 ((x2.cell 0).toInt),.int .i64 ((x2.cell 1).toInt),.list aa ((x2.cell 2).toList)]).bind fun r3=>
  bif !((V.nth r3 0).toBool) then
   bif (decide (0≤i))&&(decide (i<(ss.length:Int))) then
   (ss[(i:Int).toNat]?).bind fun x4=>
   kn (IntKind.wrap .i64 (i+1),IntKind.wrap .i64 (j+1),ss.set ((i:Int).toNat) (.agg [.int .i64 ((x2.cell 0).toInt),.int .i64 ((x2.cell 1).toInt),.list aa ((x2.cell 2).toList)]))
   else none
  else
   kn (i,IntKind.wrap .i64 (j+1),ss)
  else none
 else
  kr (i,j,decide ((j:Int)<(ss.length:Int)),ss)
noncomputable def uE (C:ag):(Int × Int × (List V))→Option ((Int × Int × (List V)) ⊕ (Int × Int × Bool × (List V))):=un fun i=>un fun j ss=>xq C i j ss (fun y=>some (.inl y)) (fun r=>some (.inr r))
noncomputable def R3 (C:ag):cz:=fun β n ds k=>
 bif Nat.beq n 81 then cb Ju [true,true,true] [[0,0,0,0]] (@xq C) ds k else
 none
abbrev adb (C:ag) (b:ct):Prop:=cv Try.prog ay C (R3 C) 94 (cL Try.prog (ay.ba 94)) (ay.sin 94).bh.length b
theorem ade (C:ag):adb C (.loop (aw [1,1,1,0,1,0,0] R0)):=
 ch Ju [true,true,true] [[0,0,0,0]] (@xq C) (by kernel_rfl) (bq (bs:=[]) (by kernel_rfl) ax) (fun ds=>by kernel_rfl) (fun i x=>by kernel_rfl) (fun i x β k=>by kernel_rfl) (fun β ds k=>by kernel_rfl)
noncomputable def KO (C:ag) (ss:List V):Option (List V):=
 (C Af [.list aa ss]).bind fun r1=>
 bif (((V.nth r1 0).toInt):Int)==(-1) then
  some [V.bool true,.list aa ss]
 else
  (Loop (uE C) ((V.nth r1 0).toInt,IntKind.wrap .i64 (((V.nth r1 0).toInt)+1),ss)).bind (un fun (cQ:Int)=>un fun (KK:Int)=>un fun (py:Bool) (eF:List V)=>
   bif (decide (0≤cQ))&&(decide (cQ≤(eF.length:Int))) then
   bif (decide (0≤cQ))&&(decide (cQ≤((eF.take ((cQ:Int).toNat)++(List.replicate (eF.length-((cQ:Int).toNat)) (V.agg [.int .i64 0,.int .i64 0,.list aa ([]:List V)])++eF.drop (((cQ:Int).toNat)+(eF.length-((cQ:Int).toNat))))).length:Int))) then
    some [V.bool false,.list aa ((eF.take ((cQ:Int).toNat)++(List.replicate (eF.length-((cQ:Int).toNat)) (V.agg [.int .i64 0,.int .i64 0,.list aa ([]:List V)])++eF.drop (((cQ:Int).toNat)+(eF.length-((cQ:Int).toNat))))).take ((cQ:Int).toNat))]
   else none
   else none)
theorem R4 {ss:List V} {r:Option (List V)} (h:KO CC ss=r):CC wH [.list aa ss]=r:=
 bc (key:=94) (L:=R3 CC) (bs:=[.loop (aw [1,1,1,0,1,0,0] R0)]) (by kernel_rfl) (bD (ade CC) ax) (a9 (by kernel_rfl) h)
end Go.AM
set_option maxRecDepth 100000
namespace Go.AM
open Go.Proofs Ex
def fq (k:Ex):Bool:=decide (k.op=1)
def fV (k:Ex):Bool:=decide (k.op=2)
theorem AN (k:Ex):CC ma (bG k [])=some [.bool (fq k)]:=by
 refine acW ?_
 unfold RG fq
 rw[AK]
theorem Fj (k:Ex):CC ou (bG k [])=some [.bool (fV k)]:=by
 refine acX ?_
 unfold RH fV
 rw[AK]
theorem AO (k:Ex):CC l9 (bG k [])=some [.bool (univ k)]:=by
 obtain ⟨o,l,ks⟩:=k
 refine acY ?_
 unfold RI univ
 simp only[Ex.op,Ex.kids,db,aP]
 by_cases h1:o=8
 ·rw[aj h1]
  match ks with
  | []=>simp
  | [k]=>
   rw[aj (by simp)]
   simp only[cw,fK,List.getElem?_cons_zero,Option.bind_some,aZ,bj,bd]
   refine (congrArg (fun o=>Option.bind o _) (AN k)).trans ?_
   simp only[h1,fq]
   simp
   rfl
  | k::k2::ks=>
   rw[ai (by simp<;>omega)]
   simp
 ·rw[ai h1];simp[h1]
theorem kP {l:List Ex} {j:Nat} (h:j<l.length):l.take (j+1)=l.take j++[l.getD j bf]:=by
 rw[List.take_succ_eq_append_getElem h];simp[h]
theorem AP {l ss:List Ex} {j:Nat} (hl:ss.length=l.length) (h:ss.drop j=l.drop j) (hj:j<l.length):ss.getD j bf=l.getD j bf:=by
 have h1:=congrArg (fun x:List Ex=>x.getD 0 bf) h
 simpa[hj,hl] using h1
theorem oE {l:List Ex} {i:Nat} (h:i<l.length):(l.map enc)[i]? =some (l.getD i bf).enc:=by simp[h]
theorem Fk (ss:List Ex) (m:Nat) (z:V) (hm:m≤ss.length):((((ss.map enc).take m++(List.replicate ((ss.map enc).length-m) z++(ss.map enc).drop (m+((ss.map enc).length-m)))).take m)=(ss.take m).map enc):=by
 rw[List.take_append_of_le_length (by simp;omega),yq (by simp;omega),List.map_take]
theorem adf {ks:List Ex} (hlen:ks.length≤1000000): ∀(av pre:List Ex),ks=pre++av→(∀k∈pre,fq k=false)→
  (ks.any fq=false∧∃t,Loop (uz CC (ks.map enc) ((ks.map enc).length:Int)) ((pre.length:Nat):Int)=some (.inr t))∨
  (∃i:Nat,i<ks.length∧fq (ks.getD i bf)=true∧(∀k∈ks.take i,fq k=false)∧Loop (uz CC (ks.map enc) ((ks.map enc).length:Int)) ((pre.length:Nat):Int)=some (.inl (i:Int))):=by
 intro av
 induction av with
 | nil=>
  intro pre aS hp
  rw[cU] at aS
  subst aS
  refine .inl ⟨xk hp,⟨(((ks.length:Nat):Int),false),aX ?_⟩⟩
  ·simp only[uz,xl,aP,az]
   rw[ai (by omega),cV (by omega)]
 | cons k av ih=>
  intro pre aS hp
  have bQ:pre.length<ks.length:=by rw[aS];simp
  have bV:idx (ks.map enc) (pre.length:Int)=some k.enc:=by rw[aS];exact fT _ _ _
  cases hk:fq k with
  | true=>
   refine .inr ⟨pre.length,bQ,by rw[aS];simpa using hk,by rw[aS];simpa using hp,aX ?_⟩
   simp only[uz,xl,aP,az]
   rw[aj (by omega),bV]
   simp only[Option.bind_some,aZ,bj,bd]
   refine (congrArg (fun o=>Option.bind o _) (AN k)).trans ?_
   simp only[Option.bind_some,V.aU,V.ek]
   rw[hk,cond_true]
  | false=>
   have bP:uz CC (ks.map enc) ((ks.map enc).length:Int) ((pre.length:Nat):Int)=some (.inl (((pre++[k]).length:Nat):Int)):=by
    simp only[uz,xl,aP,az]
    rw[aj (by omega),bV]
    simp only[Option.bind_some,aZ,bj,bd]
    refine (congrArg (fun o=>Option.bind o _) (AN k)).trans ?_
    simp only[Option.bind_some,V.aU,V.ek]
    rw[hk,cond_false,wrap64 (by omega) (by omega)]
    simp
   rw[bR bP]
   refine ih (pre++[k]) (by rw[aS];simp) fun x hx=> ?_
   rcases ey.1 hx with hx|hx
   ·exact hp x hx
   ·rw[ef.1 hx];exact hk
theorem R5 {ks:List Ex} (hlen:ks.length≤1000000):
  (ks.any fq=false∧CC qG [.list aa (ks.map enc)]=some [.int .i64 (-1)])∨
  (∃i:Nat,i<ks.length∧fq (ks.getD i bf)=true∧(∀k∈ks.take i,fq k=false)∧CC qG [.list aa (ks.map enc)]=some [.int .i64 (i:Int)]):=by
 rcases adf hlen ks [] rfl (by simp) with ⟨h1,t,U⟩|⟨i,h1,U,h3,h4⟩
 ·refine .inl ⟨h1,RL ?_⟩
  unfold KI
  refine (congrArg (fun o=>Option.bind o _) U).trans ?_
  rfl
 ·refine .inr ⟨i,h1,U,h3,RL ?_⟩
  unfold KI
  refine (congrArg (fun o=>Option.bind o _) h4).trans ?_
  rfl
theorem adg {ks:List Ex} (hlen:ks.length≤1000000):CC rX [.list aa (ks.map enc)]=some [.bool (ks.any fq)]:=by
 refine ac1 ?_
 unfold RM
 rcases R5 hlen with ⟨h1,U⟩|⟨i,h1,U,h3,h4⟩
 ·refine (congrArg (fun o=>Option.bind o _) U).trans ?_
  rw[h1];rfl
 ·refine (congrArg (fun o=>Option.bind o _) h4).trans ?_
  rw[nJ.2 ⟨_,by rw[show ks.getD i bf=ks[i] by simp[h1]];exact List.getElem_mem h1,U⟩]
  simp
theorem adh {ks:List Ex} (hn:ks.length≤1000000): ∀(d j i:Nat) (ss:List Ex),j+d=ks.length→i≤j→ss.length=ks.length→ss.take i=(ks.take j).filter (fun k=> !(fq k))→ss.drop j=ks.drop j→
  ∃t eS,Loop (uA CC) ((i:Int),(j:Int),ss.map enc)=some (((ks.filter (fun k=> !(fq k))).length:Int),(ks.length:Int),t,List.map enc eS)∧eS.take (ks.filter (fun k=> !(fq k))).length=ks.filter (fun k=> !(fq k))∧eS.length=ks.length:=by
 intro d
 induction d with
 | zero=>
  intro j i ss hj hi hl ht hd
  obtain rfl:j=ks.length:=by omega
  rw[pN] at ht
  have gF:i=(ks.filter (fun k=> !(fq k))).length:=by rw[←ht,eO];omega
  refine ⟨false,ss,aX ?_,by rw[←gF];exact ht,hl⟩
  simp only[uA,xm,un,aP,az]
  rw[ai (by omega),cV (by omega),gF]
 | succ d ih=>
  intro j i ss hj hi hl ht hd
  have b9:j<ks.length:=by omega
  have hg:=AP hl hd b9
  have iA:ss.drop (j+1)=ks.drop (j+1):=by rw[←pQ,←pQ,hd]
  have hx:(ss.map enc)[j]? =some (ks.getD j bf).enc:=by rw[oE (by omega),hg]
  have t1:((j:Nat):Int)<(ss.length:Int):=by omega
  have t2:(0:Int)≤((j:Nat):Int):=by omega
  have t3:((i:Nat):Int)<(ss.length:Int):=by omega
  have t4:(0:Int)≤((i:Nat):Int):=by omega
  have bV: ∃y,(ss.map enc)[i]? =some y:=⟨_,oE (by omega)⟩
  obtain ⟨y,hy⟩:=bV
  cases hk:fq (ks.getD j bf) with
  | true=>
   have bP:uA CC ((i:Int),(j:Int),ss.map enc)=some (.inl ((i:Int),((j+1:Nat):Int),ss.map enc)):=by
    simp only[uA,xm,un,aP,az,cO,t1,t2,cF,Int.toNat_natCast,hx,Option.bind_some,aZ,bj,bd]
    refine (congrArg (fun o=>Option.bind o _) (AN (ks.getD j bf))).trans ?_
    simp only[Option.bind_some,V.aU,V.ek]
    rw[hk,pP,cond_false,wrap64 (by omega) (by omega)]
    rfl
   rw[bR bP]
   refine ih (j+1) i ss (by omega) (by omega) hl ?_ iA
   rw[kP b9,mC,ht,oR,hk]
   simp
  | false=>
   have bP:uA CC ((i:Int),(j:Int),ss.map enc)=some (.inl (((i+1:Nat):Int),((j+1:Nat):Int),(ss.set i (ks.getD j bf)).map enc)):=by
    simp only[uA,xm,un,aP,az,cO,t1,t2,t3,t4,cF,Int.toNat_natCast,hx,hy,Option.bind_some,aZ,bj,bd]
    refine (congrArg (fun o=>Option.bind o _) (AN (ks.getD j bf))).trans ?_
    simp only[Option.bind_some,V.aU,V.ek]
    rw[hk,sP,cond_true,wrap64 (by omega) (by omega),wrap64 (by omega) (by omega),←dc,yu]
    rfl
   rw[bR bP]
   refine ih (j+1) (i+1) (ss.set i (ks.getD j bf)) (by omega) (by omega) (by simpa using hl) ?_ ?_
   ·rw[kP (by rw[nG];omega),B7 (bZ i),ht,kP b9,mC,oR,hk]
    simp[show i<ss.length by omega]
   ·rw[B8 (by omega),iA]
theorem adi {ks:List Ex} (hn:ks.length≤1000000): ∃b,CC EB [.list aa (ks.map enc)]=some [.bool b,.list aa ((ks.filter (fun k=> !(fq k))).map enc)]:=by
 rcases R5 hn with ⟨h1,U⟩|⟨i,h1,U,h3,h4⟩
 ·refine ⟨true,RP ?_⟩
  unfold KJ
  refine (congrArg (fun o=>Option.bind o _) U).trans ?_
  rw[nL.2 fun k hk=>show (!(fq k))=true by rw[any_false (p:=fq) (by rw[h1];simp) k hk];rfl]
  rfl
 ·have hf:(ks.take (i+1)).filter (fun k=> !(fq k))=ks.take i:=by
   rw[kP h1,mC,oR,U,nL.2 fun k hk=>show (!(fq k))=true by rw[h3 k hk];rfl]
   simp
  obtain ⟨t,eS,e1,e2,e3⟩:=adh hn (ks.length-(i+1)) (i+1) i ks (by omega) (by omega) rfl hf.symm rfl
  refine ⟨false,RP ?_⟩
  unfold KJ
  refine (congrArg (fun o=>Option.bind o _) h4).trans ?_
  simp only[Option.bind_some,V.aU,V.toInt_int,db]
  rw[ai (by omega),wrap64 (by omega) (by omega)]
  refine (congrArg (fun o=>Option.bind o _) e1).trans ?_
  have hm:(ks.filter (fun k=> !(fq k))).length≤eS.length:=by rw[e3];exact sQ _ _
  have t1:((((ks.filter (fun k=> !(fq k))).length:Nat):Int)≤((eS.map enc).length:Int)):=by rw[aP];omega
  simp only[Option.bind_some,un,cO,az,Int.toNat_natCast]
  rw[aj (by omega),aj t1,aj (by omega),aj (by simp only[bU,eO,sN,oO];omega),Fk _ _ _ hm,e2]
theorem adj {ks:List Ex} (hlen:ks.length≤1000000): ∀(av pre:List Ex),ks=pre++av→(∀k∈pre,fV k=false)→
  (ks.any fV=false∧∃t,Loop (uB CC (ks.map enc) ((ks.map enc).length:Int)) ((pre.length:Nat):Int)=some (.inr t))∨
  (∃i:Nat,i<ks.length∧fV (ks.getD i bf)=true∧(∀k∈ks.take i,fV k=false)∧Loop (uB CC (ks.map enc) ((ks.map enc).length:Int)) ((pre.length:Nat):Int)=some (.inl (i:Int))):=by
 intro av
 induction av with
 | nil=>
  intro pre aS hp
  rw[cU] at aS
  subst aS
  refine .inl ⟨xk hp,⟨(((ks.length:Nat):Int),false),aX ?_⟩⟩
  ·simp only[uB,xn,aP,az]
   rw[ai (by omega),cV (by omega)]
 | cons k av ih=>
  intro pre aS hp
  have bQ:pre.length<ks.length:=by rw[aS];simp
  have bV:idx (ks.map enc) (pre.length:Int)=some k.enc:=by rw[aS];exact fT _ _ _
  cases hk:fV k with
  | true=>
   refine .inr ⟨pre.length,bQ,by rw[aS];simpa using hk,by rw[aS];simpa using hp,aX ?_⟩
   simp only[uB,xn,aP,az]
   rw[aj (by omega),bV]
   simp only[Option.bind_some,aZ,bj,bd]
   refine (congrArg (fun o=>Option.bind o _) (Fj k)).trans ?_
   simp only[Option.bind_some,V.aU,V.ek]
   rw[hk,cond_true]
  | false=>
   have bP:uB CC (ks.map enc) ((ks.map enc).length:Int) ((pre.length:Nat):Int)=some (.inl (((pre++[k]).length:Nat):Int)):=by
    simp only[uB,xn,aP,az]
    rw[aj (by omega),bV]
    simp only[Option.bind_some,aZ,bj,bd]
    refine (congrArg (fun o=>Option.bind o _) (Fj k)).trans ?_
    simp only[Option.bind_some,V.aU,V.ek]
    rw[hk,cond_false,wrap64 (by omega) (by omega)]
    simp
   rw[bR bP]
   refine ih (pre++[k]) (by rw[aS];simp) fun x hx=> ?_
   rcases ey.1 hx with hx|hx
   ·exact hp x hx
   ·rw[ef.1 hx];exact hk
theorem adk {ks:List Ex} (hlen:ks.length≤1000000):
  (ks.any fV=false∧CC EA [.list aa (ks.map enc)]=some [.int .i64 (-1)])∨
  (∃i:Nat,i<ks.length∧fV (ks.getD i bf)=true∧(∀k∈ks.take i,fV k=false)∧CC EA [.list aa (ks.map enc)]=some [.int .i64 (i:Int)]):=by
 rcases adj hlen ks [] rfl (by simp) with ⟨h1,t,U⟩|⟨i,h1,U,h3,h4⟩
 ·refine .inl ⟨h1,RS ?_⟩
  unfold KL
  refine (congrArg (fun o=>Option.bind o _) U).trans ?_
  rfl
 ·refine .inr ⟨i,h1,U,h3,RS ?_⟩
  unfold KL
  refine (congrArg (fun o=>Option.bind o _) h4).trans ?_
  rfl
theorem adl {ks:List Ex} (hn:ks.length≤1000000): ∀(d j i:Nat) (ss:List Ex),j+d=ks.length→i≤j→ss.length=ks.length→ss.take i=(ks.take j).filter (fun k=> !(fV k))→ss.drop j=ks.drop j→
  ∃t eS,Loop (uC CC) ((i:Int),(j:Int),ss.map enc)=some (((ks.filter (fun k=> !(fV k))).length:Int),(ks.length:Int),t,List.map enc eS)∧eS.take (ks.filter (fun k=> !(fV k))).length=ks.filter (fun k=> !(fV k))∧eS.length=ks.length:=by
 intro d
 induction d with
 | zero=>
  intro j i ss hj hi hl ht hd
  obtain rfl:j=ks.length:=by omega
  rw[pN] at ht
  have gF:i=(ks.filter (fun k=> !(fV k))).length:=by rw[←ht,eO];omega
  refine ⟨false,ss,aX ?_,by rw[←gF];exact ht,hl⟩
  simp only[uC,xo,un,aP,az]
  rw[ai (by omega),cV (by omega),gF]
 | succ d ih=>
  intro j i ss hj hi hl ht hd
  have b9:j<ks.length:=by omega
  have hg:=AP hl hd b9
  have iA:ss.drop (j+1)=ks.drop (j+1):=by rw[←pQ,←pQ,hd]
  have hx:(ss.map enc)[j]? =some (ks.getD j bf).enc:=by rw[oE (by omega),hg]
  have t1:((j:Nat):Int)<(ss.length:Int):=by omega
  have t2:(0:Int)≤((j:Nat):Int):=by omega
  have t3:((i:Nat):Int)<(ss.length:Int):=by omega
  have t4:(0:Int)≤((i:Nat):Int):=by omega
  have bV: ∃y,(ss.map enc)[i]? =some y:=⟨_,oE (by omega)⟩
  obtain ⟨y,hy⟩:=bV
  cases hk:fV (ks.getD j bf) with
  | true=>
   have bP:uC CC ((i:Int),(j:Int),ss.map enc)=some (.inl ((i:Int),((j+1:Nat):Int),ss.map enc)):=by
    simp only[uC,xo,un,aP,az,cO,t1,t2,cF,Int.toNat_natCast,hx,Option.bind_some,aZ,bj,bd]
    refine (congrArg (fun o=>Option.bind o _) (Fj (ks.getD j bf))).trans ?_
    simp only[Option.bind_some,V.aU,V.ek]
    rw[hk,pP,cond_false,wrap64 (by omega) (by omega)]
    rfl
   rw[bR bP]
   refine ih (j+1) i ss (by omega) (by omega) hl ?_ iA
   rw[kP b9,mC,ht,oR,hk]
   simp
  | false=>
   have bP:uC CC ((i:Int),(j:Int),ss.map enc)=some (.inl (((i+1:Nat):Int),((j+1:Nat):Int),(ss.set i (ks.getD j bf)).map enc)):=by
    simp only[uC,xo,un,aP,az,cO,t1,t2,t3,t4,cF,Int.toNat_natCast,hx,hy,Option.bind_some,aZ,bj,bd]
    refine (congrArg (fun o=>Option.bind o _) (Fj (ks.getD j bf))).trans ?_
    simp only[Option.bind_some,V.aU,V.ek]
    rw[hk,sP,cond_true,wrap64 (by omega) (by omega),wrap64 (by omega) (by omega),←dc,yu]
    rfl
   rw[bR bP]
   refine ih (j+1) (i+1) (ss.set i (ks.getD j bf)) (by omega) (by omega) (by simpa using hl) ?_ ?_
   ·rw[kP (by rw[nG];omega),B7 (bZ i),ht,kP b9,mC,oR,hk]
    simp[show i<ss.length by omega]
   ·rw[B8 (by omega),iA]
theorem adm {ks:List Ex} (hn:ks.length≤1000000): ∃b,CC Ez [.list aa (ks.map enc)]=some [.bool b,.list aa ((ks.filter (fun k=> !(fV k))).map enc)]:=by
 rcases adk hn with ⟨h1,U⟩|⟨i,h1,U,h3,h4⟩
 ·refine ⟨true,RV ?_⟩
  unfold KM
  refine (congrArg (fun o=>Option.bind o _) U).trans ?_
  rw[nL.2 fun k hk=>show (!(fV k))=true by rw[any_false (p:=fV) (by rw[h1];simp) k hk];rfl]
  rfl
 ·have hf:(ks.take (i+1)).filter (fun k=> !(fV k))=ks.take i:=by
   rw[kP h1,mC,oR,U,nL.2 fun k hk=>show (!(fV k))=true by rw[h3 k hk];rfl]
   simp
  obtain ⟨t,eS,e1,e2,e3⟩:=adl hn (ks.length-(i+1)) (i+1) i ks (by omega) (by omega) rfl hf.symm rfl
  refine ⟨false,RV ?_⟩
  unfold KM
  refine (congrArg (fun o=>Option.bind o _) h4).trans ?_
  simp only[Option.bind_some,V.aU,V.toInt_int,db]
  rw[ai (by omega),wrap64 (by omega) (by omega)]
  refine (congrArg (fun o=>Option.bind o _) e1).trans ?_
  have hm:(ks.filter (fun k=> !(fV k))).length≤eS.length:=by rw[e3];exact sQ _ _
  have t1:((((ks.filter (fun k=> !(fV k))).length:Nat):Int)≤((eS.map enc).length:Int)):=by rw[aP];omega
  simp only[Option.bind_some,un,cO,az,Int.toNat_natCast]
  rw[aj (by omega),aj t1,aj (by omega),aj (by simp only[bU,eO,sN,oO];omega),Fk _ _ _ hm,e2]
theorem adn {ks:List Ex} (hlen:ks.length≤1000000): ∀(av pre:List Ex),ks=pre++av→(∀k∈pre,univ k=false)→
  (ks.any univ=false∧∃t,Loop (uD CC (ks.map enc) ((ks.map enc).length:Int)) ((pre.length:Nat):Int)=some (.inr t))∨
  (∃i:Nat,i<ks.length∧univ (ks.getD i bf)=true∧(∀k∈ks.take i,univ k=false)∧Loop (uD CC (ks.map enc) ((ks.map enc).length:Int)) ((pre.length:Nat):Int)=some (.inl (i:Int))):=by
 intro av
 induction av with
 | nil=>
  intro pre aS hp
  rw[cU] at aS
  subst aS
  refine .inl ⟨xk hp,⟨(((ks.length:Nat):Int),false),aX ?_⟩⟩
  ·simp only[uD,xp,aP,az]
   rw[ai (by omega),cV (by omega)]
 | cons k av ih=>
  intro pre aS hp
  have bQ:pre.length<ks.length:=by rw[aS];simp
  have bV:idx (ks.map enc) (pre.length:Int)=some k.enc:=by rw[aS];exact fT _ _ _
  cases hk:univ k with
  | true=>
   refine .inr ⟨pre.length,bQ,by rw[aS];simpa using hk,by rw[aS];simpa using hp,aX ?_⟩
   simp only[uD,xp,aP,az]
   rw[aj (by omega),bV]
   simp only[Option.bind_some,aZ,bj,bd]
   refine (congrArg (fun o=>Option.bind o _) (AO k)).trans ?_
   simp only[Option.bind_some,V.aU,V.ek]
   rw[hk,cond_true]
  | false=>
   have bP:uD CC (ks.map enc) ((ks.map enc).length:Int) ((pre.length:Nat):Int)=some (.inl (((pre++[k]).length:Nat):Int)):=by
    simp only[uD,xp,aP,az]
    rw[aj (by omega),bV]
    simp only[Option.bind_some,aZ,bj,bd]
    refine (congrArg (fun o=>Option.bind o _) (AO k)).trans ?_
    simp only[Option.bind_some,V.aU,V.ek]
    rw[hk,cond_false,wrap64 (by omega) (by omega)]
    simp
   rw[bR bP]
   refine ih (pre++[k]) (by rw[aS];simp) fun x hx=> ?_
   rcases ey.1 hx with hx|hx
   ·exact hp x hx
   ·rw[ef.1 hx];exact hk
theorem R6 {ks:List Ex} (hlen:ks.length≤1000000):
  (ks.any univ=false∧CC Af [.list aa (ks.map enc)]=some [.int .i64 (-1)])∨
  (∃i:Nat,i<ks.length∧univ (ks.getD i bf)=true∧(∀k∈ks.take i,univ k=false)∧CC Af [.list aa (ks.map enc)]=some [.int .i64 (i:Int)]):=by
 rcases adn hlen ks [] rfl (by simp) with ⟨h1,t,U⟩|⟨i,h1,U,h3,h4⟩
 ·refine .inl ⟨h1,RY ?_⟩
  unfold KN
  refine (congrArg (fun o=>Option.bind o _) U).trans ?_
  rfl
 ·refine .inr ⟨i,h1,U,h3,RY ?_⟩
  unfold KN
  refine (congrArg (fun o=>Option.bind o _) h4).trans ?_
  rfl
theorem ado {ks:List Ex} (hlen:ks.length≤1000000):CC IN [.list aa (ks.map enc)]=some [.bool (ks.any univ)]:=by
 refine ada ?_
 unfold RZ
 rcases R6 hlen with ⟨h1,U⟩|⟨i,h1,U,h3,h4⟩
 ·refine (congrArg (fun o=>Option.bind o _) U).trans ?_
  rw[h1];rfl
 ·refine (congrArg (fun o=>Option.bind o _) h4).trans ?_
  rw[nJ.2 ⟨_,by rw[show ks.getD i bf=ks[i] by simp[h1]];exact List.getElem_mem h1,U⟩]
  simp
theorem adp {ks:List Ex} (hn:ks.length≤1000000): ∀(d j i:Nat) (ss:List Ex),j+d=ks.length→i≤j→ss.length=ks.length→ss.take i=(ks.take j).filter (fun k=> !(univ k))→ss.drop j=ks.drop j→
  ∃t eS,Loop (uE CC) ((i:Int),(j:Int),ss.map enc)=some (((ks.filter (fun k=> !(univ k))).length:Int),(ks.length:Int),t,List.map enc eS)∧eS.take (ks.filter (fun k=> !(univ k))).length=ks.filter (fun k=> !(univ k))∧eS.length=ks.length:=by
 intro d
 induction d with
 | zero=>
  intro j i ss hj hi hl ht hd
  obtain rfl:j=ks.length:=by omega
  rw[pN] at ht
  have gF:i=(ks.filter (fun k=> !(univ k))).length:=by rw[←ht,eO];omega
  refine ⟨false,ss,aX ?_,by rw[←gF];exact ht,hl⟩
  simp only[uE,xq,un,aP,az]
  rw[ai (by omega),cV (by omega),gF]
 | succ d ih=>
  intro j i ss hj hi hl ht hd
  have b9:j<ks.length:=by omega
  have hg:=AP hl hd b9
  have iA:ss.drop (j+1)=ks.drop (j+1):=by rw[←pQ,←pQ,hd]
  have hx:(ss.map enc)[j]? =some (ks.getD j bf).enc:=by rw[oE (by omega),hg]
  have t1:((j:Nat):Int)<(ss.length:Int):=by omega
  have t2:(0:Int)≤((j:Nat):Int):=by omega
  have t3:((i:Nat):Int)<(ss.length:Int):=by omega
  have t4:(0:Int)≤((i:Nat):Int):=by omega
  have bV: ∃y,(ss.map enc)[i]? =some y:=⟨_,oE (by omega)⟩
  obtain ⟨y,hy⟩:=bV
  cases hk:univ (ks.getD j bf) with
  | true=>
   have bP:uE CC ((i:Int),(j:Int),ss.map enc)=some (.inl ((i:Int),((j+1:Nat):Int),ss.map enc)):=by
    simp only[uE,xq,un,aP,az,cO,t1,t2,cF,Int.toNat_natCast,hx,Option.bind_some,aZ,bj,bd]
    refine (congrArg (fun o=>Option.bind o _) (AO (ks.getD j bf))).trans ?_
    simp only[Option.bind_some,V.aU,V.ek]
    rw[hk,pP,cond_false,wrap64 (by omega) (by omega)]
    rfl
   rw[bR bP]
   refine ih (j+1) i ss (by omega) (by omega) hl ?_ iA
   rw[kP b9,mC,ht,oR,hk]
   simp
  | false=>
   have bP:uE CC ((i:Int),(j:Int),ss.map enc)=some (.inl (((i+1:Nat):Int),((j+1:Nat):Int),(ss.set i (ks.getD j bf)).map enc)):=by
    simp only[uE,xq,un,aP,az,cO,t1,t2,t3,t4,cF,Int.toNat_natCast,hx,hy,Option.bind_some,aZ,bj,bd]
    refine (congrArg (fun o=>Option.bind o _) (AO (ks.getD j bf))).trans ?_
    simp only[Option.bind_some,V.aU,V.ek]
    rw[hk,sP,cond_true,wrap64 (by omega) (by omega),wrap64 (by omega) (by omega),←dc,yu]
    rfl
   rw[bR bP]
   refine ih (j+1) (i+1) (ss.set i (ks.getD j bf)) (by omega) (by omega) (by simpa using hl) ?_ ?_
   ·rw[kP (by rw[nG];omega),B7 (bZ i),ht,kP b9,mC,oR,hk]
    simp[show i<ss.length by omega]
   ·rw[B8 (by omega),iA]
theorem adq {ks:List Ex} (hn:ks.length≤1000000): ∃b,CC wH [.list aa (ks.map enc)]=some [.bool b,.list aa ((ks.filter (fun k=> !(univ k))).map enc)]:=by
 rcases R6 hn with ⟨h1,U⟩|⟨i,h1,U,h3,h4⟩
 ·refine ⟨true,R4 ?_⟩
  unfold KO
  refine (congrArg (fun o=>Option.bind o _) U).trans ?_
  rw[nL.2 fun k hk=>show (!(univ k))=true by rw[any_false (p:=univ) (by rw[h1];simp) k hk];rfl]
  rfl
 ·have hf:(ks.take (i+1)).filter (fun k=> !(univ k))=ks.take i:=by
   rw[kP h1,mC,oR,U,nL.2 fun k hk=>show (!(univ k))=true by rw[h3 k hk];rfl]
   simp
  obtain ⟨t,eS,e1,e2,e3⟩:=adp hn (ks.length-(i+1)) (i+1) i ks (by omega) (by omega) rfl hf.symm rfl
  refine ⟨false,R4 ?_⟩
  unfold KO
  refine (congrArg (fun o=>Option.bind o _) h4).trans ?_
  simp only[Option.bind_some,V.aU,V.toInt_int,db]
  rw[ai (by omega),wrap64 (by omega) (by omega)]
  refine (congrArg (fun o=>Option.bind o _) e1).trans ?_
  have hm:(ks.filter (fun k=> !(univ k))).length≤eS.length:=by rw[e3];exact sQ _ _
  have t1:((((ks.filter (fun k=> !(univ k))).length:Nat):Int)≤((eS.map enc).length:Int)):=by rw[aP];omega
  simp only[Option.bind_some,un,cO,az,Int.toNat_natCast]
  rw[aj (by omega),aj t1,aj (by omega),aj (by simp only[bU,eO,sN,oO];omega),Fk _ _ _ hm,e2]
end Go.AM
set_option maxRecDepth 100000
namespace Go.AM
open Go.Proofs Go.Sort
section
variable {α:Type} {enc:α→V}
def pA (enc:α→V) (d:Array α):List V:=d.toList.map enc
theorem fE (d:Array α):(pA enc d).length=d.size:=by simp[pA]
theorem fF (d:Array α) (i:Nat) (x:α):(pA enc d).set i (enc x)=pA enc (d.setIfInBounds i x):=by
 unfold pA;rw[Array.toList_setIfInBounds,yu]
variable [Inhabited α]
theorem fG {d:Array α} {i:Nat} (h:i<d.size):(pA enc d)[i]? =some (enc d[i]!):=by
 unfold pA;rw[gv,rh,ku h,getElem!_pos d i h];rfl
theorem ib {d:Array α} {i j:Nat} {x:α} (h:i<d.size):(pA enc (d.setIfInBounds j x))[i]? =some (enc (d.setIfInBounds j x)[i]!):=fG (by rw[gx];exact h)
theorem fH (a b:Nat):(a:Int)+(b:Int)=((a+b:Nat):Int):=(Int.natCast_add a b).symm
theorem dG (a:Nat):(a:Int)+1=((a+1:Nat):Int):=rfl
theorem uF (a:Nat):((a+1:Nat):Int)-1=(a:Int):=by omega
theorem AQ (a:Nat):(a:Int)*2=((a*2:Nat):Int):=by omega
theorem mj {a b:Nat} (h:b≤a):(a:Int)-(b:Int)=((a-b:Nat):Int):=by omega
theorem kj {a:Nat} (h:1≤a):(a:Int)-1=((a-1:Nat):Int):=by omega
theorem divC (a b:Nat):Int.tdiv (a:Int) (b:Int)=((a/b:Nat):Int):=by rw[Int.tdiv_eq_ediv_of_nonneg (by omega)];rfl
theorem nk {p:Prop} [Decidable p] (h:p):decide p=true:=dM h
theorem sr {p:Prop} [Decidable p] (h: ¬p):decide p=false:=cV h
variable {lt:α→α→Bool}
theorem R7 (a j:Nat) (d:Array α):insInner lt a (j+1) d=if j+1>a&&lt d[j+1]! d[j]! then insInner lt a j (swp d (j+1) j) else d:=rfl
theorem KP {a:Nat}: ∀(j:Nat) (d:Array α),(insInner lt a j d).size=d.size
 | 0,d=>rfl
 | j+1,d=>by
  rw[R7]
  split
  ·rw[KP j,size_swp]
  ·rfl
theorem AR (hi first:Nat): ∀(n root:Nat) (d:Array α),hi-root≤n→(siftDown lt hi first root d).size=d.size:=by
 intro n
 induction n with
 | zero=>intro root d h;rw[siftDown,qZ (by omega)]
 | succ n ih=>
  intro root d h
  rw[siftDown]
  split
  ·rfl
  ·split
   ·split
    ·rfl
    ·split
     ·rw[ih _ _ (by omega),size_swp]
     ·rfl
   ·split
    ·rfl
    ·rw[ih _ _ (by omega),size_swp]
theorem KQ (hi first:Nat): ∀(k:Nat) (d:Array α),(heapBuild lt hi first k d).size=d.size
 | 0,d=>rfl
 | k+1,d=>by rw[heapBuild,KQ,AR _ _ _ _ _ (bZ _)]
end
end Go.AM
set_option maxRecDepth 100000
namespace Go.AM.SX
open Go.Proofs Ex
structure XE where
 e:Ex
 ok:e.Ok
instance:Inhabited XE:=⟨⟨.node 0 0 [],.node (by omega) (by omega) (by simp) (by simp)⟩⟩
namespace XE
def enc (x:XE):V:=x.e.enc
theorem aZ (x:XE):(x.enc.cell 0).toInt=x.e.op:=Go.AM.aZ x.e
theorem bj (x:XE):(x.enc.cell 1).toInt=x.e.aY:=Go.AM.bj x.e
theorem bd (x:XE):(x.enc.cell 2).toList=x.e.kids.map Ex.enc:=Go.AM.bd x.e
theorem re (x:XE):V.agg [.int .i64 x.e.op,.int .i64 x.e.aY,.list aa (x.e.kids.map Ex.enc)]=x.enc:=(Ex.dc x.e).symm
end XE
def bW (a b:XE):Int:=cmp a.e b.e
theorem gp (a b:XE):CC bn [.int .i64 a.e.op,.int .i64 a.e.aY,.list aa (a.e.kids.map Ex.enc),.int .i64 b.e.op,.int .i64 b.e.aY,.list aa (b.e.kids.map Ex.enc)]=some [.int .i64 (bW a b)]:=
 QV a.e a.ok b.e b.ok
def XE.lt (a b:XE):Prop:=bW a b<0
theorem XE.lt_irrefl (a:XE): ¬a.lt a:=by unfold XE.lt bW;rw[Ar];omega
theorem adr {a b c:Ex} (h1:cmp a b<0) (U:cmp b c<0):cmp a c<0:=by
 have h3:=Kf a b c (by omega) (by omega)
 refine Decidable.byContradiction fun h=> ?_
 have h0:cmp a c=0:=by omega
 have:=uu a c h0
 subst this
 have:=sf a b
 omega
theorem XE.lt_trans {a b c:XE} (h1:a.lt b) (U:b.lt c):a.lt c:=adr h1 U
theorem XE.ads {a b c:XE} (h1: ¬a.lt b) (U: ¬b.lt c): ¬a.lt c:=by
 unfold XE.lt bW at*
 have a1:=sf a.e b.e
 have a2:=sf b.e c.e
 have a3:=sf a.e c.e
 have:=Kf c.e b.e a.e (by omega) (by omega)
 omega
end Go.AM.SX
set_option maxRecDepth 100000
namespace Go.AM
open Go.Proofs
noncomputable abbrev Fl:Code:=cJ Try.prog (ay.ba 111)
noncomputable def xr (C:ag) (a b' i j:Int) (ak:List V) {β:Type} (kn:(Int × (List V))→Option β) (kr:(Int × Bool × (List V))→Option β):Option β:=
 bif decide ((j:Int)>a) then
  bif (decide (0≤j))&&(decide (j<(ak.length:Int))) then
  (ak[(j:Int).toNat]?).bind fun x1=>
  bif (decide (0≤(IntKind.wrap .i64 (j-1))))&&(decide ((IntKind.wrap .i64 (j-1))<(ak.length:Int))) then
   (ak[(IntKind.wrap .i64 (j-1):Int).toNat]?).bind fun x2=>
   (C bn [.int .i64 ((x1.cell 0).toInt),.int .i64 ((x1.cell 1).toInt),.list aa ((x1.cell 2).toList),.int .i64 ((x2.cell 0).toInt),.int .i64 ((x2.cell 1).toInt),.list aa ((x2.cell 2).toList)]).bind fun r3=>
   bif decide ((((V.nth r3 0).toInt):Int)<0) then
   bif (decide (0≤(IntKind.wrap .i64 (j-1))))&&(decide ((IntKind.wrap .i64 (j-1))<(ak.length:Int))) then
    (ak[(IntKind.wrap .i64 (j-1):Int).toNat]?).bind fun x4=>
    bif (decide (0≤j))&&(decide (j<(ak.length:Int))) then
    (ak[(j:Int).toNat]?).bind fun x5=>
    bif (decide (0≤j))&&(decide (j<(ak.length:Int))) then
     (ak[(j:Int).toNat]?).bind fun x6=>
     bif (decide (0≤(IntKind.wrap .i64 (j-1))))&&(decide ((IntKind.wrap .i64 (j-1))<((ak.set ((j:Int).toNat) (.agg [.int .i64 ((x4.cell 0).toInt),.int .i64 ((x4.cell 1).toInt),.list aa ((x4.cell 2).toList)])).length:Int))) then
     ((ak.set ((j:Int).toNat) (.agg [.int .i64 ((x4.cell 0).toInt),.int .i64 ((x4.cell 1).toInt),.list aa ((x4.cell 2).toList)]))[(IntKind.wrap .i64 (j-1):Int).toNat]?).bind fun x7=>
     kn (IntKind.wrap .i64 (j-1),(ak.set ((j:Int).toNat) (.agg [.int .i64 ((x4.cell 0).toInt),.int .i64 ((x4.cell 1).toInt),.list aa ((x4.cell 2).toList)])).set ((IntKind.wrap .i64 (j-1):Int).toNat) (.agg [.int .i64 ((x5.cell 0).toInt),.int .i64 ((x5.cell 1).toInt),.list aa ((x5.cell 2).toList)]))
     else none
    else none
    else none
   else none
   else
   kr (j,decide ((((V.nth r3 0).toInt):Int)<0),ak)
  else none
  else none
 else
  kr (j,false,ak)
noncomputable def xt (C:ag) (a b' i:Int):(Int × (List V))→Option ((Int × (List V)) ⊕ (Int × Bool × (List V))):=un fun j ak=>xr C a b' i j ak (fun y=>some (.inl y)) (fun r=>some (.inr r))
noncomputable def AS (C:ag) (a b' i:Int) (ak:List V) {β:Type} (kn:(Int × (List V))→Option β) (kr:(Int × Bool × (List V))→Option β):Option β:=
 bif decide ((i:Int)<b') then
  (Loop (xt C a b' i) (i,ak)).bind (un fun (j_8:Int)=>un fun (sc:Bool) (oF:List V)=>
   kn (IntKind.wrap .i64 (i+1),oF))
 else
  kr (i,decide ((i:Int)<b'),ak)
noncomputable def Fm (C:ag) (a b':Int):(Int × (List V))→Option ((Int × (List V)) ⊕ (Int × Bool × (List V))):=un fun i ak=>AS C a b' i ak (fun y=>some (.inl y)) (fun r=>some (.inr r))
noncomputable def R8 (C:ag):cz:=fun β n ds k=>
 bif Nat.beq n 65 then cb JC [false,false,false,true,true] [[1,2,3,0,0,0]] (@xr C) ds k else
 bif Nat.beq n 17 then cb JD [false,false,true,true] [[1,2,0,0,0]] (@AS C) ds k else
 none
abbrev R9 (C:ag) (b:ct):Prop:=cv Try.prog ay C (R8 C) 111 (cL Try.prog (ay.ba 111)) (ay.sin 111).bh.length b
theorem adt (C:ag):R9 C (.loop (aw [1,0,0,1,0,0,1,0,0] Fl)):=
 ch JC [false,false,false,true,true] [[1,2,3,0,0,0]] (@xr C) (by kernel_rfl) (bq (bs:=[]) (by kernel_rfl) ax) (fun ds=>by kernel_rfl) (fun i x=>by kernel_rfl) (fun i x β k=>by kernel_rfl) (fun β ds k=>by kernel_rfl)
theorem adu (C:ag):R9 C (.loop (aw [1,0,0] Fl)):=
 ch JD [false,false,true,true] [[1,2,0,0,0]] (@AS C) (by kernel_rfl) (bq (bs:=[.loop (aw [1,0,0,1,0,0,1,0,0] Fl)]) (by kernel_rfl) (bD (adt C) ax)) (fun ds=>by kernel_rfl) (fun i x=>by kernel_rfl) (fun i x β k=>by kernel_rfl) (fun β ds k=>by kernel_rfl)
noncomputable def Sa (C:ag) (a b':Int) (ak:List V):Option (List V):=
 (Loop (Fm C a b') (IntKind.wrap .i64 (a+1),ak)).bind (un fun (aiO:Int)=>un fun (EU:Bool) (KR:List V)=>
  some [.list aa KR])
theorem adv {a b':Int} {ak:List V} {r:Option (List V)} (h:Sa CC a b' ak=r):CC Aa [.int .i64 a,.int .i64 b',.list aa ak]=r:=
 bc (key:=111) (L:=R8 CC) (bs:=[.loop (aw [1,0,0] Fl)]) (by kernel_rfl) (bD (adu CC) ax) (a9 (by kernel_rfl) h)
noncomputable abbrev xu:Code:=cJ Try.prog (ay.ba 121)
noncomputable def uG (C:ag) (hi first root child:Int) (t40:Bool) (ak:List V) {β:Type} (kr:(Int)→Option β):Option β:=
 bif t40 then
  kr (IntKind.wrap .i64 (child+1))
 else
  kr child
noncomputable def su (C:ag) (hi first root:Int) (ak:List V) {β:Type} (kn:(Int × (List V))→Option β) (kr:((Int × Int × Bool × (List V)) ⊕ (Int × Int × Bool × (List V)))→Option β):Option β:=
 bif decide (((IntKind.wrap .i64 ((IntKind.wrap .i64 (root*2))+1)):Int)≥hi) then
  kr (.inl (root,IntKind.wrap .i64 ((IntKind.wrap .i64 (root*2))+1),decide (((IntKind.wrap .i64 ((IntKind.wrap .i64 (root*2))+1)):Int)≥hi),ak))
 else
  bif decide (((IntKind.wrap .i64 ((IntKind.wrap .i64 ((IntKind.wrap .i64 (root*2))+1))+1)):Int)<hi) then
  bif (decide (0≤(IntKind.wrap .i64 (first+(IntKind.wrap .i64 ((IntKind.wrap .i64 (root*2))+1))))))&&(decide ((IntKind.wrap .i64 (first+(IntKind.wrap .i64 ((IntKind.wrap .i64 (root*2))+1))))<(ak.length:Int))) then
   (ak[(IntKind.wrap .i64 (first+(IntKind.wrap .i64 ((IntKind.wrap .i64 (root*2))+1))):Int).toNat]?).bind fun x1=>
   bif (decide (0≤(IntKind.wrap .i64 ((IntKind.wrap .i64 (first+(IntKind.wrap .i64 ((IntKind.wrap .i64 (root*2))+1))))+1))))&&(decide ((IntKind.wrap .i64 ((IntKind.wrap .i64 (first+(IntKind.wrap .i64 ((IntKind.wrap .i64 (root*2))+1))))+1))<(ak.length:Int))) then
   (ak[(IntKind.wrap .i64 ((IntKind.wrap .i64 (first+(IntKind.wrap .i64 ((IntKind.wrap .i64 (root*2))+1))))+1):Int).toNat]?).bind fun x2=>
   (C bn [.int .i64 ((x1.cell 0).toInt),.int .i64 ((x1.cell 1).toInt),.list aa ((x1.cell 2).toList),.int .i64 ((x2.cell 0).toInt),.int .i64 ((x2.cell 1).toInt),.list aa ((x2.cell 2).toList)]).bind fun r3=>
   uG C hi first root (IntKind.wrap .i64 ((IntKind.wrap .i64 (root*2))+1)) (decide ((((V.nth r3 0).toInt):Int)<0)) ak (fun (nn:Int)=>
    bif (decide (0≤(IntKind.wrap .i64 (first+root))))&&(decide ((IntKind.wrap .i64 (first+root))<(ak.length:Int))) then
     (ak[(IntKind.wrap .i64 (first+root):Int).toNat]?).bind fun x5=>
     bif (decide (0≤(IntKind.wrap .i64 (first+nn))))&&(decide ((IntKind.wrap .i64 (first+nn))<(ak.length:Int))) then
     (ak[(IntKind.wrap .i64 (first+nn):Int).toNat]?).bind fun x6=>
     (C bn [.int .i64 ((x5.cell 0).toInt),.int .i64 ((x5.cell 1).toInt),.list aa ((x5.cell 2).toList),.int .i64 ((x6.cell 0).toInt),.int .i64 ((x6.cell 1).toInt),.list aa ((x6.cell 2).toList)]).bind fun r7=>
     bif !(decide ((((V.nth r7 0).toInt):Int)<0)) then
      kr (.inr (root,nn,!(decide ((((V.nth r7 0).toInt):Int)<0)),ak))
     else
      bif (decide (0≤(IntKind.wrap .i64 (first+nn))))&&(decide ((IntKind.wrap .i64 (first+nn))<(ak.length:Int))) then
      (ak[(IntKind.wrap .i64 (first+nn):Int).toNat]?).bind fun x8=>
      bif (decide (0≤(IntKind.wrap .i64 (first+root))))&&(decide ((IntKind.wrap .i64 (first+root))<(ak.length:Int))) then
       (ak[(IntKind.wrap .i64 (first+root):Int).toNat]?).bind fun x9=>
       bif (decide (0≤(IntKind.wrap .i64 (first+root))))&&(decide ((IntKind.wrap .i64 (first+root))<(ak.length:Int))) then
       (ak[(IntKind.wrap .i64 (first+root):Int).toNat]?).bind fun np=>
       bif (decide (0≤(IntKind.wrap .i64 (first+nn))))&&(decide ((IntKind.wrap .i64 (first+nn))<((ak.set ((IntKind.wrap .i64 (first+root):Int).toNat) (.agg [.int .i64 ((x8.cell 0).toInt),.int .i64 ((x8.cell 1).toInt),.list aa ((x8.cell 2).toList)])).length:Int))) then
        ((ak.set ((IntKind.wrap .i64 (first+root):Int).toNat) (.agg [.int .i64 ((x8.cell 0).toInt),.int .i64 ((x8.cell 1).toInt),.list aa ((x8.cell 2).toList)]))[(IntKind.wrap .i64 (first+nn):Int).toNat]?).bind fun eT=>
        kn (nn,(ak.set ((IntKind.wrap .i64 (first+root):Int).toNat) (.agg [.int .i64 ((x8.cell 0).toInt),.int .i64 ((x8.cell 1).toInt),.list aa ((x8.cell 2).toList)])).set ((IntKind.wrap .i64 (first+nn):Int).toNat) (.agg [.int .i64 ((x9.cell 0).toInt),.int .i64 ((x9.cell 1).toInt),.list aa ((x9.cell 2).toList)]))
       else none
       else none
      else none
      else none
     else none
    else none)
   else none
  else none
  else
  uG C hi first root (IntKind.wrap .i64 ((IntKind.wrap .i64 (root*2))+1)) false ak (fun (nq:Int)=>
   bif (decide (0≤(IntKind.wrap .i64 (first+root))))&&(decide ((IntKind.wrap .i64 (first+root))<(ak.length:Int))) then
    (ak[(IntKind.wrap .i64 (first+root):Int).toNat]?).bind fun jG=>
    bif (decide (0≤(IntKind.wrap .i64 (first+nq))))&&(decide ((IntKind.wrap .i64 (first+nq))<(ak.length:Int))) then
    (ak[(IntKind.wrap .i64 (first+nq):Int).toNat]?).bind fun nr=>
    (C bn [.int .i64 ((jG.cell 0).toInt),.int .i64 ((jG.cell 1).toInt),.list aa ((jG.cell 2).toList),.int .i64 ((nr.cell 0).toInt),.int .i64 ((nr.cell 1).toInt),.list aa ((nr.cell 2).toList)]).bind fun nt=>
    bif !(decide ((((V.nth nt 0).toInt):Int)<0)) then
     kr (.inr (root,nq,!(decide ((((V.nth nt 0).toInt):Int)<0)),ak))
    else
     bif (decide (0≤(IntKind.wrap .i64 (first+nq))))&&(decide ((IntKind.wrap .i64 (first+nq))<(ak.length:Int))) then
     (ak[(IntKind.wrap .i64 (first+nq):Int).toNat]?).bind fun e9=>
     bif (decide (0≤(IntKind.wrap .i64 (first+root))))&&(decide ((IntKind.wrap .i64 (first+root))<(ak.length:Int))) then
      (ak[(IntKind.wrap .i64 (first+root):Int).toNat]?).bind fun qL=>
      bif (decide (0≤(IntKind.wrap .i64 (first+root))))&&(decide ((IntKind.wrap .i64 (first+root))<(ak.length:Int))) then
      (ak[(IntKind.wrap .i64 (first+root):Int).toNat]?).bind fun jc=>
      bif (decide (0≤(IntKind.wrap .i64 (first+nq))))&&(decide ((IntKind.wrap .i64 (first+nq))<((ak.set ((IntKind.wrap .i64 (first+root):Int).toNat) (.agg [.int .i64 ((e9.cell 0).toInt),.int .i64 ((e9.cell 1).toInt),.list aa ((e9.cell 2).toList)])).length:Int))) then
       ((ak.set ((IntKind.wrap .i64 (first+root):Int).toNat) (.agg [.int .i64 ((e9.cell 0).toInt),.int .i64 ((e9.cell 1).toInt),.list aa ((e9.cell 2).toList)]))[(IntKind.wrap .i64 (first+nq):Int).toNat]?).bind fun pB=>
       kn (nq,(ak.set ((IntKind.wrap .i64 (first+root):Int).toNat) (.agg [.int .i64 ((e9.cell 0).toInt),.int .i64 ((e9.cell 1).toInt),.list aa ((e9.cell 2).toList)])).set ((IntKind.wrap .i64 (first+nq):Int).toNat) (.agg [.int .i64 ((qL.cell 0).toInt),.int .i64 ((qL.cell 1).toInt),.list aa ((qL.cell 2).toList)]))
      else none
      else none
     else none
     else none
    else none
   else none)
noncomputable def oG (C:ag) (hi first:Int):(Int × (List V))→Option ((Int × (List V)) ⊕ ((Int × Int × Bool × (List V)) ⊕ (Int × Int × Bool × (List V)))):=un fun root ak=>su C hi first root ak (fun y=>some (.inl y)) (fun r=>some (.inr r))
noncomputable def Sb (C:ag):cz:=fun β n ds k=>
 bif Nat.beq n 655 then iJ J0 [[1,2,3,0,6]] (@uG C) ds k else
 bif Nat.beq n 17 then cb J1 [false,false,true,true] [[1,2,0,0,0,0],[1,2,0,0,0,0]] (@su C) ds k else
 none
abbrev Sd (C:ag) (b:ct):Prop:=cv Try.prog ay C (Sb C) 121 (cL Try.prog (ay.ba 121)) (ay.sin 121).bh.length b
theorem adw (C:ag):Sd C (.cond 40 (aw [1,0,0,0,1,1,0,1,0] xu) (aw [1,0,0,0,1,1,0,1,1] xu)):=
 iZ J0 [[1,2,3,0,6]] (@uG C) (by kernel_rfl) (bq (bs:=[]) (by kernel_rfl) ax) (bq (bs:=[]) (by kernel_rfl) ax) (fun ds=>by kernel_rfl) (fun i β k=>by kernel_rfl) (fun β ds k=>by kernel_rfl)
theorem adx (C:ag):Sd C (.loop (aw [1,0,0] xu)):=
 ch J1 [false,false,true,true] [[1,2,0,0,0,0],[1,2,0,0,0,0]] (@su C) (by kernel_rfl) (bq (bs:=[.cond 40 (aw [1,0,0,0,1,1,0,1,0] xu) (aw [1,0,0,0,1,1,0,1,1] xu)]) (by kernel_rfl) (bD (adw C) ax)) (fun ds=>by kernel_rfl) (fun i x=>by kernel_rfl) (fun i x β k=>by kernel_rfl) (fun β ds k=>by kernel_rfl)
noncomputable def Se (C:ag) (lo hi first:Int) (ak:List V):Option (List V):=
 (Loop (oG C hi first) (lo,ak)).bind (cq (un fun (aiP:Int)=>un fun (aiQ:Int)=>un fun (EW:Bool) (ady:List V)=>
  some [.list aa ady]) (un fun (aiR:Int)=>un fun (aiS:Int)=>un fun (Ql:Bool) (qM:List V)=>
  some [.list aa qM]))
theorem adz {lo hi first:Int} {ak:List V} {r:Option (List V)} (h:Se CC lo hi first ak=r):CC Ad [.int .i64 lo,.int .i64 hi,.int .i64 first,.list aa ak]=r:=
 bc (key:=121) (L:=Sb CC) (bs:=[.loop (aw [1,0,0] xu)]) (by kernel_rfl) (bD (adx CC) ax) (a9 (by kernel_rfl) h)
noncomputable abbrev Fo:Code:=cJ Try.prog (ay.ba 112)
noncomputable def AT (C:ag) (first lo hi i:Int) (ak:List V) {β:Type} (kn:(Int × (List V))→Option β) (kr:(Int × Bool × (List V))→Option β):Option β:=
 bif decide ((i:Int)≥0) then
  (C Ad [.int .i64 i,.int .i64 hi,.int .i64 first,.list aa ak]).bind fun r1=>
  kn (IntKind.wrap .i64 (i-1),(V.nth r1 0).toList)
 else
  kr (i,decide ((i:Int)≥0),ak)
noncomputable def Fp (C:ag) (first lo hi:Int):(Int × (List V))→Option ((Int × (List V)) ⊕ (Int × Bool × (List V))):=un fun i ak=>AT C first lo hi i ak (fun y=>some (.inl y)) (fun r=>some (.inr r))
noncomputable def AU (C:ag) (first lo i:Int) (ak:List V) {β:Type} (kn:(Int × (List V))→Option β) (kr:(Int × Bool × (List V))→Option β):Option β:=
 bif decide ((i:Int)≥0) then
  bif (decide (0≤(IntKind.wrap .i64 (first+i))))&&(decide ((IntKind.wrap .i64 (first+i))<(ak.length:Int))) then
  (ak[(IntKind.wrap .i64 (first+i):Int).toNat]?).bind fun x5=>
  bif (decide (0≤first))&&(decide (first<(ak.length:Int))) then
   (ak[(first:Int).toNat]?).bind fun x6=>
   bif (decide (0≤first))&&(decide (first<(ak.length:Int))) then
   (ak[(first:Int).toNat]?).bind fun x7=>
   bif (decide (0≤(IntKind.wrap .i64 (first+i))))&&(decide ((IntKind.wrap .i64 (first+i))<((ak.set ((first:Int).toNat) (.agg [.int .i64 ((x5.cell 0).toInt),.int .i64 ((x5.cell 1).toInt),.list aa ((x5.cell 2).toList)])).length:Int))) then
    ((ak.set ((first:Int).toNat) (.agg [.int .i64 ((x5.cell 0).toInt),.int .i64 ((x5.cell 1).toInt),.list aa ((x5.cell 2).toList)]))[(IntKind.wrap .i64 (first+i):Int).toNat]?).bind fun x8=>
    (C Ad [.int .i64 lo,.int .i64 i,.int .i64 first,.list aa ((ak.set ((first:Int).toNat) (.agg [.int .i64 ((x5.cell 0).toInt),.int .i64 ((x5.cell 1).toInt),.list aa ((x5.cell 2).toList)])).set ((IntKind.wrap .i64 (first+i):Int).toNat) (.agg [.int .i64 ((x6.cell 0).toInt),.int .i64 ((x6.cell 1).toInt),.list aa ((x6.cell 2).toList)]))]).bind fun r9=>
    kn (IntKind.wrap .i64 (i-1),(V.nth r9 0).toList)
   else none
   else none
  else none
  else none
 else
  kr (i,decide ((i:Int)≥0),ak)
noncomputable def Fq (C:ag) (first lo:Int):(Int × (List V))→Option ((Int × (List V)) ⊕ (Int × Bool × (List V))):=un fun i ak=>AU C first lo i ak (fun y=>some (.inl y)) (fun r=>some (.inr r))
noncomputable def Sf (C:ag):cz:=fun β n ds k=>
 bif Nat.beq n 65 then cb JE [false,false,false,true,true] [[1,2,3,0,0,0]] (@AT C) ds k else
 bif Nat.beq n 129 then cb JF [false,false,true,true] [[1,2,0,0,0]] (@AU C) ds k else
 none
abbrev Sg (C:ag) (b:ct):Prop:=cv Try.prog ay C (Sf C) 112 (cL Try.prog (ay.ba 112)) (ay.sin 112).bh.length b
theorem adA (C:ag):Sg C (.loop (aw [1,1,1,0,1,0,0] Fo)):=
 ch JE [false,false,false,true,true] [[1,2,3,0,0,0]] (@AT C) (by kernel_rfl) (bq (bs:=[]) (by kernel_rfl) ax) (fun ds=>by kernel_rfl) (fun i x=>by kernel_rfl) (fun i x β k=>by kernel_rfl) (fun β ds k=>by kernel_rfl)
theorem adB (C:ag):Sg C (.loop (aw [1,1,1,1,1,0,0] Fo)):=
 ch JF [false,false,true,true] [[1,2,0,0,0]] (@AU C) (by kernel_rfl) (bq (bs:=[]) (by kernel_rfl) ax) (fun ds=>by kernel_rfl) (fun i x=>by kernel_rfl) (fun i x β k=>by kernel_rfl) (fun β ds k=>by kernel_rfl)
noncomputable def Sh (C:ag) (a b':Int) (ak:List V):Option (List V):=
 (Loop (Fp C a 0 (IntKind.wrap .i64 (b'-a))) (IntKind.wrap .i64 (Int.tdiv (IntKind.wrap .i64 ((IntKind.wrap .i64 (b'-a))-1)) 2),ak)).bind (un fun (i_2:Int)=>un fun (jy:Bool) (adC:List V)=>
  (Loop (Fq C a 0) (IntKind.wrap .i64 ((IntKind.wrap .i64 (b'-a))-1),adC)).bind (un fun (aiT:Int)=>un fun (ET:Bool) (ml:List V)=>
   some [.list aa ml]))
theorem adD {a b':Int} {ak:List V} {r:Option (List V)} (h:Sh CC a b' ak=r):CC Ab [.int .i64 a,.int .i64 b',.list aa ak]=r:=
 bc (key:=112) (L:=Sf CC) (bs:=[.loop (aw [1,1,1,0,1,0,0] Fo),.loop (aw [1,1,1,1,1,0,0] Fo)]) (by kernel_rfl) (bD (adA CC) (bD (adB CC) ax)) (a9 (by kernel_rfl) h)
noncomputable abbrev Si:Code:=cJ Try.prog (ay.ba 115)
noncomputable def xw (C:ag) (i j:Int) (ak:List V) {β:Type} (kn:(Int × Int × (List V))→Option β) (kr:(Int × Int × Bool × (List V))→Option β):Option β:=
 bif decide ((i:Int)<j) then
  bif (decide (0≤j))&&(decide (j<(ak.length:Int))) then
  (ak[(j:Int).toNat]?).bind fun x1=>
  bif (decide (0≤i))&&(decide (i<(ak.length:Int))) then
   (ak[(i:Int).toNat]?).bind fun x2=>
   bif (decide (0≤i))&&(decide (i<(ak.length:Int))) then
   (ak[(i:Int).toNat]?).bind fun x3=>
   bif (decide (0≤j))&&(decide (j<((ak.set ((i:Int).toNat) (.agg [.int .i64 ((x1.cell 0).toInt),.int .i64 ((x1.cell 1).toInt),.list aa ((x1.cell 2).toList)])).length:Int))) then
    ((ak.set ((i:Int).toNat) (.agg [.int .i64 ((x1.cell 0).toInt),.int .i64 ((x1.cell 1).toInt),.list aa ((x1.cell 2).toList)]))[(j:Int).toNat]?).bind fun x4=>
    kn (IntKind.wrap .i64 (i+1),IntKind.wrap .i64 (j-1),(ak.set ((i:Int).toNat) (.agg [.int .i64 ((x1.cell 0).toInt),.int .i64 ((x1.cell 1).toInt),.list aa ((x1.cell 2).toList)])).set ((j:Int).toNat) (.agg [.int .i64 ((x2.cell 0).toInt),.int .i64 ((x2.cell 1).toInt),.list aa ((x2.cell 2).toList)]))
   else none
   else none
  else none
  else none
 else
  kr (i,j,decide ((i:Int)<j),ak)
noncomputable def AV (C:ag):(Int × Int × (List V))→Option ((Int × Int × (List V)) ⊕ (Int × Int × Bool × (List V))):=un fun i=>un fun j ak=>xw C i j ak (fun y=>some (.inl y)) (fun r=>some (.inr r))
noncomputable def Sj (C:ag):cz:=fun β n ds k=>
 bif Nat.beq n 33 then cb JK [true,true,true] [[0,0,0,0]] (@xw C) ds k else
 none
abbrev adE (C:ag) (b:ct):Prop:=cv Try.prog ay C (Sj C) 115 (cL Try.prog (ay.ba 115)) (ay.sin 115).bh.length b
theorem adF (C:ag):adE C (.loop (aw [1,1,0,0] Si)):=
 ch JK [true,true,true] [[0,0,0,0]] (@xw C) (by kernel_rfl) (bq (bs:=[]) (by kernel_rfl) ax) (fun ds=>by kernel_rfl) (fun i x=>by kernel_rfl) (fun i x β k=>by kernel_rfl) (fun β ds k=>by kernel_rfl)
noncomputable def Sk (C:ag) (a b':Int) (ak:List V):Option (List V):=
 (Loop (AV C) (a,IntKind.wrap .i64 (b'-1),ak)).bind (un fun (cQ:Int)=>un fun (KK:Int)=>un fun (py:Bool) (adG:List V)=>
  some [.list aa adG])
theorem adH {a b':Int} {ak:List V} {r:Option (List V)} (h:Sk CC a b' ak=r):CC Et [.int .i64 a,.int .i64 b',.list aa ak]=r:=
 bc (key:=115) (L:=Sj CC) (bs:=[.loop (aw [1,1,0,0] Si)]) (by kernel_rfl) (bD (adF CC) ax) (a9 (by kernel_rfl) h)
end Go.AM
set_option maxRecDepth 100000
set_option maxHeartbeats 4000000
namespace Go.AM.SX
open Go.Proofs Go.Sort
def aA (a b:XE):Bool:=decide (bW a b<0)
theorem sw (a b:XE):(aA a b=true)=(bW a b<0):=by unfold aA;rw[dW]
theorem qN (a b:XE):((!aA a b)=true)= ¬(bW a b<0):=by unfold aA;simp
abbrev eA (d:Array XE):List V:=pA XE.enc d
theorem adI (a j:Nat) (d:Array XE):insInner aA a (j+1) d=if j+1>a then (if bW d[j+1]! d[j]! <0 then insInner aA a j (swp d (j+1) j) else d) else d:=by
 rw[R7]
 by_cases h1:j+1>a
 ·rw[aj h1];simp only[h1,ra,lH,sw]
 ·rw[ai h1,ai (by simp[h1])]
theorem KS (hi first root:Nat) (d:Array XE):siftDown aA hi first root d=
  if 2*root+1≥hi then d else
   if 2*root+2<hi then
    (if bW d[first+(2*root+1)]! d[first+(2*root+2)]! <0 then
     (if bW d[first+root]! d[first+(2*root+2)]! <0 then siftDown aA hi first (2*root+2) (swp d (first+root) (first+(2*root+2))) else d)
    else (if bW d[first+root]! d[first+(2*root+1)]! <0 then siftDown aA hi first (2*root+1) (swp d (first+root) (first+(2*root+1))) else d))
   else (if bW d[first+root]! d[first+(2*root+1)]! <0 then siftDown aA hi first (2*root+1) (swp d (first+root) (first+(2*root+1))) else d):=by
 rw[siftDown]
 by_cases h1:2*root+1≥hi
 ·rw[qZ h1,aj h1]
 rw[dif_neg h1,ai h1]
 by_cases U:2*root+2<hi
 ·rw[aj U]
  by_cases h3:bW d[first+(2*root+1)]! d[first+(2*root+2)]! <0
  ·rw[aj h3,aj (by simp only[aK,dW,sw];exact ⟨U,h3⟩)]
   simp only[qN]
   by_cases h4:bW d[first+root]! d[first+(2*root+2)]! <0
   ·rw[ai (pR h4),qZ U,aj h4]
   ·rw[aj h4,ai h4]
  ·rw[ai h3,ai (by simp only[aK,dW,sw];exact fun h=>h3 h.2)]
   simp only[qN]
   by_cases h4:bW d[first+root]! d[first+(2*root+1)]! <0
   ·rw[ai (pR h4),aj h4]
   ·rw[aj h4,ai h4]
 ·rw[ai U,ai (by simp only[aK,dW,sw];exact fun h=>U h.1)]
  simp only[qN]
  by_cases h4:bW d[first+root]! d[first+(2*root+1)]! <0
  ·rw[ai (pR h4),aj h4]
  ·rw[aj h4,ai h4]
theorem Sl {a b i:Nat}: ∀(j:Nat) (d:Array XE),j<d.size→d.size<1152921504606846976→
  ∃j' t,Loop (xt CC a b i) ((j:Int),eA d)=some (j',t,eA (insInner aA a j d))
 | 0,d,hj,hs=>⟨(0:Nat),false,aX (by
   simp (disch:=omega) only[xt,xr,un,az,ai]
   rfl)⟩
 | j+1,d,hj,hs=>by
  obtain ⟨j',t,ih⟩:=Sl (a:=a) (b:=b) (i:=i) j (swp d (j+1) j) (by rw[size_swp];omega) (by rw[size_swp];omega)
  rw[adI]
  by_cases h1:j+1>a
  ·rw[aj h1]
   have e:xt CC a b i (((j+1:Nat):Int),eA d)=if bW d[j+1]! d[j]! <0 then some (.inl ((j:Int),eA (swp d (j+1) j))) else some (.inr (((j+1:Nat):Int),decide (bW d[j+1]! d[j]! <0),eA d)):=by
    simp (disch:=omega) only[xt,xr,un,az,cO,gJ,aj,ai,wrap64,dG,fH,Int.toNat_natCast,Option.bind_some,fE,fG,XE.aZ,XE.bj,XE.bd,XE.re,fF,ib,gx,gp,V.aU,V.toInt_int,cond_true,cond_false,uF]
    rfl
   by_cases U:bW d[j+1]! d[j]! <0
   ·rw[aj U] at e⊢
    exact ⟨j',t,(bR e).trans ih⟩
   ·rw[ai U] at e⊢
    exact ⟨_,_,aX e⟩
  ·rw[ai h1]
   exact ⟨((j+1:Nat):Int),false,aX (by
    simp (disch:=omega) only[xt,xr,un,az,ai])⟩
theorem adJ {a b:Nat}: ∀(n i:Nat) (d:Array XE),b-i=n→b≤d.size→d.size<1152921504606846976→
  ∃j' t,Loop (Fm CC a b) ((i:Int),eA d)=some (j',t,eA (insOuter aA a b i d)):=by
 intro n
 induction n with
 | zero=>
  intro i d hn hb hs
  rw[insOuter,ai (by omega)]
  exact ⟨(i:Int),false,aX (by
   simp (disch:=omega) only[Fm,AS,un,sr,cond_false])⟩
 | succ n ih=>
  intro i d hn hb hs
  obtain ⟨j1,t1,h1⟩:=Sl (a:=a) (b:=b) (i:=i) i d (by omega) hs
  obtain ⟨j',t,U⟩:=ih (i+1) (insInner aA a i d) (by omega) (by rw[KP];omega) (by rw[KP];omega)
  rw[insOuter,aj (by omega)]
  refine ⟨j',t,(bR ?_).trans U⟩
  simp (disch:=omega) only[Fm,AS,un,az,aj,h1,Option.bind_some,dG,wrap64]
theorem Sm {a b:Nat} {d:Array XE} (hb:b≤d.size) (hs:d.size<1152921504606846976) (ha:a<1152921504606846976):
  CC Aa [.int .i64 (a:Int),.int .i64 (b:Int),.list aa (eA d)]=some [.list aa (eA (insertionSort aA d a b))]:=by
 refine adv ?_
 unfold Sa
 obtain ⟨j',t,h⟩:=adJ (a:=a) (b:=b) _ (a+1) d rfl hb hs
 simp (disch:=omega) only[dG,wrap64]
 rw[h]
 rfl
theorem adK (hi first:Nat): ∀(n root:Nat) (d:Array XE),hi-root≤n→root<1152921504606846976→first+hi≤d.size→d.size<1152921504606846976→
  (∃x y z,Loop (oG CC hi first) ((root:Int),eA d)=some (.inl (x,y,z,eA (siftDown aA hi first root d))))∨
  (∃x y z,Loop (oG CC hi first) ((root:Int),eA d)=some (.inr (x,y,z,eA (siftDown aA hi first root d)))):=by
 intro n
 induction n with
 | zero=>
  intro root d hn hr hb hs
  rw[KS,aj (by omega)]
  exact .inl ⟨(root:Int),((root*2+1:Nat):Int),true,aX (by
   simp (disch:=omega) only[oG,su,un,AQ,dG,wrap64];rw[nk (by omega)];rfl)⟩
 | succ n ih=>
  intro root d hn hr hb hs
  by_cases h1:2*root+1≥hi
  ·rw[KS,aj h1]
   exact .inl ⟨(root:Int),((root*2+1:Nat):Int),true,aX (by
    simp (disch:=omega) only[oG,su,un,AQ,dG,wrap64];rw[nk (by omega)];rfl)⟩
  ·have go: ∀c:Nat,c<hi→root<c→(oG CC hi first ((root:Int),eA d)=
      if bW d[first+root]! d[first+c]! <0 then some (.inl ((c:Int),eA (swp d (first+root) (first+c)))) else some (.inr (.inr ((root:Int),(c:Int),true,eA d))))→
     siftDown aA hi first root d=(if bW d[first+root]! d[first+c]! <0 then siftDown aA hi first c (swp d (first+root) (first+c)) else d)→
     ((∃x y z,Loop (oG CC hi first) ((root:Int),eA d)=some (.inl (x,y,z,eA (siftDown aA hi first root d))))∨
     (∃x y z,Loop (oG CC hi first) ((root:Int),eA d)=some (.inr (x,y,z,eA (siftDown aA hi first root d))))):=by
    intro c hc hrc e1 e2
    rw[e2]
    by_cases h3:bW d[first+root]! d[first+c]! <0
    ·rw[aj h3] at e1
     rw[aj h3,bR e1]
     exact ih c _ (by omega) (by omega) (by rw[size_swp];omega) (by rw[size_swp];omega)
    ·rw[ai h3] at e1
     rw[ai h3,aX e1]
     exact .inr ⟨_,_,_,rfl⟩
   have e0:=KS hi first root d
   rw[ai h1] at e0
   by_cases U:2*root+2<hi
   ·rw[aj U] at e0
    by_cases h3:bW d[first+(2*root+1)]! d[first+(2*root+2)]! <0
    ·rw[aj h3] at e0
     refine go (2*root+2) (by omega) (by omega) ?_ e0
     rw[nH 2 root] at h3
     simp (disch:=omega) only[oG,su,un,AQ,dG,fH,wrap64]
     rw[az,ai (by omega),az,aj (by omega)]
     simp (disch:=omega) only[uG,az,cO,gJ,aj,ai,wrap64,dG,fH,Int.toNat_natCast,Option.bind_some,fE,fG,XE.aZ,XE.bj,XE.bd,XE.re,fF,ib,gx,gp,V.aU,V.toInt_int,cond_true,cond_false,nH 2 root,nk]
     by_cases h4:bW d[first+root]! d[first+(root*2+2)]! <0
     ·simp only[h4,cF];rfl
     ·simp only[h4,fc];rfl
    ·rw[ai h3] at e0
     refine go (2*root+1) (by omega) (by omega) ?_ e0
     rw[nH 2 root] at h3
     simp (disch:=omega) only[oG,su,un,AQ,dG,fH,wrap64]
     rw[az,ai (by omega),az,aj (by omega)]
     simp (disch:=omega) only[uG,az,cO,gJ,aj,ai,wrap64,dG,fH,Int.toNat_natCast,Option.bind_some,fE,fG,XE.aZ,XE.bj,XE.bd,XE.re,fF,ib,gx,gp,V.aU,V.toInt_int,cond_true,cond_false,nH 2 root,sr]
     by_cases h4:bW d[first+root]! d[first+(root*2+1)]! <0
     ·simp only[h4,cF];rfl
     ·simp only[h4,fc];rfl
   ·rw[ai U] at e0
    refine go (2*root+1) (by omega) (by omega) ?_ e0
    simp (disch:=omega) only[oG,su,un,AQ,dG,fH,wrap64]
    rw[az,ai (by omega),az,ai (by omega)]
    simp (disch:=omega) only[uG,az,cO,gJ,aj,ai,wrap64,dG,fH,Int.toNat_natCast,Option.bind_some,fE,fG,XE.aZ,XE.bj,XE.bd,XE.re,fF,ib,gx,gp,V.aU,V.toInt_int,cond_true,cond_false,nH 2 root]
    by_cases h4:bW d[first+root]! d[first+(root*2+1)]! <0
    ·simp only[h4,cF];rfl
    ·simp only[h4,fc];rfl
theorem Sn {lo hi first:Nat} {d:Array XE} (hl:lo<1152921504606846976) (hb:first+hi≤d.size) (hs:d.size<1152921504606846976):
  CC Ad [.int .i64 (lo:Int),.int .i64 (hi:Int),.int .i64 (first:Int),.list aa (eA d)]=some [.list aa (eA (siftDown aA hi first lo d))]:=by
 refine adz ?_
 unfold Se
 rcases adK hi first _ lo d (bZ _) hl hb hs with ⟨x,y,z,h⟩|⟨x,y,z,h⟩
 ·rw[h];rfl
 ·rw[h];rfl
theorem So {hi first:Nat}: ∀(k:Nat) (d:Array XE),k<1152921504606846976→first+hi≤d.size→d.size<1152921504606846976→
  ∃x y,Loop (Fp CC first 0 hi) ((k:Int)-1,eA d)=some (x,y,eA (heapBuild aA hi first k d))
 | 0,d,hk,hb,hs=>⟨-1,false,aX (by
   simp (disch:=omega) only[Fp,AT,un,az,ai]
   rfl)⟩
 | k+1,d,hk,hb,hs=>by
  obtain ⟨x,y,ih⟩:=So (hi:=hi) (first:=first) k (siftDown aA hi first k d) (by omega) (by rw[AR _ _ _ _ _ (bZ _)];omega) (by rw[AR _ _ _ _ _ (bZ _)];omega)
  refine ⟨x,y,(bR ?_).trans ih⟩
  simp (disch:=omega) only[Fp,AT,un,az,aj,uF,Sn,Option.bind_some,V.aU,V.j8,wrap64]
theorem Sp {first:Nat}: ∀(k:Nat) (d:Array XE),k<1152921504606846976→first+k≤d.size→d.size<1152921504606846976→
  ∃x y,Loop (Fq CC first 0) ((k:Int)-1,eA d)=some (x,y,eA (heapPop aA first k d))
 | 0,d,hk,hb,hs=>⟨-1,false,aX (by
   simp (disch:=omega) only[Fq,AU,un,az,ai]
   rfl)⟩
 | k+1,d,hk,hb,hs=>by
  obtain ⟨x,y,ih⟩:=Sp (first:=first) k (siftDown aA k first 0 (swp d first (first+k))) (by omega) (by rw[AR _ _ _ _ _ (bZ _),size_swp];omega) (by rw[AR _ _ _ _ _ (bZ _),size_swp];omega)
  refine ⟨x,y,(bR ?_).trans ih⟩
  have gG:=Sn (lo:=0) (hi:=k) (first:=first) (d:=swp d first (first+k)) (by omega) (by rw[size_swp];omega) (by rw[size_swp];omega)
  unfold swp at gG⊢
  rw[show ((0:Nat):Int)=0 from rfl] at gG
  simp (disch:=omega) only[Fq,AU,un,uF,az,cO,gJ,aj,ai,wrap64,dG,fH,Int.toNat_natCast,Option.bind_some,fE,fG,XE.aZ,XE.bj,XE.bd,XE.re,fF,ib,gx,gp,V.aU,V.toInt_int,cond_true,cond_false]
  rw[gG]
  simp (disch:=omega) only[Option.bind_some,V.aU,V.j8,wrap64]
theorem adL {a b:Nat} {d:Array XE} (eY:a<b) (hb:b≤d.size) (hs:d.size<1152921504606846976):
  CC Ab [.int .i64 (a:Int),.int .i64 (b:Int),.list aa (eA d)]=some [.list aa (eA (heapSort aA d a b))]:=by
 refine adD ?_
 unfold Sh
 obtain ⟨x,y,h1⟩:=So (hi:=b-a) (first:=a) ((b-a-1)/2+1) d (by omega) (by omega) hs
 obtain ⟨x2,y2,U⟩:=Sp (first:=a) (b-a) (heapBuild aA (b-a) a ((b-a-1)/2+1) d) (by omega) (by rw[KQ];omega) (by rw[KQ];omega)
 have e1:((((b-a-1)/2+1:Nat):Int)-1)=Int.tdiv (((b-a:Nat):Int)-1) 2:=by
  rw[Int.tdiv_eq_ediv_of_nonneg (by omega)]
  omega
 rw[e1] at h1
 simp (disch:=omega) only[mj,wrap64]
 rw[h1]
 simp only[Option.bind_some,un]
 rw[U]
 rfl
theorem adM: ∀(n i j:Nat) (d:Array XE),j-i≤n→j<d.size→d.size<1152921504606846976→
  ∃x y z,Loop (AV CC) ((i:Int),(j:Int),eA d)=some (x,y,z,eA (reverseLoop i j d)):=by
 intro n
 induction n with
 | zero=>
  intro i j d hn hj hs
  rw[reverseLoop,ai (by omega)]
  exact ⟨(i:Int),(j:Int),false,aX (by
   simp (disch:=omega) only[AV,xw,un,sr,cond_false])⟩
 | succ n ih=>
  intro i j d hn hj hs
  rw[reverseLoop]
  by_cases h:i<j
  ·rw[aj h]
   obtain ⟨x,y,z,U⟩:=ih (i+1) (j-1) (swp d i j) (by omega) (by rw[size_swp];omega) (by rw[size_swp];omega)
   refine ⟨x,y,z,(bR ?_).trans U⟩
   simp (disch:=omega) only[AV,xw,un,az,cO,gJ,aj,ai,wrap64,dG,fH,Int.toNat_natCast,Option.bind_some,fE,fG,XE.aZ,XE.bj,XE.bd,XE.re,fF,ib,gx,gp,V.aU,V.toInt_int,cond_true,cond_false,kj]
   rfl
  ·rw[ai h]
   exact ⟨(i:Int),(j:Int),false,aX (by
    simp (disch:=omega) only[AV,xw,un,sr,cond_false])⟩
theorem adN {a b:Nat} {d:Array XE} (eY:a<b) (hb:b≤d.size) (hs:d.size<1152921504606846976):
  CC Et [.int .i64 (a:Int),.int .i64 (b:Int),.list aa (eA d)]=some [.list aa (eA (reverseRange d a b))]:=by
 refine adH ?_
 unfold Sk
 obtain ⟨x,y,z,h⟩:=adM _ a (b-1) d (bZ _) (by omega) hs
 simp (disch:=omega) only[kj,wrap64]
 rw[h]
 rfl
end Go.AM.SX
set_option maxRecDepth 100000
namespace Go.AM
open Go.Proofs
noncomputable abbrev pC:Code:=cJ Try.prog (ay.ba 118)
noncomputable def AW (C:ag) (a j:Int) (ak:List V) (i:Int) {β:Type} (kn:Int→Option β) (kr:(Int × Bool)→Option β):Option β:=
 bif decide ((i:Int)≤j) then
  bif (decide (0≤i))&&(decide (i<(ak.length:Int))) then
  (ak[(i:Int).toNat]?).bind fun x5=>
  bif (decide (0≤a))&&(decide (a<(ak.length:Int))) then
   (ak[(a:Int).toNat]?).bind fun x6=>
   (C bn [.int .i64 ((x5.cell 0).toInt),.int .i64 ((x5.cell 1).toInt),.list aa ((x5.cell 2).toList),.int .i64 ((x6.cell 0).toInt),.int .i64 ((x6.cell 1).toInt),.list aa ((x6.cell 2).toList)]).bind fun r7=>
   bif decide ((((V.nth r7 0).toInt):Int)<0) then
   kn (IntKind.wrap .i64 (i+1))
   else
   kr (i,decide ((((V.nth r7 0).toInt):Int)<0))
  else none
  else none
 else
  kr (i,false)
noncomputable def AX (C:ag) (a j:Int) (ak:List V):(Int)→Option ((Int) ⊕ (Int × Bool)):=fun i=>AW C a j ak i (fun y=>some (.inl y)) (fun r=>some (.inr r))
noncomputable def xx (C:ag) (a i:Int) (ak:List V) (j:Int) {β:Type} (kn:Int→Option β) (kr:(Int × Bool)→Option β):Option β:=
 bif decide ((i:Int)≤j) then
  bif (decide (0≤j))&&(decide (j<(ak.length:Int))) then
  (ak[(j:Int).toNat]?).bind fun np=>
  bif (decide (0≤a))&&(decide (a<(ak.length:Int))) then
   (ak[(a:Int).toNat]?).bind fun eT=>
   (C bn [.int .i64 ((np.cell 0).toInt),.int .i64 ((np.cell 1).toInt),.list aa ((np.cell 2).toList),.int .i64 ((eT.cell 0).toInt),.int .i64 ((eT.cell 1).toInt),.list aa ((eT.cell 2).toList)]).bind fun gq=>
   bif !(decide ((((V.nth gq 0).toInt):Int)<0)) then
   kn (IntKind.wrap .i64 (j-1))
   else
   kr (j,!(decide ((((V.nth gq 0).toInt):Int)<0)))
  else none
  else none
 else
  kr (j,false)
noncomputable def xy (C:ag) (a i:Int) (ak:List V):(Int)→Option ((Int) ⊕ (Int × Bool)):=fun j=>xx C a i ak j (fun y=>some (.inl y)) (fun r=>some (.inr r))
noncomputable def AY (C:ag) (a j:Int) (ak:List V) (i:Int) {β:Type} (kn:Int→Option β) (kr:(Int × Bool)→Option β):Option β:=
 bif decide ((i:Int)≤j) then
  bif (decide (0≤i))&&(decide (i<(ak.length:Int))) then
  (ak[(i:Int).toNat]?).bind fun jE=>
  bif (decide (0≤a))&&(decide (a<(ak.length:Int))) then
   (ak[(a:Int).toNat]?).bind fun oD=>
   (C bn [.int .i64 ((jE.cell 0).toInt),.int .i64 ((jE.cell 1).toInt),.list aa ((jE.cell 2).toList),.int .i64 ((oD.cell 0).toInt),.int .i64 ((oD.cell 1).toInt),.list aa ((oD.cell 2).toList)]).bind fun AH=>
   bif decide ((((V.nth AH 0).toInt):Int)<0) then
   kn (IntKind.wrap .i64 (i+1))
   else
   kr (i,decide ((((V.nth AH 0).toInt):Int)<0))
  else none
  else none
 else
  kr (i,false)
noncomputable def AZ (C:ag) (a j:Int) (ak:List V):(Int)→Option ((Int) ⊕ (Int × Bool)):=fun i=>AY C a j ak i (fun y=>some (.inl y)) (fun r=>some (.inr r))
noncomputable def xz (C:ag) (a i:Int) (ak:List V) (j:Int) {β:Type} (kn:Int→Option β) (kr:(Int × Bool)→Option β):Option β:=
 bif decide ((i:Int)≤j) then
  bif (decide (0≤j))&&(decide (j<(ak.length:Int))) then
  (ak[(j:Int).toNat]?).bind fun uH=>
  bif (decide (0≤a))&&(decide (a<(ak.length:Int))) then
   (ak[(a:Int).toNat]?).bind fun uI=>
   (C bn [.int .i64 ((uH.cell 0).toInt),.int .i64 ((uH.cell 1).toInt),.list aa ((uH.cell 2).toList),.int .i64 ((uI.cell 0).toInt),.int .i64 ((uI.cell 1).toInt),.list aa ((uI.cell 2).toList)]).bind fun sx=>
   bif !(decide ((((V.nth sx 0).toInt):Int)<0)) then
   kn (IntKind.wrap .i64 (j-1))
   else
   kr (j,!(decide ((((V.nth sx 0).toInt):Int)<0)))
  else none
  else none
 else
  kr (j,false)
noncomputable def xA (C:ag) (a i:Int) (ak:List V):(Int)→Option ((Int) ⊕ (Int × Bool)):=fun j=>xz C a i ak j (fun y=>some (.inl y)) (fun r=>some (.inr r))
noncomputable def A0 (C:ag) (a i j:Int) (ak:List V) {β:Type} (kn:(Int × Int × (List V))→Option β) (kr:(Int × Int × Bool × (List V))→Option β):Option β:=
 (Loop (AZ C a j ak) i).bind (un fun (lD:Int) (Qm:Bool)=>
  (Loop (xA C a lD ak) j).bind (un fun (oH:Int) (ZO:Bool)=>
   bif decide ((lD:Int)>oH) then
    kr (lD,oH,decide ((lD:Int)>oH),ak)
   else
    bif (decide (0≤oH))&&(decide (oH<(ak.length:Int))) then
    (ak[(oH:Int).toNat]?).bind fun qO=>
    bif (decide (0≤lD))&&(decide (lD<(ak.length:Int))) then
     (ak[(lD:Int).toNat]?).bind fun KT=>
     bif (decide (0≤lD))&&(decide (lD<(ak.length:Int))) then
     (ak[(lD:Int).toNat]?).bind fun x35=>
     bif (decide (0≤oH))&&(decide (oH<((ak.set ((lD:Int).toNat) (.agg [.int .i64 ((qO.cell 0).toInt),.int .i64 ((qO.cell 1).toInt),.list aa ((qO.cell 2).toList)])).length:Int))) then
      ((ak.set ((lD:Int).toNat) (.agg [.int .i64 ((qO.cell 0).toInt),.int .i64 ((qO.cell 1).toInt),.list aa ((qO.cell 2).toList)]))[(oH:Int).toNat]?).bind fun x36=>
      kn (IntKind.wrap .i64 (lD+1),IntKind.wrap .i64 (oH-1),(ak.set ((lD:Int).toNat) (.agg [.int .i64 ((qO.cell 0).toInt),.int .i64 ((qO.cell 1).toInt),.list aa ((qO.cell 2).toList)])).set ((oH:Int).toNat) (.agg [.int .i64 ((KT.cell 0).toInt),.int .i64 ((KT.cell 1).toInt),.list aa ((KT.cell 2).toList)]))
     else none
     else none
    else none
    else none))
noncomputable def xB (C:ag) (a:Int):(Int × Int × (List V))→Option ((Int × Int × (List V)) ⊕ (Int × Int × Bool × (List V))):=un fun i=>un fun j ak=>A0 C a i j ak (fun y=>some (.inl y)) (fun r=>some (.inr r))
noncomputable def Sq (C:ag):cz:=fun β n ds k=>
 bif Nat.beq n 49 then cb JT [false,true,false,false] [[1,0,3,0,4]] (@AW C) ds k else
 bif Nat.beq n 81 then cb JU [false,false,true,false] [[1,2,0,0,4]] (@xx C) ds k else
 bif Nat.beq n 209 then cb JV [false,true,false,false] [[1,0,3,0,4]] (@AY C) ds k else
 bif Nat.beq n 241 then cb JW [false,false,true,false] [[1,2,0,0,4]] (@xz C) ds k else
 bif Nat.beq n 210 then cb JX [false,true,true,true] [[1,0,0,0,0]] (@A0 C) ds k else
 none
abbrev A1 (C:ag) (b:ct):Prop:=cv Try.prog ay C (Sq C) 118 (cL Try.prog (ay.ba 118)) (ay.sin 118).bh.length b
theorem adO (C:ag):A1 C (.loop (aw [1,1,1,0,0,0] pC)):=
 ch JT [false,true,false,false] [[1,0,3,0,4]] (@AW C) (by kernel_rfl) (bq (bs:=[]) (by kernel_rfl) ax) (fun ds=>by kernel_rfl) (fun i x=>by kernel_rfl) (fun i x β k=>by kernel_rfl) (fun β ds k=>by kernel_rfl)
theorem adP (C:ag):A1 C (.loop (aw [1,1,1,1,0,0,0] pC)):=
 ch JU [false,false,true,false] [[1,2,0,0,4]] (@xx C) (by kernel_rfl) (bq (bs:=[]) (by kernel_rfl) ax) (fun ds=>by kernel_rfl) (fun i x=>by kernel_rfl) (fun i x β k=>by kernel_rfl) (fun β ds k=>by kernel_rfl)
theorem adQ (C:ag):A1 C (.loop (aw [1,1,1,1,1,1,1,1,1,0,0,0,0,0,0,0] pC)):=
 ch JV [false,true,false,false] [[1,0,3,0,4]] (@AY C) (by kernel_rfl) (bq (bs:=[]) (by kernel_rfl) ax) (fun ds=>by kernel_rfl) (fun i x=>by kernel_rfl) (fun i x β k=>by kernel_rfl) (fun β ds k=>by kernel_rfl)
theorem adR (C:ag):A1 C (.loop (aw [1,1,1,1,1,1,1,1,1,0,0,0,0,1,0,0,0] pC)):=
 ch JW [false,false,true,false] [[1,2,0,0,4]] (@xz C) (by kernel_rfl) (bq (bs:=[]) (by kernel_rfl) ax) (fun ds=>by kernel_rfl) (fun i x=>by kernel_rfl) (fun i x β k=>by kernel_rfl) (fun β ds k=>by kernel_rfl)
theorem adS (C:ag):A1 C (.loop (aw [1,1,1,1,1,1,1,1,1,0,0,0] pC)):=
 ch JX [false,true,true,true] [[1,0,0,0,0]] (@A0 C) (by kernel_rfl) (bq (bs:=[.loop (aw [1,1,1,1,1,1,1,1,1,0,0,0,0,0,0,0] pC),.loop (aw [1,1,1,1,1,1,1,1,1,0,0,0,0,1,0,0,0] pC)]) (by kernel_rfl) (bD (adQ C) (bD (adR C) ax))) (fun ds=>by kernel_rfl) (fun i x=>by kernel_rfl) (fun i x β k=>by kernel_rfl) (fun β ds k=>by kernel_rfl)
noncomputable def Sr (C:ag) (a b' pivot:Int) (ak:List V):Option (List V):=
 bif (decide (0≤pivot))&&(decide (pivot<(ak.length:Int))) then
  (ak[(pivot:Int).toNat]?).bind fun x1=>
  bif (decide (0≤a))&&(decide (a<(ak.length:Int))) then
  (ak[(a:Int).toNat]?).bind fun x2=>
  bif (decide (0≤a))&&(decide (a<(ak.length:Int))) then
   (ak[(a:Int).toNat]?).bind fun x3=>
   bif (decide (0≤pivot))&&(decide (pivot<((ak.set ((a:Int).toNat) (.agg [.int .i64 ((x1.cell 0).toInt),.int .i64 ((x1.cell 1).toInt),.list aa ((x1.cell 2).toList)])).length:Int))) then
   ((ak.set ((a:Int).toNat) (.agg [.int .i64 ((x1.cell 0).toInt),.int .i64 ((x1.cell 1).toInt),.list aa ((x1.cell 2).toList)]))[(pivot:Int).toNat]?).bind fun x4=>
   (Loop (AX C a (IntKind.wrap .i64 (b'-1)) ((ak.set ((a:Int).toNat) (.agg [.int .i64 ((x1.cell 0).toInt),.int .i64 ((x1.cell 1).toInt),.list aa ((x1.cell 2).toList)])).set ((pivot:Int).toNat) (.agg [.int .i64 ((x2.cell 0).toInt),.int .i64 ((x2.cell 1).toInt),.list aa ((x2.cell 2).toList)]))) (IntKind.wrap .i64 (a+1))).bind (un fun (eU:Int) (sc:Bool)=>
    (Loop (xy C a eU ((ak.set ((a:Int).toNat) (.agg [.int .i64 ((x1.cell 0).toInt),.int .i64 ((x1.cell 1).toInt),.list aa ((x1.cell 2).toList)])).set ((pivot:Int).toNat) (.agg [.int .i64 ((x2.cell 0).toInt),.int .i64 ((x2.cell 1).toInt),.list aa ((x2.cell 2).toList)]))) (IntKind.wrap .i64 (b'-1))).bind (un fun (ep:Int) (wS:Bool)=>
     bif decide ((eU:Int)>ep) then
      bif (decide (0≤a))&&(decide (a<(((ak.set ((a:Int).toNat) (.agg [.int .i64 ((x1.cell 0).toInt),.int .i64 ((x1.cell 1).toInt),.list aa ((x1.cell 2).toList)])).set ((pivot:Int).toNat) (.agg [.int .i64 ((x2.cell 0).toInt),.int .i64 ((x2.cell 1).toInt),.list aa ((x2.cell 2).toList)])).length:Int))) then
      (((ak.set ((a:Int).toNat) (.agg [.int .i64 ((x1.cell 0).toInt),.int .i64 ((x1.cell 1).toInt),.list aa ((x1.cell 2).toList)])).set ((pivot:Int).toNat) (.agg [.int .i64 ((x2.cell 0).toInt),.int .i64 ((x2.cell 1).toInt),.list aa ((x2.cell 2).toList)]))[(a:Int).toNat]?).bind fun fI=>
      bif (decide (0≤ep))&&(decide (ep<(((ak.set ((a:Int).toNat) (.agg [.int .i64 ((x1.cell 0).toInt),.int .i64 ((x1.cell 1).toInt),.list aa ((x1.cell 2).toList)])).set ((pivot:Int).toNat) (.agg [.int .i64 ((x2.cell 0).toInt),.int .i64 ((x2.cell 1).toInt),.list aa ((x2.cell 2).toList)])).length:Int))) then
       (((ak.set ((a:Int).toNat) (.agg [.int .i64 ((x1.cell 0).toInt),.int .i64 ((x1.cell 1).toInt),.list aa ((x1.cell 2).toList)])).set ((pivot:Int).toNat) (.agg [.int .i64 ((x2.cell 0).toInt),.int .i64 ((x2.cell 1).toInt),.list aa ((x2.cell 2).toList)]))[(ep:Int).toNat]?).bind fun e9=>
       bif (decide (0≤ep))&&(decide (ep<(((ak.set ((a:Int).toNat) (.agg [.int .i64 ((x1.cell 0).toInt),.int .i64 ((x1.cell 1).toInt),.list aa ((x1.cell 2).toList)])).set ((pivot:Int).toNat) (.agg [.int .i64 ((x2.cell 0).toInt),.int .i64 ((x2.cell 1).toInt),.list aa ((x2.cell 2).toList)])).length:Int))) then
       (((ak.set ((a:Int).toNat) (.agg [.int .i64 ((x1.cell 0).toInt),.int .i64 ((x1.cell 1).toInt),.list aa ((x1.cell 2).toList)])).set ((pivot:Int).toNat) (.agg [.int .i64 ((x2.cell 0).toInt),.int .i64 ((x2.cell 1).toInt),.list aa ((x2.cell 2).toList)]))[(ep:Int).toNat]?).bind fun qL=>
       bif (decide (0≤a))&&(decide (a<((((ak.set ((a:Int).toNat) (.agg [.int .i64 ((x1.cell 0).toInt),.int .i64 ((x1.cell 1).toInt),.list aa ((x1.cell 2).toList)])).set ((pivot:Int).toNat) (.agg [.int .i64 ((x2.cell 0).toInt),.int .i64 ((x2.cell 1).toInt),.list aa ((x2.cell 2).toList)])).set ((ep:Int).toNat) (.agg [.int .i64 ((fI.cell 0).toInt),.int .i64 ((fI.cell 1).toInt),.list aa ((fI.cell 2).toList)])).length:Int))) then
        ((((ak.set ((a:Int).toNat) (.agg [.int .i64 ((x1.cell 0).toInt),.int .i64 ((x1.cell 1).toInt),.list aa ((x1.cell 2).toList)])).set ((pivot:Int).toNat) (.agg [.int .i64 ((x2.cell 0).toInt),.int .i64 ((x2.cell 1).toInt),.list aa ((x2.cell 2).toList)])).set ((ep:Int).toNat) (.agg [.int .i64 ((fI.cell 0).toInt),.int .i64 ((fI.cell 1).toInt),.list aa ((fI.cell 2).toList)]))[(a:Int).toNat]?).bind fun jc=>
        some [.int .i64 ep,.bool true,.list aa ((((ak.set ((a:Int).toNat) (.agg [.int .i64 ((x1.cell 0).toInt),.int .i64 ((x1.cell 1).toInt),.list aa ((x1.cell 2).toList)])).set ((pivot:Int).toNat) (.agg [.int .i64 ((x2.cell 0).toInt),.int .i64 ((x2.cell 1).toInt),.list aa ((x2.cell 2).toList)])).set ((ep:Int).toNat) (.agg [.int .i64 ((fI.cell 0).toInt),.int .i64 ((fI.cell 1).toInt),.list aa ((fI.cell 2).toList)])).set ((a:Int).toNat) (.agg [.int .i64 ((e9.cell 0).toInt),.int .i64 ((e9.cell 1).toInt),.list aa ((e9.cell 2).toList)]))]
       else none
       else none
      else none
      else none
     else
      bif (decide (0≤ep))&&(decide (ep<(((ak.set ((a:Int).toNat) (.agg [.int .i64 ((x1.cell 0).toInt),.int .i64 ((x1.cell 1).toInt),.list aa ((x1.cell 2).toList)])).set ((pivot:Int).toNat) (.agg [.int .i64 ((x2.cell 0).toInt),.int .i64 ((x2.cell 1).toInt),.list aa ((x2.cell 2).toList)])).length:Int))) then
      (((ak.set ((a:Int).toNat) (.agg [.int .i64 ((x1.cell 0).toInt),.int .i64 ((x1.cell 1).toInt),.list aa ((x1.cell 2).toList)])).set ((pivot:Int).toNat) (.agg [.int .i64 ((x2.cell 0).toInt),.int .i64 ((x2.cell 1).toInt),.list aa ((x2.cell 2).toList)]))[(ep:Int).toNat]?).bind fun pB=>
      bif (decide (0≤eU))&&(decide (eU<(((ak.set ((a:Int).toNat) (.agg [.int .i64 ((x1.cell 0).toInt),.int .i64 ((x1.cell 1).toInt),.list aa ((x1.cell 2).toList)])).set ((pivot:Int).toNat) (.agg [.int .i64 ((x2.cell 0).toInt),.int .i64 ((x2.cell 1).toInt),.list aa ((x2.cell 2).toList)])).length:Int))) then
       (((ak.set ((a:Int).toNat) (.agg [.int .i64 ((x1.cell 0).toInt),.int .i64 ((x1.cell 1).toInt),.list aa ((x1.cell 2).toList)])).set ((pivot:Int).toNat) (.agg [.int .i64 ((x2.cell 0).toInt),.int .i64 ((x2.cell 1).toInt),.list aa ((x2.cell 2).toList)]))[(eU:Int).toNat]?).bind fun uJ=>
       bif (decide (0≤eU))&&(decide (eU<(((ak.set ((a:Int).toNat) (.agg [.int .i64 ((x1.cell 0).toInt),.int .i64 ((x1.cell 1).toInt),.list aa ((x1.cell 2).toList)])).set ((pivot:Int).toNat) (.agg [.int .i64 ((x2.cell 0).toInt),.int .i64 ((x2.cell 1).toInt),.list aa ((x2.cell 2).toList)])).length:Int))) then
       (((ak.set ((a:Int).toNat) (.agg [.int .i64 ((x1.cell 0).toInt),.int .i64 ((x1.cell 1).toInt),.list aa ((x1.cell 2).toList)])).set ((pivot:Int).toNat) (.agg [.int .i64 ((x2.cell 0).toInt),.int .i64 ((x2.cell 1).toInt),.list aa ((x2.cell 2).toList)]))[(eU:Int).toNat]?).bind fun Fs=>
       bif (decide (0≤ep))&&(decide (ep<((((ak.set ((a:Int).toNat) (.agg [.int .i64 ((x1.cell 0).toInt),.int .i64 ((x1.cell 1).toInt),.list aa ((x1.cell 2).toList)])).set ((pivot:Int).toNat) (.agg [.int .i64 ((x2.cell 0).toInt),.int .i64 ((x2.cell 1).toInt),.list aa ((x2.cell 2).toList)])).set ((eU:Int).toNat) (.agg [.int .i64 ((pB.cell 0).toInt),.int .i64 ((pB.cell 1).toInt),.list aa ((pB.cell 2).toList)])).length:Int))) then
        ((((ak.set ((a:Int).toNat) (.agg [.int .i64 ((x1.cell 0).toInt),.int .i64 ((x1.cell 1).toInt),.list aa ((x1.cell 2).toList)])).set ((pivot:Int).toNat) (.agg [.int .i64 ((x2.cell 0).toInt),.int .i64 ((x2.cell 1).toInt),.list aa ((x2.cell 2).toList)])).set ((eU:Int).toNat) (.agg [.int .i64 ((pB.cell 0).toInt),.int .i64 ((pB.cell 1).toInt),.list aa ((pB.cell 2).toList)]))[(ep:Int).toNat]?).bind fun x22=>
        (Loop (xB C a) (IntKind.wrap .i64 (eU+1),IntKind.wrap .i64 (ep-1),(((ak.set ((a:Int).toNat) (.agg [.int .i64 ((x1.cell 0).toInt),.int .i64 ((x1.cell 1).toInt),.list aa ((x1.cell 2).toList)])).set ((pivot:Int).toNat) (.agg [.int .i64 ((x2.cell 0).toInt),.int .i64 ((x2.cell 1).toInt),.list aa ((x2.cell 2).toList)])).set ((eU:Int).toNat) (.agg [.int .i64 ((pB.cell 0).toInt),.int .i64 ((pB.cell 1).toInt),.list aa ((pB.cell 2).toList)])).set ((ep:Int).toNat) (.agg [.int .i64 ((uJ.cell 0).toInt),.int .i64 ((uJ.cell 1).toInt),.list aa ((uJ.cell 2).toList)]))).bind (un fun (aao:Int)=>un fun (pD:Int)=>un fun (Qq:Bool) (jH:List V)=>
         bif (decide (0≤a))&&(decide (a<(jH.length:Int))) then
         (jH[(a:Int).toNat]?).bind fun mn=>
         bif (decide (0≤pD))&&(decide (pD<(jH.length:Int))) then
          (jH[(pD:Int).toNat]?).bind fun uK=>
          bif (decide (0≤pD))&&(decide (pD<(jH.length:Int))) then
          (jH[(pD:Int).toNat]?).bind fun x43=>
          bif (decide (0≤a))&&(decide (a<((jH.set ((pD:Int).toNat) (.agg [.int .i64 ((mn.cell 0).toInt),.int .i64 ((mn.cell 1).toInt),.list aa ((mn.cell 2).toList)])).length:Int))) then
           ((jH.set ((pD:Int).toNat) (.agg [.int .i64 ((mn.cell 0).toInt),.int .i64 ((mn.cell 1).toInt),.list aa ((mn.cell 2).toList)]))[(a:Int).toNat]?).bind fun x44=>
           some [.int .i64 pD,.bool false,.list aa ((jH.set ((pD:Int).toNat) (.agg [.int .i64 ((mn.cell 0).toInt),.int .i64 ((mn.cell 1).toInt),.list aa ((mn.cell 2).toList)])).set ((a:Int).toNat) (.agg [.int .i64 ((uK.cell 0).toInt),.int .i64 ((uK.cell 1).toInt),.list aa ((uK.cell 2).toList)]))]
          else none
          else none
         else none
         else none)
       else none
       else none
      else none
      else none))
   else none
  else none
  else none
 else none
theorem adT {a b' pivot:Int} {ak:List V} {r:Option (List V)} (h:Sr CC a b' pivot ak=r):CC m7 [.int .i64 a,.int .i64 b',.int .i64 pivot,.list aa ak]=r:=
 bc (key:=118) (L:=Sq CC) (bs:=[.loop (aw [1,1,1,0,0,0] pC),.loop (aw [1,1,1,1,0,0,0] pC),.loop (aw [1,1,1,1,1,1,1,1,1,0,0,0] pC)]) (by kernel_rfl) (bD (adO CC) (bD (adP CC) (bD (adS CC) ax))) (a9 (by kernel_rfl) h)
noncomputable abbrev xC:Code:=cJ Try.prog (ay.ba 117)
noncomputable def A3 (C:ag) (a j:Int) (ak:List V) (i:Int) {β:Type} (kn:Int→Option β) (kr:(Int × Bool)→Option β):Option β:=
 bif decide ((i:Int)≤j) then
  bif (decide (0≤a))&&(decide (a<(ak.length:Int))) then
  (ak[(a:Int).toNat]?).bind fun x5=>
  bif (decide (0≤i))&&(decide (i<(ak.length:Int))) then
   (ak[(i:Int).toNat]?).bind fun x6=>
   (C bn [.int .i64 ((x5.cell 0).toInt),.int .i64 ((x5.cell 1).toInt),.list aa ((x5.cell 2).toList),.int .i64 ((x6.cell 0).toInt),.int .i64 ((x6.cell 1).toInt),.list aa ((x6.cell 2).toList)]).bind fun r7=>
   bif !(decide ((((V.nth r7 0).toInt):Int)<0)) then
   kn (IntKind.wrap .i64 (i+1))
   else
   kr (i,!(decide ((((V.nth r7 0).toInt):Int)<0)))
  else none
  else none
 else
  kr (i,false)
noncomputable def A4 (C:ag) (a j:Int) (ak:List V):(Int)→Option ((Int) ⊕ (Int × Bool)):=fun i=>A3 C a j ak i (fun y=>some (.inl y)) (fun r=>some (.inr r))
noncomputable def xD (C:ag) (a i:Int) (ak:List V) (j:Int) {β:Type} (kn:Int→Option β) (kr:(Int × Bool)→Option β):Option β:=
 bif decide ((i:Int)≤j) then
  bif (decide (0≤a))&&(decide (a<(ak.length:Int))) then
  (ak[(a:Int).toNat]?).bind fun np=>
  bif (decide (0≤j))&&(decide (j<(ak.length:Int))) then
   (ak[(j:Int).toNat]?).bind fun eT=>
   (C bn [.int .i64 ((np.cell 0).toInt),.int .i64 ((np.cell 1).toInt),.list aa ((np.cell 2).toList),.int .i64 ((eT.cell 0).toInt),.int .i64 ((eT.cell 1).toInt),.list aa ((eT.cell 2).toList)]).bind fun gq=>
   bif decide ((((V.nth gq 0).toInt):Int)<0) then
   kn (IntKind.wrap .i64 (j-1))
   else
   kr (j,decide ((((V.nth gq 0).toInt):Int)<0))
  else none
  else none
 else
  kr (j,false)
noncomputable def xE (C:ag) (a i:Int) (ak:List V):(Int)→Option ((Int) ⊕ (Int × Bool)):=fun j=>xD C a i ak j (fun y=>some (.inl y)) (fun r=>some (.inr r))
noncomputable def A5 (C:ag) (a i j:Int) (ak:List V) {β:Type} (kn:(Int × Int × (List V))→Option β) (kr:(Int × Int × Bool × (List V))→Option β):Option β:=
 (Loop (A4 C a j ak) i).bind (un fun (eU:Int) (sc:Bool)=>
  (Loop (xE C a eU ak) j).bind (un fun (ep:Int) (wS:Bool)=>
   bif decide ((eU:Int)>ep) then
    kr (eU,ep,decide ((eU:Int)>ep),ak)
   else
    bif (decide (0≤ep))&&(decide (ep<(ak.length:Int))) then
    (ak[(ep:Int).toNat]?).bind fun fI=>
    bif (decide (0≤eU))&&(decide (eU<(ak.length:Int))) then
     (ak[(eU:Int).toNat]?).bind fun e9=>
     bif (decide (0≤eU))&&(decide (eU<(ak.length:Int))) then
     (ak[(eU:Int).toNat]?).bind fun qL=>
     bif (decide (0≤ep))&&(decide (ep<((ak.set ((eU:Int).toNat) (.agg [.int .i64 ((fI.cell 0).toInt),.int .i64 ((fI.cell 1).toInt),.list aa ((fI.cell 2).toList)])).length:Int))) then
      ((ak.set ((eU:Int).toNat) (.agg [.int .i64 ((fI.cell 0).toInt),.int .i64 ((fI.cell 1).toInt),.list aa ((fI.cell 2).toList)]))[(ep:Int).toNat]?).bind fun jc=>
      kn (IntKind.wrap .i64 (eU+1),IntKind.wrap .i64 (ep-1),(ak.set ((eU:Int).toNat) (.agg [.int .i64 ((fI.cell 0).toInt),.int .i64 ((fI.cell 1).toInt),.list aa ((fI.cell 2).toList)])).set ((ep:Int).toNat) (.agg [.int .i64 ((e9.cell 0).toInt),.int .i64 ((e9.cell 1).toInt),.list aa ((e9.cell 2).toList)]))
     else none
     else none
    else none
    else none))
noncomputable def xF (C:ag) (a:Int):(Int × Int × (List V))→Option ((Int × Int × (List V)) ⊕ (Int × Int × Bool × (List V))):=un fun i=>un fun j ak=>A5 C a i j ak (fun y=>some (.inl y)) (fun r=>some (.inr r))
noncomputable def Ss (C:ag):cz:=fun β n ds k=>
 bif Nat.beq n 49 then cb JQ [false,true,false,false] [[1,0,3,0,4]] (@A3 C) ds k else
 bif Nat.beq n 81 then cb JR [false,false,true,false] [[1,2,0,0,4]] (@xD C) ds k else
 bif Nat.beq n 50 then cb JS [false,true,true,true] [[1,0,0,0,0]] (@A5 C) ds k else
 none
abbrev KU (C:ag) (b:ct):Prop:=cv Try.prog ay C (Ss C) 117 (cL Try.prog (ay.ba 117)) (ay.sin 117).bh.length b
theorem adU (C:ag):KU C (.loop (aw [1,1,1,0,0,0,0,0,0,0] xC)):=
 ch JQ [false,true,false,false] [[1,0,3,0,4]] (@A3 C) (by kernel_rfl) (bq (bs:=[]) (by kernel_rfl) ax) (fun ds=>by kernel_rfl) (fun i x=>by kernel_rfl) (fun i x β k=>by kernel_rfl) (fun β ds k=>by kernel_rfl)
theorem adV (C:ag):KU C (.loop (aw [1,1,1,0,0,0,0,1,0,0,0] xC)):=
 ch JR [false,false,true,false] [[1,2,0,0,4]] (@xD C) (by kernel_rfl) (bq (bs:=[]) (by kernel_rfl) ax) (fun ds=>by kernel_rfl) (fun i x=>by kernel_rfl) (fun i x β k=>by kernel_rfl) (fun β ds k=>by kernel_rfl)
theorem adW (C:ag):KU C (.loop (aw [1,1,1,0,0,0] xC)):=
 ch JS [false,true,true,true] [[1,0,0,0,0]] (@A5 C) (by kernel_rfl) (bq (bs:=[.loop (aw [1,1,1,0,0,0,0,0,0,0] xC),.loop (aw [1,1,1,0,0,0,0,1,0,0,0] xC)]) (by kernel_rfl) (bD (adU C) (bD (adV C) ax))) (fun ds=>by kernel_rfl) (fun i x=>by kernel_rfl) (fun i x β k=>by kernel_rfl) (fun β ds k=>by kernel_rfl)
noncomputable def Su (C:ag) (a b' pivot:Int) (ak:List V):Option (List V):=
 bif (decide (0≤pivot))&&(decide (pivot<(ak.length:Int))) then
  (ak[(pivot:Int).toNat]?).bind fun x1=>
  bif (decide (0≤a))&&(decide (a<(ak.length:Int))) then
  (ak[(a:Int).toNat]?).bind fun x2=>
  bif (decide (0≤a))&&(decide (a<(ak.length:Int))) then
   (ak[(a:Int).toNat]?).bind fun x3=>
   bif (decide (0≤pivot))&&(decide (pivot<((ak.set ((a:Int).toNat) (.agg [.int .i64 ((x1.cell 0).toInt),.int .i64 ((x1.cell 1).toInt),.list aa ((x1.cell 2).toList)])).length:Int))) then
   ((ak.set ((a:Int).toNat) (.agg [.int .i64 ((x1.cell 0).toInt),.int .i64 ((x1.cell 1).toInt),.list aa ((x1.cell 2).toList)]))[(pivot:Int).toNat]?).bind fun x4=>
   (Loop (xF C a) (IntKind.wrap .i64 (a+1),IntKind.wrap .i64 (b'-1),(ak.set ((a:Int).toNat) (.agg [.int .i64 ((x1.cell 0).toInt),.int .i64 ((x1.cell 1).toInt),.list aa ((x1.cell 2).toList)])).set ((pivot:Int).toNat) (.agg [.int .i64 ((x2.cell 0).toInt),.int .i64 ((x2.cell 1).toInt),.list aa ((x2.cell 2).toList)]))).bind (un fun (adX:Int)=>un fun (aiU:Int)=>un fun (EV:Bool) (adY:List V)=>
    some [.int .i64 adX,.list aa adY])
   else none
  else none
  else none
 else none
theorem adZ {a b' pivot:Int} {ak:List V} {r:Option (List V)} (h:Su CC a b' pivot ak=r):CC uc [.int .i64 a,.int .i64 b',.int .i64 pivot,.list aa ak]=r:=
 bc (key:=117) (L:=Ss CC) (bs:=[.loop (aw [1,1,1,0,0,0] xC)]) (by kernel_rfl) (bD (adW CC) ax) (a9 (by kernel_rfl) h)
noncomputable abbrev nu:Code:=cJ Try.prog (ay.ba 116)
noncomputable def A6 (C:ag) (a b' j:Int) (ak:List V) (i:Int) {β:Type} (kn:Int→Option β) (kr:(Int × Bool)→Option β):Option β:=
 bif decide ((i:Int)<b') then
  bif (decide (0≤i))&&(decide (i<(ak.length:Int))) then
  (ak[(i:Int).toNat]?).bind fun x1=>
  bif (decide (0≤(IntKind.wrap .i64 (i-1))))&&(decide ((IntKind.wrap .i64 (i-1))<(ak.length:Int))) then
   (ak[(IntKind.wrap .i64 (i-1):Int).toNat]?).bind fun x2=>
   (C bn [.int .i64 ((x1.cell 0).toInt),.int .i64 ((x1.cell 1).toInt),.list aa ((x1.cell 2).toList),.int .i64 ((x2.cell 0).toInt),.int .i64 ((x2.cell 1).toInt),.list aa ((x2.cell 2).toList)]).bind fun r3=>
   bif !(decide ((((V.nth r3 0).toInt):Int)<0)) then
   kn (IntKind.wrap .i64 (i+1))
   else
   kr (i,!(decide ((((V.nth r3 0).toInt):Int)<0)))
  else none
  else none
 else
  kr (i,false)
noncomputable def A7 (C:ag) (a b' j:Int) (ak:List V):(Int)→Option ((Int) ⊕ (Int × Bool)):=fun i=>A6 C a b' j ak i (fun y=>some (.inl y)) (fun r=>some (.inr r))
noncomputable def A8 (C:ag) (a b' i j j':Int) (ak:List V) {β:Type} (kn:(Int × (List V))→Option β) (kr:(Int × (List V))→Option β):Option β:=
 bif decide ((j':Int)≥1) then
  bif (decide (0≤j'))&&(decide (j'<(ak.length:Int))) then
  (ak[(j':Int).toNat]?).bind fun np=>
  bif (decide (0≤(IntKind.wrap .i64 (j'-1))))&&(decide ((IntKind.wrap .i64 (j'-1))<(ak.length:Int))) then
   (ak[(IntKind.wrap .i64 (j'-1):Int).toNat]?).bind fun eT=>
   (C bn [.int .i64 ((np.cell 0).toInt),.int .i64 ((np.cell 1).toInt),.list aa ((np.cell 2).toList),.int .i64 ((eT.cell 0).toInt),.int .i64 ((eT.cell 1).toInt),.list aa ((eT.cell 2).toList)]).bind fun gq=>
   bif !(decide ((((V.nth gq 0).toInt):Int)<0)) then
   kr (j',ak)
   else
   bif (decide (0≤(IntKind.wrap .i64 (j'-1))))&&(decide ((IntKind.wrap .i64 (j'-1))<(ak.length:Int))) then
    (ak[(IntKind.wrap .i64 (j'-1):Int).toNat]?).bind fun jG=>
    bif (decide (0≤j'))&&(decide (j'<(ak.length:Int))) then
    (ak[(j':Int).toNat]?).bind fun nr=>
    bif (decide (0≤j'))&&(decide (j'<(ak.length:Int))) then
     (ak[(j':Int).toNat]?).bind fun fI=>
     bif (decide (0≤(IntKind.wrap .i64 (j'-1))))&&(decide ((IntKind.wrap .i64 (j'-1))<((ak.set ((j':Int).toNat) (.agg [.int .i64 ((jG.cell 0).toInt),.int .i64 ((jG.cell 1).toInt),.list aa ((jG.cell 2).toList)])).length:Int))) then
     ((ak.set ((j':Int).toNat) (.agg [.int .i64 ((jG.cell 0).toInt),.int .i64 ((jG.cell 1).toInt),.list aa ((jG.cell 2).toList)]))[(IntKind.wrap .i64 (j'-1):Int).toNat]?).bind fun e9=>
     kn (IntKind.wrap .i64 (j'-1),(ak.set ((j':Int).toNat) (.agg [.int .i64 ((jG.cell 0).toInt),.int .i64 ((jG.cell 1).toInt),.list aa ((jG.cell 2).toList)])).set ((IntKind.wrap .i64 (j'-1):Int).toNat) (.agg [.int .i64 ((nr.cell 0).toInt),.int .i64 ((nr.cell 1).toInt),.list aa ((nr.cell 2).toList)]))
     else none
    else none
    else none
   else none
  else none
  else none
 else
  kr (j',ak)
noncomputable def A9 (C:ag) (a b' i j:Int):(Int × (List V))→Option ((Int × (List V)) ⊕ (Int × (List V))):=un fun j' ak=>A8 C a b' i j j' ak (fun y=>some (.inl y)) (fun r=>some (.inr r))
noncomputable def Ft (C:ag) (a b' i j:Int) (t65:Bool) (ak:List V) {β:Type} (kr:(List V)→Option β):Option β:=
 bif t65 then
  (Loop (A9 C a b' i j) (IntKind.wrap .i64 (i-1),ak)).bind (un fun (aiV:Int) (ad0:List V)=>
   kr ad0)
 else
  kr ak
noncomputable def Ba (C:ag) (a b' i j j':Int) (ak:List V) {β:Type} (kn:(Int × (List V))→Option β) (kr:(Int × (List V))→Option β):Option β:=
 bif decide ((j':Int)<b') then
  bif (decide (0≤j'))&&(decide (j'<(ak.length:Int))) then
  (ak[(j':Int).toNat]?).bind fun uJ=>
  bif (decide (0≤(IntKind.wrap .i64 (j'-1))))&&(decide ((IntKind.wrap .i64 (j'-1))<(ak.length:Int))) then
   (ak[(IntKind.wrap .i64 (j'-1):Int).toNat]?).bind fun Fs=>
   (C bn [.int .i64 ((uJ.cell 0).toInt),.int .i64 ((uJ.cell 1).toInt),.list aa ((uJ.cell 2).toList),.int .i64 ((Fs.cell 0).toInt),.int .i64 ((Fs.cell 1).toInt),.list aa ((Fs.cell 2).toList)]).bind fun ic=>
   bif !(decide ((((V.nth ic 0).toInt):Int)<0)) then
   kr (j',ak)
   else
   bif (decide (0≤(IntKind.wrap .i64 (j'-1))))&&(decide ((IntKind.wrap .i64 (j'-1))<(ak.length:Int))) then
    (ak[(IntKind.wrap .i64 (j'-1):Int).toNat]?).bind fun jE=>
    bif (decide (0≤j'))&&(decide (j'<(ak.length:Int))) then
    (ak[(j':Int).toNat]?).bind fun oD=>
    bif (decide (0≤j'))&&(decide (j'<(ak.length:Int))) then
     (ak[(j':Int).toNat]?).bind fun x25=>
     bif (decide (0≤(IntKind.wrap .i64 (j'-1))))&&(decide ((IntKind.wrap .i64 (j'-1))<((ak.set ((j':Int).toNat) (.agg [.int .i64 ((jE.cell 0).toInt),.int .i64 ((jE.cell 1).toInt),.list aa ((jE.cell 2).toList)])).length:Int))) then
     ((ak.set ((j':Int).toNat) (.agg [.int .i64 ((jE.cell 0).toInt),.int .i64 ((jE.cell 1).toInt),.list aa ((jE.cell 2).toList)]))[(IntKind.wrap .i64 (j'-1):Int).toNat]?).bind fun nh=>
     kn (IntKind.wrap .i64 (j'+1),(ak.set ((j':Int).toNat) (.agg [.int .i64 ((jE.cell 0).toInt),.int .i64 ((jE.cell 1).toInt),.list aa ((jE.cell 2).toList)])).set ((IntKind.wrap .i64 (j'-1):Int).toNat) (.agg [.int .i64 ((oD.cell 0).toInt),.int .i64 ((oD.cell 1).toInt),.list aa ((oD.cell 2).toList)]))
     else none
    else none
    else none
   else none
  else none
  else none
 else
  kr (j',ak)
noncomputable def Bb (C:ag) (a b' i j:Int):(Int × (List V))→Option ((Int × (List V)) ⊕ (Int × (List V))):=un fun j' ak=>Ba C a b' i j j' ak (fun y=>some (.inl y)) (fun r=>some (.inr r))
noncomputable def Bc (C:ag) (a b' i j:Int) (ak:List V) {β:Type} (kn:(Int × Int × (List V))→Option β) (kr:((Bool × (List V)) ⊕ (Int × Int × Bool × (List V)))→Option β):Option β:=
 bif decide ((j:Int)<5) then
  (Loop (A7 C a b' j ak) i).bind (un fun (fa:Int) (pw:Bool)=>
   bif (fa:Int)==b' then
   kr (.inl (true,ak))
   else
   bif decide (((IntKind.wrap .i64 (b'-a)):Int)<50) then
    kr (.inl (false,ak))
   else
    bif (decide (0≤(IntKind.wrap .i64 (fa-1))))&&(decide ((IntKind.wrap .i64 (fa-1))<(ak.length:Int))) then
    (ak[(IntKind.wrap .i64 (fa-1):Int).toNat]?).bind fun x6=>
    bif (decide (0≤fa))&&(decide (fa<(ak.length:Int))) then
     (ak[(fa:Int).toNat]?).bind fun x7=>
     bif (decide (0≤fa))&&(decide (fa<(ak.length:Int))) then
     (ak[(fa:Int).toNat]?).bind fun x8=>
     bif (decide (0≤(IntKind.wrap .i64 (fa-1))))&&(decide ((IntKind.wrap .i64 (fa-1))<((ak.set ((fa:Int).toNat) (.agg [.int .i64 ((x6.cell 0).toInt),.int .i64 ((x6.cell 1).toInt),.list aa ((x6.cell 2).toList)])).length:Int))) then
      ((ak.set ((fa:Int).toNat) (.agg [.int .i64 ((x6.cell 0).toInt),.int .i64 ((x6.cell 1).toInt),.list aa ((x6.cell 2).toList)]))[(IntKind.wrap .i64 (fa-1):Int).toNat]?).bind fun x9=>
      Ft C a b' fa j (decide (((IntKind.wrap .i64 (fa-a)):Int)≥2)) ((ak.set ((fa:Int).toNat) (.agg [.int .i64 ((x6.cell 0).toInt),.int .i64 ((x6.cell 1).toInt),.list aa ((x6.cell 2).toList)])).set ((IntKind.wrap .i64 (fa-1):Int).toNat) (.agg [.int .i64 ((x7.cell 0).toInt),.int .i64 ((x7.cell 1).toInt),.list aa ((x7.cell 2).toList)])) (fun (Sv:List V)=>
       bif decide (((IntKind.wrap .i64 (b'-fa)):Int)≥2) then
       (Loop (Bb C a b' fa j) (IntKind.wrap .i64 (fa+1),Sv)).bind (un fun (aiW:Int) (ad1:List V)=>
        kn (fa,IntKind.wrap .i64 (j+1),ad1))
       else
       kn (fa,IntKind.wrap .i64 (j+1),Sv))
     else none
     else none
    else none
    else none)
 else
  kr (.inr (i,j,decide ((j:Int)<5),ak))
noncomputable def sy (C:ag) (a b':Int):(Int × Int × (List V))→Option ((Int × Int × (List V)) ⊕ ((Bool × (List V)) ⊕ (Int × Int × Bool × (List V)))):=un fun i=>un fun j ak=>Bc C a b' i j ak (fun y=>some (.inl y)) (fun r=>some (.inr r))
noncomputable def Sw (C:ag):cz:=fun β n ds k=>
 bif Nat.beq n 81 then cb JL [false,false,true,false,false] [[1,2,0,4,0,5]] (@A6 C) ds k else
 bif Nat.beq n 225 then cb JM [false,false,false,false,true,true] [[1,2,3,4,0,0]] (@A8 C) ds k else
 bif Nat.beq n 1055 then iJ JN [[1,2,3,4,0]] (@Ft C) ds k else
 bif Nat.beq n 321 then cb JO [false,false,false,false,true,true] [[1,2,3,4,0,0]] (@Ba C) ds k else
 bif Nat.beq n 49 then cb JP [false,false,true,true,true] [[0,0],[1,2,0,0,0,0]] (@Bc C) ds k else
 none
abbrev Bd (C:ag) (b:ct):Prop:=cv Try.prog ay C (Sw C) 116 (cL Try.prog (ay.ba 116)) (ay.sin 116).bh.length b
theorem ad2 (C:ag):Bd C (.loop (aw [1,1,0,1,0,0,1,0,0,0,0,0] nu)):=
 ch JL [false,false,true,false,false] [[1,2,0,4,0,5]] (@A6 C) (by kernel_rfl) (bq (bs:=[]) (by kernel_rfl) ax) (fun ds=>by kernel_rfl) (fun i x=>by kernel_rfl) (fun i x β k=>by kernel_rfl) (fun β ds k=>by kernel_rfl)
theorem ad3 (C:ag):Bd C (.loop (aw [1,1,0,1,0,0,1,0,0,1,1,1,1,0,1,0,1,0,0] nu)):=
 ch JM [false,false,false,false,true,true] [[1,2,3,4,0,0]] (@A8 C) (by kernel_rfl) (bq (bs:=[]) (by kernel_rfl) ax) (fun ds=>by kernel_rfl) (fun i x=>by kernel_rfl) (fun i x β k=>by kernel_rfl) (fun β ds k=>by kernel_rfl)
theorem ad4 (C:ag):Bd C (.cond 65 (aw [1,1,0,1,0,0,1,0,0,1,1,1,1,0,1,0] nu) (aw [1,1,0,1,0,0,1,0,0,1,1,1,1,0,1,1] nu)):=
 iZ JN [[1,2,3,4,0]] (@Ft C) (by kernel_rfl) (bq (bs:=[.loop (aw [1,1,0,1,0,0,1,0,0,1,1,1,1,0,1,0,1,0,0] nu)]) (by kernel_rfl) (bD (ad3 C) ax)) (bq (bs:=[]) (by kernel_rfl) ax) (fun ds=>by kernel_rfl) (fun i β k=>by kernel_rfl) (fun β ds k=>by kernel_rfl)
theorem ad5 (C:ag):Bd C (.loop (aw [1,1,0,1,0,0,1,0,0,1,1,1,1,1,1,0,1,0,0] nu)):=
 ch JO [false,false,false,false,true,true] [[1,2,3,4,0,0]] (@Ba C) (by kernel_rfl) (bq (bs:=[]) (by kernel_rfl) ax) (fun ds=>by kernel_rfl) (fun i x=>by kernel_rfl) (fun i x β k=>by kernel_rfl) (fun β ds k=>by kernel_rfl)
theorem ad6 (C:ag):Bd C (.loop (aw [1,1,0,1,0,0] nu)):=
 ch JP [false,false,true,true,true] [[0,0],[1,2,0,0,0,0]] (@Bc C) (by kernel_rfl) (bq (bs:=[.loop (aw [1,1,0,1,0,0,1,0,0,0,0,0] nu),.cond 65 (aw [1,1,0,1,0,0,1,0,0,1,1,1,1,0,1,0] nu) (aw [1,1,0,1,0,0,1,0,0,1,1,1,1,0,1,1] nu),.loop (aw [1,1,0,1,0,0,1,0,0,1,1,1,1,1,1,0,1,0,0] nu)]) (by kernel_rfl) (bD (ad2 C) (bD (ad4 C) (bD (ad5 C) ax)))) (fun ds=>by kernel_rfl) (fun i x=>by kernel_rfl) (fun i x β k=>by kernel_rfl) (fun β ds k=>by kernel_rfl)
noncomputable def Sy (C:ag) (a b':Int) (ak:List V):Option (List V):=
 (Loop (sy C a b') (IntKind.wrap .i64 (a+1),0,ak)).bind (cq (un fun (Kd:Bool) (ad7:List V)=>
  some [.bool Kd,.list aa ad7]) (un fun (aiX:Int)=>un fun (aiY:Int)=>un fun (Qn:Bool) (ad8:List V)=>
  some [.bool false,.list aa ad8]))
theorem ad9 {a b':Int} {ak:List V} {r:Option (List V)} (h:Sy CC a b' ak=r):CC Eu [.int .i64 a,.int .i64 b',.list aa ak]=r:=
 bc (key:=116) (L:=Sw CC) (bs:=[.loop (aw [1,1,0,1,0,0] nu)]) (by kernel_rfl) (bD (ad6 CC) ax) (a9 (by kernel_rfl) h)
end Go.AM
set_option maxRecDepth 100000
set_option maxHeartbeats 4000000
namespace Go.AM.SX
open Go.Proofs Go.Sort
theorem xG (p:XE→Bool) (d:Array XE) (j i:Nat):scanUp p d j i=if i≤j then (if p d[i]! =true then scanUp p d j (i+1) else i) else i:=by
 conv=>lhs;rw[scanUp]
 by_cases h:i≤j
 ·rw[aj h];simp only[h,ra,lH]
 ·rw[ai h,ai (by simp[h])]
theorem KV (p:XE→Bool) (d:Array XE) (i j:Nat):scanDown p d i (j+1)=if i≤j+1 then (if p d[j+1]! =true then scanDown p d i j else j+1) else j+1:=by
 conv=>lhs;rw[scanDown]
 by_cases h:i≤j+1
 ·rw[aj h];simp only[h,ra,lH]
 ·rw[ai h,ai (by simp[h])]
theorem Fu (d:Array XE) (b i:Nat):scanSorted aA d b i=if i<b then (if bW d[i]! d[i-1]! <0 then i else scanSorted aA d b (i+1)) else i:=by
 conv=>lhs;rw[scanSorted]
 by_cases h:i<b
 ·rw[aj h];simp only[h,ra,lH,qN]
  by_cases U:bW d[i]! d[i-1]! <0
  ·rw[ai (pR U),aj U]
  ·rw[aj U,ai U]
 ·rw[ai h,ai (by simp[h])]
theorem Sz (j:Nat) (d:Array XE):shiftDown aA (j+1) d=if bW d[j+1]! d[j]! <0 then shiftDown aA j (swp d (j+1) j) else d:=by
 conv=>lhs;rw[shiftDown]
 simp only[qN]
 by_cases U:bW d[j+1]! d[j]! <0
 ·rw[ai (pR U),aj U]
 ·rw[aj U,ai U]
theorem Fv (b j:Nat) (d:Array XE):shiftUp aA b j d=if j<b then (if bW d[j]! d[j-1]! <0 then shiftUp aA b (j+1) (swp d j (j-1)) else d) else d:=by
 conv=>lhs;rw[shiftUp]
 simp only[qN]
 by_cases h:j<b
 ·rw[aj h,aj h]
  by_cases U:bW d[j]! d[j-1]! <0
  ·rw[ai (pR U),aj U]
  ·rw[aj U,ai U]
 ·rw[ai h,ai h]
theorem aea {a:Nat}: ∀(n i j:Nat) (d:Array XE),j+1-i≤n→(partLoop aA a i j d).2.size=d.size∧(partLoop aA a i j d).1≤j:=by
 intro n
 induction n with
 | zero=>
  intro i j d hn
  have h1:=scanUp_ge (fun x=>aA x d[a]!) d j i
  have U:=scanDown_le (fun x=> !aA x d[a]!) d (scanUp (fun x=>aA x d[a]!) d j i) j
  rw[partLoop_eq,aj (by omega)]
  exact ⟨rfl,U⟩
 | succ n ih=>
  intro i j d hn
  rw[partLoop_eq]
  have h1:=scanUp_ge (fun x=>aA x d[a]!) d j i
  have U:=scanDown_le (fun x=> !aA x d[a]!) d (scanUp (fun x=>aA x d[a]!) d j i) j
  split
  ·exact ⟨rfl,U⟩
  ·obtain ⟨h3,h4⟩:=ih (scanUp (fun x=>aA x d[a]!) d j i+1) (scanDown (fun x=> !aA x d[a]!) d (scanUp (fun x=>aA x d[a]!) d j i) j-1) (swp d (scanUp (fun x=>aA x d[a]!) d j i) (scanDown (fun x=> !aA x d[a]!) d (scanUp (fun x=>aA x d[a]!) d j i) j)) (by omega)
   exact ⟨by rw[h3,size_swp],by omega⟩
theorem km {β:Type} {d:Array XE} {i:Nat} {x y:Option β} (h:i<d.size):(bif (decide (0≤(i:Int)))&&(decide ((i:Int)<((eA d).length:Int))) then x else y)=x:=by
 rw[fE,cO,az,aj (by omega),az,aj (by omega)]
theorem Fw {β:Type} {d:Array XE} {i k:Nat} {v:V} {x y:Option β} (h:i<d.size):(bif (decide (0≤(i:Int)))&&(decide ((i:Int)<(((eA d).set k v).length:Int))) then x else y)=x:=by
 rw[nG,fE,cO,az,aj (by omega),az,aj (by omega)]
theorem ko {β:Type} {d:Array XE} {i:Nat} {f:V→Option β} (h:i<d.size):((eA d)[(i:Int).toNat]?).bind f=f (d[i]!).enc:=by
 rw[Int.toNat_natCast,fG h];rfl
theorem Fx {β:Type} {d:Array XE} {i k:Nat} {v:V} {x:Option β} (h:i<d.size):(((eA d).set k v)[(i:Int).toNat]?).bind (fun _=>x)=x:=by
 rw[Int.toNat_natCast,bM (by rw[nG,fE];exact h)];rfl
theorem qP {β:Type} {d:Array XE} {i:Nat} {f:V→Option β} (h:i<d.size):((eA d)[i]?).bind f=f (d[i]!).enc:=by
 rw[fG h];rfl
theorem KW {β:Type} {d:Array XE} {i k:Nat} {v:V} {x:Option β} (h:i<d.size):(((eA d).set k v)[i]?).bind (fun _=>x)=x:=by
 rw[bM (by rw[nG,fE];exact h)];rfl
theorem aeb {a j:Nat} {d:Array XE} (ha:a<d.size) (hj:j<d.size) (hs:d.size<1152921504606846976): ∀(n i:Nat),j+1-i=n→i≤d.size→
  ∃t,Loop (AX CC a j (eA d)) (i:Int)=some (((scanUp (fun x=>aA x d[a]!) d j i:Nat):Int),t):=by
 intro n
 induction n with
 | zero=>
  intro i hn hi
  rw[xG,ai (by omega)]
  exact ⟨false,aX (by simp (disch:=omega) only[AX,AW,az,ai])⟩
 | succ n ih=>
  intro i hn hi
  obtain ⟨t,h⟩:=ih (i+1) (by omega) (by omega)
  rw[xG,aj (by omega)]
  have e:AX CC a j (eA d) (i:Int)=if bW d[i]! d[a]! <0 then some (.inl ((i+1:Nat):Int)) else some (.inr ((i:Int),decide (bW d[i]! d[a]! <0))):=by
   simp (disch:=omega) only[AX,AW,az,cO,gJ,aj,ai,wrap64,dG,fH,Int.toNat_natCast,Option.bind_some,fE,fG,XE.aZ,XE.bj,XE.bd,XE.re,fF,ib,gx,gp,V.aU,V.toInt_int,cond_true,cond_false]
  simp only[sw]
  by_cases U:bW d[i]! d[a]! <0
  ·rw[aj U] at e
   rw[aj U]
   exact ⟨t,(bR e).trans h⟩
  ·rw[ai U] at e
   rw[ai U]
   exact ⟨_,aX e⟩
theorem SA {a j:Nat} {d:Array XE} (ha:a<d.size) (hj:j<d.size) (hs:d.size<1152921504606846976): ∀(n i:Nat),j+1-i=n→i≤d.size→
  ∃t,Loop (AZ CC a j (eA d)) (i:Int)=some (((scanUp (fun x=>aA x d[a]!) d j i:Nat):Int),t):=by
 intro n
 induction n with
 | zero=>
  intro i hn hi
  rw[xG,ai (by omega)]
  exact ⟨false,aX (by simp (disch:=omega) only[AZ,AY,az,ai])⟩
 | succ n ih=>
  intro i hn hi
  obtain ⟨t,h⟩:=ih (i+1) (by omega) (by omega)
  rw[xG,aj (by omega)]
  have e:AZ CC a j (eA d) (i:Int)=if bW d[i]! d[a]! <0 then some (.inl ((i+1:Nat):Int)) else some (.inr ((i:Int),decide (bW d[i]! d[a]! <0))):=by
   simp (disch:=omega) only[AZ,AY,az,cO,gJ,aj,ai,wrap64,dG,fH,Int.toNat_natCast,Option.bind_some,fE,fG,XE.aZ,XE.bj,XE.bd,XE.re,fF,ib,gx,gp,V.aU,V.toInt_int,cond_true,cond_false]
  simp only[sw]
  by_cases U:bW d[i]! d[a]! <0
  ·rw[aj U] at e
   rw[aj U]
   exact ⟨t,(bR e).trans h⟩
  ·rw[ai U] at e
   rw[ai U]
   exact ⟨_,aX e⟩
theorem SB {a i:Nat} {d:Array XE} (ha:a<d.size) (hi:1≤i) (hs:d.size<1152921504606846976): ∀(j:Nat),j<d.size→
  ∃t,Loop (xy CC a i (eA d)) (j:Int)=some (((scanDown (fun x=> !aA x d[a]!) d i j:Nat):Int),t)
 | 0,hj=>⟨false,aX (by simp (disch:=omega) only[xy,xx,az,ai];rfl)⟩
 | j+1,hj=>by
  obtain ⟨t,h⟩:=SB ha hi hs j (by omega)
  rw[KV]
  by_cases h1:i≤j+1
  ·rw[aj h1]
   have e:xy CC a i (eA d) ((j+1:Nat):Int)=if bW d[j+1]! d[a]! <0 then some (.inr (((j+1:Nat):Int),!decide (bW d[j+1]! d[a]! <0))) else some (.inl (j:Int)):=by
    simp (disch:=omega) only[xy,xx,az,cO,gJ,aj,ai,wrap64,dG,fH,Int.toNat_natCast,Option.bind_some,fE,fG,XE.aZ,XE.bj,XE.bd,XE.re,fF,ib,gx,gp,V.aU,V.toInt_int,cond_true,cond_false,uF]
   simp only[qN]
   by_cases U:bW d[j+1]! d[a]! <0
   ·rw[aj U] at e
    rw[ai (pR U)]
    exact ⟨_,aX e⟩
   ·rw[ai U] at e
    rw[aj U]
    exact ⟨t,(bR e).trans h⟩
  ·rw[ai h1]
   exact ⟨false,aX (by simp (disch:=omega) only[xy,xx,az,ai])⟩
theorem KX {a i:Nat} {d:Array XE} (ha:a<d.size) (hi:1≤i) (hs:d.size<1152921504606846976): ∀(j:Nat),j<d.size→
  ∃t,Loop (xA CC a i (eA d)) (j:Int)=some (((scanDown (fun x=> !aA x d[a]!) d i j:Nat):Int),t)
 | 0,hj=>⟨false,aX (by simp (disch:=omega) only[xA,xz,az,ai];rfl)⟩
 | j+1,hj=>by
  obtain ⟨t,h⟩:=KX ha hi hs j (by omega)
  rw[KV]
  by_cases h1:i≤j+1
  ·rw[aj h1]
   have e:xA CC a i (eA d) ((j+1:Nat):Int)=if bW d[j+1]! d[a]! <0 then some (.inr (((j+1:Nat):Int),!decide (bW d[j+1]! d[a]! <0))) else some (.inl (j:Int)):=by
    simp (disch:=omega) only[xA,xz,az,cO,gJ,aj,ai,wrap64,dG,fH,Int.toNat_natCast,Option.bind_some,fE,fG,XE.aZ,XE.bj,XE.bd,XE.re,fF,ib,gx,gp,V.aU,V.toInt_int,cond_true,cond_false,uF]
   simp only[qN]
   by_cases U:bW d[j+1]! d[a]! <0
   ·rw[aj U] at e
    rw[ai (pR U)]
    exact ⟨_,aX e⟩
   ·rw[ai U] at e
    rw[aj U]
    exact ⟨t,(bR e).trans h⟩
  ·rw[ai h1]
   exact ⟨false,aX (by simp (disch:=omega) only[xA,xz,az,ai])⟩
theorem SC {a j:Nat} {d:Array XE} (ha:a<d.size) (hj:j<d.size) (hs:d.size<1152921504606846976): ∀(n i:Nat),j+1-i=n→i≤d.size→
  ∃t,Loop (A4 CC a j (eA d)) (i:Int)=some (((scanUp (fun x=> !aA d[a]! x) d j i:Nat):Int),t):=by
 intro n
 induction n with
 | zero=>
  intro i hn hi
  rw[xG,ai (by omega)]
  exact ⟨false,aX (by simp (disch:=omega) only[A4,A3,az,ai])⟩
 | succ n ih=>
  intro i hn hi
  obtain ⟨t,h⟩:=ih (i+1) (by omega) (by omega)
  rw[xG,aj (by omega)]
  have e:A4 CC a j (eA d) (i:Int)=if bW d[a]! d[i]! <0 then some (.inr ((i:Int),!decide (bW d[a]! d[i]! <0))) else some (.inl ((i+1:Nat):Int)):=by
   simp (disch:=omega) only[A4,A3,az,cO,gJ,aj,ai,wrap64,dG,fH,Int.toNat_natCast,Option.bind_some,fE,fG,XE.aZ,XE.bj,XE.bd,XE.re,fF,ib,gx,gp,V.aU,V.toInt_int,cond_true,cond_false]
  simp only[qN]
  by_cases U:bW d[a]! d[i]! <0
  ·rw[aj U] at e
   rw[ai (pR U)]
   exact ⟨_,aX e⟩
  ·rw[ai U] at e
   rw[aj U]
   exact ⟨t,(bR e).trans h⟩
theorem KY {a i:Nat} {d:Array XE} (ha:a<d.size) (hi:1≤i) (hs:d.size<1152921504606846976): ∀(j:Nat),j<d.size→
  ∃t,Loop (xE CC a i (eA d)) (j:Int)=some (((scanDown (fun x=>aA d[a]! x) d i j:Nat):Int),t)
 | 0,hj=>⟨false,aX (by simp (disch:=omega) only[xE,xD,az,ai];rfl)⟩
 | j+1,hj=>by
  obtain ⟨t,h⟩:=KY ha hi hs j (by omega)
  rw[KV]
  by_cases h1:i≤j+1
  ·rw[aj h1]
   have e:xE CC a i (eA d) ((j+1:Nat):Int)=if bW d[a]! d[j+1]! <0 then some (.inl (j:Int)) else some (.inr (((j+1:Nat):Int),decide (bW d[a]! d[j+1]! <0))):=by
    simp (disch:=omega) only[xE,xD,az,cO,gJ,aj,ai,wrap64,dG,fH,Int.toNat_natCast,Option.bind_some,fE,fG,XE.aZ,XE.bj,XE.bd,XE.re,fF,ib,gx,gp,V.aU,V.toInt_int,cond_true,cond_false,uF]
   simp only[sw]
   by_cases U:bW d[a]! d[j+1]! <0
   ·rw[aj U] at e
    rw[aj U]
    exact ⟨t,(bR e).trans h⟩
   ·rw[ai U] at e
    rw[ai U]
    exact ⟨_,aX e⟩
  ·rw[ai h1]
   exact ⟨false,aX (by simp (disch:=omega) only[xE,xD,az,ai])⟩
theorem aec {a:Nat}: ∀(n i j:Nat) (d:Array XE),j+1-i≤n→1≤i→i≤d.size→a<d.size→j<d.size→d.size<1152921504606846976→
  ∃x z,Loop (xB CC a) ((i:Int),(j:Int),eA d)=some (x,(((partLoop aA a i j d).1:Nat):Int),z,eA (partLoop aA a i j d).2):=by
 intro n
 induction n with
 | zero=>
  intro i j d hn h1 U ha hj hs
  obtain ⟨t3,e3⟩:=SA (a:=a) ha hj hs _ i rfl U
  have g1:=scanUp_ge (fun x=>aA x d[a]!) d j i
  have g2:=scanDown_le (fun x=> !aA x d[a]!) d (scanUp (fun x=>aA x d[a]!) d j i) j
  obtain ⟨t4,e4⟩:=KX (a:=a) (i:=scanUp (fun x=>aA x d[a]!) d j i) ha (by omega) hs j hj
  rw[partLoop_eq,aj (by omega)]
  refine ⟨((scanUp (fun x=>aA x d[a]!) d j i:Nat):Int),true,aX ?_⟩
  simp only[xB,A0,un]
  rw[e3]
  simp only[Option.bind_some,un]
  rw[e4]
  simp (disch:=omega) only[Option.bind_some,un,nk,cond_true]
 | succ n ih=>
  intro i j d hn h1 U ha hj hs
  obtain ⟨t3,e3⟩:=SA (a:=a) ha hj hs _ i rfl U
  have g1:=scanUp_ge (fun x=>aA x d[a]!) d j i
  have g2:=scanDown_le (fun x=> !aA x d[a]!) d (scanUp (fun x=>aA x d[a]!) d j i) j
  obtain ⟨t4,e4⟩:=KX (a:=a) (i:=scanUp (fun x=>aA x d[a]!) d j i) ha (by omega) hs j hj
  rw[partLoop_eq]
  have f:xB CC a ((i:Int),(j:Int),eA d)=xB CC a ((i:Int),(j:Int),eA d):=rfl
  conv at f=>rhs;simp only[xB,A0,un];rw[e3];simp only[Option.bind_some,un];rw[e4];simp only[Option.bind_some,un]
  generalize gF:scanUp (fun x=>aA x d[a]!) d j i=i2 at*
  generalize fP:scanDown (fun x=> !aA x d[a]!) d i2 j=j2 at*
  by_cases h:i2>j2
  ·rw[aj h]
   refine ⟨(i2:Int),true,aX (f.trans ?_)⟩
   simp (disch:=omega) only[Option.bind_some,nk,cond_true]
  ·rw[ai h]
   obtain ⟨x,z,e⟩:=ih (i2+1) (j2-1) (swp d i2 j2) (by omega) (by omega) (by rw[size_swp];omega) (by rw[size_swp];omega) (by rw[size_swp];omega) (by rw[size_swp];omega)
   refine ⟨x,z,(bR (f.trans ?_)).trans e⟩
   simp (disch:=omega) only[az,cO,gJ,aj,ai,wrap64,dG,fH,Int.toNat_natCast,Option.bind_some,fE,fG,XE.aZ,XE.bj,XE.bd,XE.re,fF,ib,gx,gp,V.aU,V.toInt_int,cond_true,cond_false,kj]
   rfl
theorem aed (d:Array XE) (a b pivot:Nat):partition aA d a b pivot=
  if scanUp (fun x=>aA x (swp d a pivot)[a]!) (swp d a pivot) (b-1) (a+1)>scanDown (fun x=> !aA x (swp d a pivot)[a]!) (swp d a pivot) (scanUp (fun x=>aA x (swp d a pivot)[a]!) (swp d a pivot) (b-1) (a+1)) (b-1) then
   (scanDown (fun x=> !aA x (swp d a pivot)[a]!) (swp d a pivot) (scanUp (fun x=>aA x (swp d a pivot)[a]!) (swp d a pivot) (b-1) (a+1)) (b-1),true,swp (swp d a pivot) (scanDown (fun x=> !aA x (swp d a pivot)[a]!) (swp d a pivot) (scanUp (fun x=>aA x (swp d a pivot)[a]!) (swp d a pivot) (b-1) (a+1)) (b-1)) a)
  else
   ((partLoop aA a (scanUp (fun x=>aA x (swp d a pivot)[a]!) (swp d a pivot) (b-1) (a+1)+1) (scanDown (fun x=> !aA x (swp d a pivot)[a]!) (swp d a pivot) (scanUp (fun x=>aA x (swp d a pivot)[a]!) (swp d a pivot) (b-1) (a+1)) (b-1)-1) (swp (swp d a pivot) (scanUp (fun x=>aA x (swp d a pivot)[a]!) (swp d a pivot) (b-1) (a+1)) (scanDown (fun x=> !aA x (swp d a pivot)[a]!) (swp d a pivot) (scanUp (fun x=>aA x (swp d a pivot)[a]!) (swp d a pivot) (b-1) (a+1)) (b-1)))).1,false,
    swp (partLoop aA a (scanUp (fun x=>aA x (swp d a pivot)[a]!) (swp d a pivot) (b-1) (a+1)+1) (scanDown (fun x=> !aA x (swp d a pivot)[a]!) (swp d a pivot) (scanUp (fun x=>aA x (swp d a pivot)[a]!) (swp d a pivot) (b-1) (a+1)) (b-1)-1) (swp (swp d a pivot) (scanUp (fun x=>aA x (swp d a pivot)[a]!) (swp d a pivot) (b-1) (a+1)) (scanDown (fun x=> !aA x (swp d a pivot)[a]!) (swp d a pivot) (scanUp (fun x=>aA x (swp d a pivot)[a]!) (swp d a pivot) (b-1) (a+1)) (b-1)))).2
    (partLoop aA a (scanUp (fun x=>aA x (swp d a pivot)[a]!) (swp d a pivot) (b-1) (a+1)+1) (scanDown (fun x=> !aA x (swp d a pivot)[a]!) (swp d a pivot) (scanUp (fun x=>aA x (swp d a pivot)[a]!) (swp d a pivot) (b-1) (a+1)) (b-1)-1) (swp (swp d a pivot) (scanUp (fun x=>aA x (swp d a pivot)[a]!) (swp d a pivot) (b-1) (a+1)) (scanDown (fun x=> !aA x (swp d a pivot)[a]!) (swp d a pivot) (scanUp (fun x=>aA x (swp d a pivot)[a]!) (swp d a pivot) (b-1) (a+1)) (b-1)))).1 a):=rfl
theorem xH (d:Array XE) (i j:Nat):eA ((d.setIfInBounds i d[j]!).setIfInBounds j d[i]!)=eA (swp d i j):=rfl
theorem aee {a b pivot:Nat} {d:Array XE} (hp:pivot<b) (eY:a<b) (hb:b≤d.size) (hs:d.size<1152921504606846976):
  CC m7 [.int .i64 (a:Int),.int .i64 (b:Int),.int .i64 (pivot:Int),.list aa (eA d)]=
   some [.int .i64 ((partition aA d a b pivot).1:Int),.bool (partition aA d a b pivot).2.1,.list aa (eA (partition aA d a b pivot).2.2)]:=by
 refine adT ?_
 unfold Sr
 have z1:(swp d a pivot).size=d.size:=size_swp ..
 obtain ⟨t1,e1⟩:=aeb (a:=a) (j:=b-1) (d:=swp d a pivot) (by omega) (by omega) (by omega) _ (a+1) rfl (by omega)
 have g1:=scanUp_ge (fun x=>aA x (swp d a pivot)[a]!) (swp d a pivot) (b-1) (a+1)
 have g2:=scanDown_le (fun x=> !aA x (swp d a pivot)[a]!) (swp d a pivot) (scanUp (fun x=>aA x (swp d a pivot)[a]!) (swp d a pivot) (b-1) (a+1)) (b-1)
 obtain ⟨t2,e2⟩:=SB (a:=a) (i:=scanUp (fun x=>aA x (swp d a pivot)[a]!) (swp d a pivot) (b-1) (a+1)) (d:=swp d a pivot) (by omega) (by omega) (by omega) (b-1) (by omega)
 have e0:=aed d a b pivot
 rw[km (i:=pivot) (by omega),ko (by omega),km (i:=a) (by omega),ko (by omega),km (i:=a) (by omega),ko (by omega),Fw (i:=pivot) (by omega),Fx (by omega)]
 simp only[XE.aZ,XE.bj,XE.bd,XE.re,Int.toNat_natCast,fF,xH]
 simp (disch:=omega) only[kj,dG,wrap64]
 rw[e1]
 simp only[Option.bind_some,un]
 rw[e2]
 simp only[Option.bind_some,un]
 generalize gF:scanUp (fun x=>aA x (swp d a pivot)[a]!) (swp d a pivot) (b-1) (a+1)=i2 at*
 generalize fP:scanDown (fun x=> !aA x (swp d a pivot)[a]!) (swp d a pivot) i2 (b-1)=j2 at*
 generalize swp d a pivot=d1 at*
 by_cases h:i2>j2
 ·rw[aj h] at e0
  rw[e0,az,aj (by omega)]
  rw[km (i:=a) (by omega)];(first|rw[ko (by omega)]|rw[qP (by omega)]);rw[km (i:=j2) (by omega)];(first|rw[ko (by omega)]|rw[qP (by omega)]);rw[km (i:=j2) (by omega)];(first|rw[ko (by omega)]|rw[qP (by omega)]);rw[Fw (i:=a) (by omega)];(first|rw[Fx (by omega)]|rw[KW (by omega)])
  simp only[XE.aZ,XE.bj,XE.bd,XE.re,Int.toNat_natCast,fF,xH]
 ·rw[ai h] at e0
  rw[e0,az,ai (by omega)]
  have z2:(swp d1 i2 j2).size=d1.size:=size_swp ..
  obtain ⟨x,z,e5⟩:=aec (a:=a) _ (i2+1) (j2-1) (swp d1 i2 j2) (bZ _) (by omega) (by omega) (by omega) (by omega) (by omega)
  obtain ⟨q1,q2⟩:=aea (a:=a) _ (i2+1) (j2-1) (swp d1 i2 j2) (bZ _)
  rw[km (i:=j2) (by omega)];(first|rw[ko (by omega)]|rw[qP (by omega)]);rw[km (i:=i2) (by omega)];(first|rw[ko (by omega)]|rw[qP (by omega)]);rw[km (i:=i2) (by omega)];(first|rw[ko (by omega)]|rw[qP (by omega)]);rw[Fw (i:=j2) (by omega)];(first|rw[Fx (by omega)]|rw[KW (by omega)])
  simp only[XE.aZ,XE.bj,XE.bd,XE.re,Int.toNat_natCast,fF,xH]
  simp (disch:=omega) only[kj,dG,wrap64]
  rw[e5]
  generalize partLoop aA a (i2+1) (j2-1) (swp d1 i2 j2)=r at*
  simp only[Option.bind_some,un]
  rw[km (i:=a) (by omega)];(first|rw[ko (by omega)]|rw[qP (by omega)]);rw[km (i:=r.1) (by omega)];(first|rw[ko (by omega)]|rw[qP (by omega)]);rw[km (i:=r.1) (by omega)];(first|rw[ko (by omega)]|rw[qP (by omega)]);rw[Fw (i:=a) (by omega)];(first|rw[Fx (by omega)]|rw[KW (by omega)])
  simp only[XE.aZ,XE.bj,XE.bd,XE.re,Int.toNat_natCast,fF,xH]
theorem aef {a:Nat}: ∀(n i j:Nat) (d:Array XE),j+1-i≤n→1≤i→i≤d.size→a<d.size→j<d.size→d.size<1152921504606846976→
  ∃x z,Loop (xF CC a) ((i:Int),(j:Int),eA d)=some ((((partEqLoop aA a i j d).1:Nat):Int),x,z,eA (partEqLoop aA a i j d).2):=by
 intro n
 induction n with
 | zero=>
  intro i j d hn h1 U ha hj hs
  obtain ⟨t3,e3⟩:=SC (a:=a) ha hj hs _ i rfl U
  have g1:=scanUp_ge (fun x=> !aA d[a]! x) d j i
  have g2:=scanDown_le (fun x=>aA d[a]! x) d (scanUp (fun x=> !aA d[a]! x) d j i) j
  obtain ⟨t4,e4⟩:=KY (a:=a) (i:=scanUp (fun x=> !aA d[a]! x) d j i) ha (by omega) hs j hj
  rw[partEqLoop_eq,aj (by omega)]
  refine ⟨((scanDown (fun x=>aA d[a]! x) d (scanUp (fun x=> !aA d[a]! x) d j i) j:Nat):Int),true,aX ?_⟩
  simp only[xF,A5,un]
  rw[e3]
  simp only[Option.bind_some,un]
  rw[e4]
  simp (disch:=omega) only[Option.bind_some,un,nk,cond_true]
 | succ n ih=>
  intro i j d hn h1 U ha hj hs
  obtain ⟨t3,e3⟩:=SC (a:=a) ha hj hs _ i rfl U
  have g1:=scanUp_ge (fun x=> !aA d[a]! x) d j i
  have g2:=scanDown_le (fun x=>aA d[a]! x) d (scanUp (fun x=> !aA d[a]! x) d j i) j
  obtain ⟨t4,e4⟩:=KY (a:=a) (i:=scanUp (fun x=> !aA d[a]! x) d j i) ha (by omega) hs j hj
  rw[partEqLoop_eq]
  have f:xF CC a ((i:Int),(j:Int),eA d)=xF CC a ((i:Int),(j:Int),eA d):=rfl
  conv at f=>rhs;simp only[xF,A5,un];rw[e3];simp only[Option.bind_some,un];rw[e4];simp only[Option.bind_some,un]
  generalize gF:scanUp (fun x=> !aA d[a]! x) d j i=i2 at*
  generalize fP:scanDown (fun x=>aA d[a]! x) d i2 j=j2 at*
  by_cases h:i2>j2
  ·rw[aj h]
   refine ⟨(j2:Int),true,aX (f.trans ?_)⟩
   simp (disch:=omega) only[Option.bind_some,nk,cond_true]
  ·rw[ai h]
   obtain ⟨x,z,e⟩:=ih (i2+1) (j2-1) (swp d i2 j2) (by omega) (by omega) (by rw[size_swp];omega) (by rw[size_swp];omega) (by rw[size_swp];omega) (by rw[size_swp];omega)
   refine ⟨x,z,(bR (f.trans ?_)).trans e⟩
   simp (disch:=omega) only[az,cO,gJ,aj,ai,wrap64,dG,fH,Int.toNat_natCast,Option.bind_some,fE,fG,XE.aZ,XE.bj,XE.bd,XE.re,fF,ib,gx,gp,V.aU,V.toInt_int,cond_true,cond_false,kj]
   rfl
theorem aeg {a b pivot:Nat} {d:Array XE} (hp:pivot<b) (eY:a<b) (hb:b≤d.size) (hs:d.size<1152921504606846976):
  CC uc [.int .i64 (a:Int),.int .i64 (b:Int),.int .i64 (pivot:Int),.list aa (eA d)]=
   some [.int .i64 ((partitionEqual aA d a b pivot).1:Int),.list aa (eA (partitionEqual aA d a b pivot).2)]:=by
 refine adZ ?_
 unfold Su
 have z1:(swp d a pivot).size=d.size:=size_swp ..
 obtain ⟨x,z,e⟩:=aef (a:=a) _ (a+1) (b-1) (swp d a pivot) (bZ _) (by omega) (by omega) (by omega) (by omega) (by omega)
 simp (disch:=omega) only[az,cO,aj,fE,fG,Int.toNat_natCast,Option.bind_some,XE.aZ,XE.bj,XE.bd,XE.re,fF,ib,gx,kj,dG,wrap64,xH]
 rw[e]
 rfl
theorem aeh {a b j:Nat} {d:Array XE} (hb:b≤d.size) (hs:d.size<1152921504606846976): ∀(n i:Nat),b-i=n→1≤i→i≤b→
  ∃t,Loop (A7 CC a b j (eA d)) (i:Int)=some (((scanSorted aA d b i:Nat):Int),t):=by
 intro n
 induction n with
 | zero=>
  intro i hn h1 hi
  rw[Fu,ai (by omega)]
  exact ⟨false,aX (by simp (disch:=omega) only[A7,A6,az,ai])⟩
 | succ n ih=>
  intro i hn h1 hi
  obtain ⟨t,h⟩:=ih (i+1) (by omega) (by omega) (by omega)
  rw[Fu,aj (by omega)]
  have e:A7 CC a b j (eA d) (i:Int)=if bW d[i]! d[i-1]! <0 then some (.inr ((i:Int),!decide (bW d[i]! d[i-1]! <0))) else some (.inl ((i+1:Nat):Int)):=by
   simp (disch:=omega) only[A7,A6,kj,az,cO,gJ,aj,ai,wrap64,dG,fH,Int.toNat_natCast,Option.bind_some,fE,fG,XE.aZ,XE.bj,XE.bd,XE.re,fF,ib,gx,gp,V.aU,V.toInt_int,cond_true,cond_false]
  by_cases U:bW d[i]! d[i-1]! <0
  ·rw[aj U] at e⊢
   exact ⟨_,aX e⟩
  ·rw[ai U] at e⊢
   exact ⟨t,(bR e).trans h⟩
theorem SD: ∀(j:Nat) (d:Array XE),(shiftDown aA j d).size=d.size
 | 0,_=>rfl
 | j+1,d=>by
  rw[Sz]
  split
  ·rw[SD j,size_swp]
  ·rfl
theorem aei {b:Nat}: ∀(n j:Nat) (d:Array XE),b-j=n→(shiftUp aA b j d).size=d.size:=by
 intro n
 induction n with
 | zero=>intro j d h;rw[Fv,ai (by omega)]
 | succ n ih=>
  intro j d h
  rw[Fv,aj (by omega)]
  split
  ·rw[ih _ _ (by omega),size_swp]
  ·rfl
theorem SE {a b i k:Nat}: ∀(j:Nat) (d:Array XE),j<d.size→d.size<1152921504606846976→
  ∃t,Loop (A9 CC a b i k) ((j:Int),eA d)=some (t,eA (shiftDown aA j d))
 | 0,d,hj,hs=>⟨(0:Nat),aX (by
   simp (disch:=omega) only[A9,A8,un,az,ai]
   rfl)⟩
 | j+1,d,hj,hs=>by
  obtain ⟨t,ih⟩:=SE (a:=a) (b:=b) (i:=i) (k:=k) j (swp d (j+1) j) (by rw[size_swp];omega) (by rw[size_swp];omega)
  rw[Sz]
  have e:A9 CC a b i k (((j+1:Nat):Int),eA d)=if bW d[j+1]! d[j]! <0 then some (.inl ((j:Int),eA (swp d (j+1) j))) else some (.inr (((j+1:Nat):Int),eA d)):=by
   simp (disch:=omega) only[A9,A8,un,az,cO,gJ,aj,ai,wrap64,dG,fH,Int.toNat_natCast,Option.bind_some,fE,fG,XE.aZ,XE.bj,XE.bd,XE.re,fF,ib,gx,gp,V.aU,V.toInt_int,cond_true,cond_false,uF]
   rfl
  by_cases U:bW d[j+1]! d[j]! <0
  ·rw[aj U] at e⊢
   exact ⟨t,(bR e).trans ih⟩
  ·rw[ai U] at e⊢
   exact ⟨_,aX e⟩
theorem aej {a b i k:Nat}: ∀(n j:Nat) (d:Array XE),b-j=n→1≤j→j≤b→b≤d.size→d.size<1152921504606846976→
  ∃t,Loop (Bb CC a b i k) ((j:Int),eA d)=some (t,eA (shiftUp aA b j d)):=by
 intro n
 induction n with
 | zero=>
  intro j d hn h1 hj hb hs
  rw[Fv,ai (by omega)]
  exact ⟨(j:Int),aX (by
   simp (disch:=omega) only[Bb,Ba,un,az,ai])⟩
 | succ n ih=>
  intro j d hn h1 hj hb hs
  obtain ⟨t,h⟩:=ih (j+1) (swp d j (j-1)) (by omega) (by omega) (by omega) (by rw[size_swp];omega) (by rw[size_swp];omega)
  rw[Fv,aj (by omega)]
  have e:Bb CC a b i k ((j:Int),eA d)=if bW d[j]! d[j-1]! <0 then some (.inl (((j+1:Nat):Int),eA (swp d j (j-1)))) else some (.inr ((j:Int),eA d)):=by
   simp (disch:=omega) only[Bb,Ba,un,kj,az,cO,gJ,aj,ai,wrap64,dG,fH,Int.toNat_natCast,Option.bind_some,fE,fG,XE.aZ,XE.bj,XE.bd,XE.re,fF,ib,gx,gp,V.aU,V.toInt_int,cond_true,cond_false]
   rfl
  by_cases U:bW d[j]! d[j-1]! <0
  ·rw[aj U] at e⊢
   exact ⟨t,(bR e).trans h⟩
  ·rw[ai U] at e⊢
   exact ⟨_,aX e⟩
theorem aek {d:Array XE} {b:Nat}: ∀(n i:Nat),b-i=n→i≤b→i≤scanSorted aA d b i∧scanSorted aA d b i≤b:=by
 intro n
 induction n with
 | zero=>intro i hn hi;rw[Fu,ai (by omega)];omega
 | succ n ih=>
  intro i hn hi
  rw[Fu,aj (by omega)]
  obtain ⟨h1,U⟩:=ih (i+1) (by omega) (by omega)
  split<;>omega
theorem ael {a b:Nat}: ∀(s i:Nat) (d:Array XE),s≤5→a<i→i≤b→b≤d.size→d.size<1152921504606846976→
  (Loop (sy CC a b) ((i:Int),((5-s:Nat):Int),eA d)=some (.inl ((partialIns aA a b s i d).2,eA (partialIns aA a b s i d).1)))∨
  (∃x y z,(partialIns aA a b s i d).2=false∧Loop (sy CC a b) ((i:Int),((5-s:Nat):Int),eA d)=some (.inr (x,y,z,eA (partialIns aA a b s i d).1))):=by
 intro s
 induction s with
 | zero=>
  intro i d hs5 hi KZ hb hs
  refine .inr ⟨(i:Int),((5:Nat):Int),false,rfl,aX ?_⟩
  simp (disch:=omega) only[sy,Bc,un,sr,cond_false]
  rfl
 | succ s ih=>
  intro i d hs5 hi KZ hb hs
  obtain ⟨t1,e1⟩:=aeh (a:=a) (j:=5-(s+1)) hb hs _ i rfl (by omega) KZ
  obtain ⟨q1,q2⟩:=aek (d:=d) _ i rfl KZ
  rw[partialIns_succ]
  have f:sy CC a b ((i:Int),((5-(s+1):Nat):Int),eA d)=sy CC a b ((i:Int),((5-(s+1):Nat):Int),eA d):=rfl
  conv at f=>rhs;simp only[sy,Bc,un];rw[az,aj (by omega),e1];simp only[Option.bind_some,un]
  generalize scanSorted aA d b i=k at*
  by_cases h1:k=b
  ·rw[aj h1]
   left
   refine aX (f.trans ?_)
   rw[db,aj (by omega)]
  ·rw[ai h1]
   by_cases U:b-a<50
   ·rw[aj U]
    left
    refine aX (f.trans ?_)
    rw[db,ai (by omega),wrap64 (by omega) (by omega),az,aj (by omega)]
   ·rw[ai U]
    have z1:(swp d k (k-1)).size=d.size:=size_swp ..
    have z2:(fixDown aA a k (swp d k (k-1))).size=d.size:=by
     unfold fixDown
     split
     ·rw[SD,z1]
     ·exact z1
    have z3:(fixUp aA b k (fixDown aA a k (swp d k (k-1)))).size=d.size:=by
     unfold fixUp
     split
     ·rw[aei _ _ _ rfl,z2]
     ·exact z2
    obtain ⟨t2,e2⟩:=SE (a:=a) (b:=b) (i:=k) (k:=5-(s+1)) (k-1) (swp d k (k-1)) (by omega) (by omega)
    obtain ⟨t4,e4⟩:=aej (a:=a) (b:=b) (i:=k) (k:=5-(s+1)) _ (k+1) (fixDown aA a k (swp d k (k-1))) rfl (by omega) (by omega) (by omega) (by omega)
    have e5:sy CC a b ((i:Int),((5-(s+1):Nat):Int),eA d)=some (.inl ((k:Int),((5-s:Nat):Int),eA (fixUp aA b k (fixDown aA a k (swp d k (k-1)))))):=by
     refine f.trans ?_
     rw[db,ai (by omega),wrap64 (by omega) (by omega),az,ai (by omega)]
     simp (disch:=omega) only[az,cO,aj,fE,fG,Int.toNat_natCast,Option.bind_some,XE.aZ,XE.bj,XE.bd,XE.re,fF,ib,gx,kj,dG,mj,wrap64,xH,Ft]
     rw[show 5-(s+1)+1=5-s by omega]
     unfold fixDown at e4⊢
     unfold fixUp
     have c1:(((k-a:Nat):Int)≥2)=(k-a≥2):=propext (by omega)
     have c2:(((b-k:Nat):Int)≥2)=(b-k≥2):=propext (by omega)
     simp only[c1,c2]
     by_cases g1:k-a≥2
     ·by_cases g2:b-k≥2
      ·simp only[g1,g2,cF,e2,Option.bind_some,un] at e4⊢
       rw[e4]
       rfl
      ·simp only[g1,g2,cF,fc,e2,Option.bind_some,un]
     ·by_cases g2:b-k≥2
      ·simp only[g1,g2,cF,fc] at e4⊢
       rw[e4]
       rfl
      ·exact absurd (show b-k≥2 by omega) g2
    rw[bR e5]
    exact ih k _ (by omega) (by omega) (by omega) (by omega) (by omega)
theorem SF {a b:Nat} {d:Array XE} (eY:a<b) (hb:b≤d.size) (hs:d.size<1152921504606846976):
  CC Eu [.int .i64 (a:Int),.int .i64 (b:Int),.list aa (eA d)]=
   some [.bool (partialInsertionSort aA d a b).2,.list aa (eA (partialInsertionSort aA d a b).1)]:=by
 refine ad9 ?_
 unfold Sy
 simp (disch:=omega) only[dG,wrap64]
 rcases ael (a:=a) (b:=b) 5 (a+1) d (bZ _) (by omega) (by omega) hb hs with h|⟨x,y,z,h0,h⟩
 ·rw[show ((5-5:Nat):Int)=0 from rfl] at h
  rw[h]
  rfl
 ·rw[show ((5-5:Nat):Int)=0 from rfl] at h
  rw[h]
  unfold partialInsertionSort
  rw[h0]
  rfl
end Go.AM.SX
set_option maxRecDepth 100000
namespace Go.AM
open Go.Proofs
noncomputable abbrev sA:Code:=cJ Try.prog (ay.ba 114)
noncomputable def Be (C:ag) (data:List V) (i j k':Int) (t36:Bool) (gP:Int) {β:Type} (kr:(Int × Int × Int × Int)→Option β):Option β:=
 bif t36 then
  (C wJ [.list aa data,.int .i64 i,.int .i64 gP]).bind fun r1=>
  (C wJ [.list aa data,.int .i64 j,.int .i64 ((V.nth (r1.drop 1) 0).toInt)]).bind fun r2=>
  (C wJ [.list aa data,.int .i64 k',.int .i64 ((V.nth (r2.drop 1) 0).toInt)]).bind fun r3=>
  kr ((V.nth r1 0).toInt,(V.nth r2 0).toInt,(V.nth r3 0).toInt,(V.nth (r3.drop 1) 0).toInt)
 else
  kr (i,j,k',gP)
noncomputable def Bf (C:ag) (data:List V) (l i j k':Int) (t34:Bool) (gP:Int) {β:Type} (kr:(Int × Int)→Option β):Option β:=
 bif t34 then
  Be C data i j k' (decide ((l:Int)≥50)) gP (un fun (fa:Int)=>un fun (j_5:Int)=>un fun (k_6:Int) (aem:Int)=>
   (C Ae [.list aa data,.int .i64 fa,.int .i64 j_5,.int .i64 k_6,.int .i64 aem]).bind fun r8=>
   kr ((V.nth r8 0).toInt,(V.nth (r8.drop 1) 0).toInt))
 else
  kr (j,gP)
noncomputable def SG (C:ag):cz:=fun β n ds k=>
 bif Nat.beq n 591 then iJ JI [[1,0,0,0,0]] (@Be C) ds k else
 bif Nat.beq n 559 then iJ JJ [[0,0]] (@Bf C) ds k else
 none
abbrev SH (C:ag) (b:ct):Prop:=cv Try.prog ay C (SG C) 114 (cL Try.prog (ay.ba 114)) (ay.sin 114).bh.length b
theorem aen (C:ag):SH C (.cond 36 (aw [1,1,1,1,1,1,0,1,0,0,1,0] sA) (aw [1,1,1,1,1,1,0,1,0,0,1,1] sA)):=
 iZ JI [[1,0,0,0,0]] (@Be C) (by kernel_rfl) (bq (bs:=[]) (by kernel_rfl) ax) (bq (bs:=[]) (by kernel_rfl) ax) (fun ds=>by kernel_rfl) (fun i β k=>by kernel_rfl) (fun β ds k=>by kernel_rfl)
theorem aeo (C:ag):SH C (.cond 34 (aw [1,1,1,1,1,1,0,1,0] sA) (aw [1,1,1,1,1,1,0,1,1] sA)):=
 iZ JJ [[0,0]] (@Bf C) (by kernel_rfl) (bq (bs:=[.cond 36 (aw [1,1,1,1,1,1,0,1,0,0,1,0] sA) (aw [1,1,1,1,1,1,0,1,0,0,1,1] sA)]) (by kernel_rfl) (bD (aen C) ax)) (bq (bs:=[]) (by kernel_rfl) ax) (fun ds=>by kernel_rfl) (fun i β k=>by kernel_rfl) (fun β ds k=>by kernel_rfl)
noncomputable def K0 (C:ag) (data:List V) (a b':Int):Option (List V):=
 Bf C data (IntKind.wrap .i64 (b'-a)) (IntKind.wrap .i64 (a+(IntKind.wrap .i64 (1*(IntKind.wrap .i64 (Int.tdiv (IntKind.wrap .i64 (b'-a)) 4)))))) (IntKind.wrap .i64 (a+(IntKind.wrap .i64 (2*(IntKind.wrap .i64 (Int.tdiv (IntKind.wrap .i64 (b'-a)) 4)))))) (IntKind.wrap .i64 (a+(IntKind.wrap .i64 (3*(IntKind.wrap .i64 (Int.tdiv (IntKind.wrap .i64 (b'-a)) 4)))))) (decide (((IntKind.wrap .i64 (b'-a)):Int)≥8)) 0 (un fun (K1:Int) (SI:Int)=>
  bif (SI:Int)==0 then
   some [.int .i64 K1,.int .i64 1]
  else
   bif (SI:Int)==12 then
   some [.int .i64 K1,.int .i64 2]
   else
   some [.int .i64 K1,.int .i64 0])
theorem SJ {data:List V} {a b':Int} {r:Option (List V)} (h:K0 CC data a b'=r):CC Ac [.list aa data,.int .i64 a,.int .i64 b']=r:=
 bc (key:=114) (L:=SG CC) (bs:=[.cond 34 (aw [1,1,1,1,1,1,0,1,0] sA) (aw [1,1,1,1,1,1,0,1,1] sA)]) (by kernel_rfl) (bD (aeo CC) ax) (a9 (by kernel_rfl) h)
noncomputable def SK (C:ag) (data:List V) (a b' c gP:Int):Option (List V):=
 (C wK [.list aa data,.int .i64 a,.int .i64 b',.int .i64 gP]).bind fun r1=>
 (C wK [.list aa data,.int .i64 ((V.nth (r1.drop 1) 0).toInt),.int .i64 c,.int .i64 ((V.nth (r1.drop 2) 0).toInt)]).bind fun r2=>
 (C wK [.list aa data,.int .i64 ((V.nth r1 0).toInt),.int .i64 ((V.nth r2 0).toInt),.int .i64 ((V.nth (r2.drop 2) 0).toInt)]).bind fun r3=>
 some [.int .i64 ((V.nth (r3.drop 1) 0).toInt),.int .i64 ((V.nth (r3.drop 2) 0).toInt)]
theorem aep {data:List V} {a b' c gP:Int} {r:Option (List V)} (h:SK CC data a b' c gP=r):CC Ae [.list aa data,.int .i64 a,.int .i64 b',.int .i64 c,.int .i64 gP]=r:=
 bc (key:=125) (L:=cf) (bs:=[]) (by kernel_rfl) ax (a9 (by kernel_rfl) h)
noncomputable def K2 (C:ag) (data:List V) (a b' gP:Int):Option (List V):=
 (idx data b').bind fun x1=>
 (idx data a).bind fun x2=>
 (C bn [.int .i64 ((x1.cell 0).toInt),.int .i64 ((x1.cell 1).toInt),.list aa ((x1.cell 2).toList),.int .i64 ((x2.cell 0).toInt),.int .i64 ((x2.cell 1).toInt),.list aa ((x2.cell 2).toList)]).bind fun r3=>
 bif decide ((((V.nth r3 0).toInt):Int)<0) then
  some [.int .i64 b',.int .i64 a,.int .i64 (IntKind.wrap .i64 (gP+1))]
 else
  some [.int .i64 a,.int .i64 b',.int .i64 gP]
theorem SL {data:List V} {a b' gP:Int} {r:Option (List V)} (h:K2 CC data a b' gP=r):CC wK [.list aa data,.int .i64 a,.int .i64 b',.int .i64 gP]=r:=
 bc (key:=126) (L:=cf) (bs:=[]) (by kernel_rfl) ax (a9 (by kernel_rfl) h)
noncomputable def SM (C:ag) (data:List V) (a gP:Int):Option (List V):=
 (C Ae [.list aa data,.int .i64 (IntKind.wrap .i64 (a-1)),.int .i64 a,.int .i64 (IntKind.wrap .i64 (a+1)),.int .i64 gP]).bind fun r1=>
 some [.int .i64 ((V.nth r1 0).toInt),.int .i64 ((V.nth (r1.drop 1) 0).toInt)]
theorem aeq {data:List V} {a gP:Int} {r:Option (List V)} (h:SM CC data a gP=r):CC wJ [.list aa data,.int .i64 a,.int .i64 gP]=r:=
 bc (key:=124) (L:=cf) (bs:=[]) (by kernel_rfl) ax (a9 (by kernel_rfl) h)
noncomputable abbrev xI:Code:=cJ Try.prog (ay.ba 113)
noncomputable def Fy (C:ag) (a length xJ jI other:Int) (t45:Bool) (ak:List V) (Bg:Int) {β:Type} (kr:(Int)→Option β):Option β:=
 bif t45 then
  kr (IntKind.wrap .i64 (other-length))
 else
  kr other
noncomputable def Bh (C:ag) (a length xJ jI:Int) (ak:List V) (Bg:Int) {β:Type} (kn:(Int × (List V) × Int)→Option β) (kr:(Int × Bool × (List V) × Int)→Option β):Option β:=
 bif decide ((jI:Int)≤(IntKind.wrap .i64 ((IntKind.wrap .i64 (a+(IntKind.wrap .i64 (2*(IntKind.wrap .i64 (Int.tdiv length 4))))))+1))) then
  (C Ey [.int .u64 Bg]).bind fun r2=>
  Fy C a length xJ jI (IntKind.wrap .i64 (IntKind.wrap .u64 ((BitVec.ofInt (IntKind.bits .u64) ((V.nth r2 0).toInt)&&&BitVec.ofInt (IntKind.bits .u64) (IntKind.wrap .u64 (xJ-1))).toNat))) (decide (((IntKind.wrap .i64 (IntKind.wrap .u64 ((BitVec.ofInt (IntKind.bits .u64) ((V.nth r2 0).toInt)&&&BitVec.ofInt (IntKind.bits .u64) (IntKind.wrap .u64 (xJ-1))).toNat))):Int)≥length)) ak ((V.nth (r2.drop 1) 0).toInt) (fun (uL:Int)=>
   bif (decide (0≤(IntKind.wrap .i64 (a+uL))))&&(decide ((IntKind.wrap .i64 (a+uL))<(ak.length:Int))) then
   (ak[(IntKind.wrap .i64 (a+uL):Int).toNat]?).bind fun x4=>
   bif (decide (0≤jI))&&(decide (jI<(ak.length:Int))) then
    (ak[(jI:Int).toNat]?).bind fun x5=>
    bif (decide (0≤jI))&&(decide (jI<(ak.length:Int))) then
    (ak[(jI:Int).toNat]?).bind fun x6=>
    bif (decide (0≤(IntKind.wrap .i64 (a+uL))))&&(decide ((IntKind.wrap .i64 (a+uL))<((ak.set ((jI:Int).toNat) (.agg [.int .i64 ((x4.cell 0).toInt),.int .i64 ((x4.cell 1).toInt),.list aa ((x4.cell 2).toList)])).length:Int))) then
     ((ak.set ((jI:Int).toNat) (.agg [.int .i64 ((x4.cell 0).toInt),.int .i64 ((x4.cell 1).toInt),.list aa ((x4.cell 2).toList)]))[(IntKind.wrap .i64 (a+uL):Int).toNat]?).bind fun x7=>
     kn (IntKind.wrap .i64 (jI+1),(ak.set ((jI:Int).toNat) (.agg [.int .i64 ((x4.cell 0).toInt),.int .i64 ((x4.cell 1).toInt),.list aa ((x4.cell 2).toList)])).set ((IntKind.wrap .i64 (a+uL):Int).toNat) (.agg [.int .i64 ((x5.cell 0).toInt),.int .i64 ((x5.cell 1).toInt),.list aa ((x5.cell 2).toList)]),(V.nth (r2.drop 1) 0).toInt)
    else none
    else none
   else none
   else none)
 else
  kr (jI,decide ((jI:Int)≤(IntKind.wrap .i64 ((IntKind.wrap .i64 (a+(IntKind.wrap .i64 (2*(IntKind.wrap .i64 (Int.tdiv length 4))))))+1))),ak,Bg)
noncomputable def Fz (C:ag) (a length xJ:Int):(Int × (List V) × Int)→Option ((Int × (List V) × Int) ⊕ (Int × Bool × (List V) × Int)):=un fun jI=>un fun ak Bg=>Bh C a length xJ jI ak Bg (fun y=>some (.inl y)) (fun r=>some (.inr r))
noncomputable def SN (C:ag):cz:=fun β n ds k=>
 bif Nat.beq n 735 then iJ JG [[1,2,3,4,0,7,8]] (@Fy C) ds k else
 bif Nat.beq n 81 then cb JH [false,false,false,true,true,true] [[1,2,3,0,0,0,0]] (@Bh C) ds k else
 none
abbrev SO (C:ag) (b:ct):Prop:=cv Try.prog ay C (SN C) 113 (cL Try.prog (ay.ba 113)) (ay.sin 113).bh.length b
theorem aer (C:ag):SO C (.cond 45 (aw [1,1,0,1,1,1,0,0,1,0,0,1,0,1,0] xI) (aw [1,1,0,1,1,1,0,0,1,0,0,1,0,1,1] xI)):=
 iZ JG [[1,2,3,4,0,7,8]] (@Fy C) (by kernel_rfl) (bq (bs:=[]) (by kernel_rfl) ax) (bq (bs:=[]) (by kernel_rfl) ax) (fun ds=>by kernel_rfl) (fun i β k=>by kernel_rfl) (fun β ds k=>by kernel_rfl)
theorem aes (C:ag):SO C (.loop (aw [1,1,0,1,1,1,0,0] xI)):=
 ch JH [false,false,false,true,true,true] [[1,2,3,0,0,0,0]] (@Bh C) (by kernel_rfl) (bq (bs:=[.cond 45 (aw [1,1,0,1,1,1,0,0,1,0,0,1,0,1,0] xI) (aw [1,1,0,1,1,1,0,0,1,0,0,1,0,1,1] xI)]) (by kernel_rfl) (bD (aer C) ax)) (fun ds=>by kernel_rfl) (fun i x=>by kernel_rfl) (fun i x β k=>by kernel_rfl) (fun β ds k=>by kernel_rfl)
noncomputable def SP (C:ag) (a b':Int) (ak:List V):Option (List V):=
 bif decide (((IntKind.wrap .i64 (b'-a)):Int)≥8) then
  (C Ew [.int .i64 (IntKind.wrap .i64 (b'-a))]).bind fun r1=>
  (Loop (Fz C a (IntKind.wrap .i64 (b'-a)) ((V.nth r1 0).toInt)) (IntKind.wrap .i64 ((IntKind.wrap .i64 (a+(IntKind.wrap .i64 (2*(IntKind.wrap .i64 (Int.tdiv (IntKind.wrap .i64 (b'-a)) 4))))))-1),ak,IntKind.wrap .u64 (IntKind.wrap .i64 (b'-a)))).bind (un fun (aiZ:Int)=>un fun (sc:Bool)=>un fun (oF:List V) (ai0:Int)=>
   some [.list aa oF])
 else
  some [.list aa ak]
theorem aet {a b':Int} {ak:List V} {r:Option (List V)} (h:SP CC a b' ak=r):CC Er [.int .i64 a,.int .i64 b',.list aa ak]=r:=
 bc (key:=113) (L:=SN CC) (bs:=[.loop (aw [1,1,0,1,1,1,0,0] xI)]) (by kernel_rfl) (bD (aes CC) ax) (a9 (by kernel_rfl) h)
noncomputable def SQ (C:ag) (iM:Int):Option (List V):=
 some [.int .u64 (IntKind.wrap .u64 ((BitVec.ofInt (IntKind.bits .u64) (IntKind.wrap .u64 ((BitVec.ofInt (IntKind.bits .u64) (IntKind.wrap .u64 ((BitVec.ofInt (IntKind.bits .u64) iM ^^^ BitVec.ofInt (IntKind.bits .u64) (IntKind.wrap .u64 (iM*2^(min (13:Int).toNat (IntKind.bits .u64))))).toNat)) ^^^ BitVec.ofInt (IntKind.bits .u64) (Int.fdiv (IntKind.wrap .u64 ((BitVec.ofInt (IntKind.bits .u64) iM ^^^ BitVec.ofInt (IntKind.bits .u64) (IntKind.wrap .u64 (iM*2^(min (13:Int).toNat (IntKind.bits .u64))))).toNat)) (2^(min (7:Int).toNat (IntKind.bits .u64))))).toNat)) ^^^ BitVec.ofInt (IntKind.bits .u64) (IntKind.wrap .u64 ((IntKind.wrap .u64 ((BitVec.ofInt (IntKind.bits .u64) (IntKind.wrap .u64 ((BitVec.ofInt (IntKind.bits .u64) iM ^^^ BitVec.ofInt (IntKind.bits .u64) (IntKind.wrap .u64 (iM*2^(min (13:Int).toNat (IntKind.bits .u64))))).toNat)) ^^^ BitVec.ofInt (IntKind.bits .u64) (Int.fdiv (IntKind.wrap .u64 ((BitVec.ofInt (IntKind.bits .u64) iM ^^^ BitVec.ofInt (IntKind.bits .u64) (IntKind.wrap .u64 (iM*2^(min (13:Int).toNat (IntKind.bits .u64))))).toNat)) (2^(min (7:Int).toNat (IntKind.bits .u64))))).toNat))*2^(min (17:Int).toNat (IntKind.bits .u64))))).toNat)),.int .u64 (IntKind.wrap .u64 ((BitVec.ofInt (IntKind.bits .u64) (IntKind.wrap .u64 ((BitVec.ofInt (IntKind.bits .u64) (IntKind.wrap .u64 ((BitVec.ofInt (IntKind.bits .u64) iM ^^^ BitVec.ofInt (IntKind.bits .u64) (IntKind.wrap .u64 (iM*2^(min (13:Int).toNat (IntKind.bits .u64))))).toNat)) ^^^ BitVec.ofInt (IntKind.bits .u64) (Int.fdiv (IntKind.wrap .u64 ((BitVec.ofInt (IntKind.bits .u64) iM ^^^ BitVec.ofInt (IntKind.bits .u64) (IntKind.wrap .u64 (iM*2^(min (13:Int).toNat (IntKind.bits .u64))))).toNat)) (2^(min (7:Int).toNat (IntKind.bits .u64))))).toNat)) ^^^ BitVec.ofInt (IntKind.bits .u64) (IntKind.wrap .u64 ((IntKind.wrap .u64 ((BitVec.ofInt (IntKind.bits .u64) (IntKind.wrap .u64 ((BitVec.ofInt (IntKind.bits .u64) iM ^^^ BitVec.ofInt (IntKind.bits .u64) (IntKind.wrap .u64 (iM*2^(min (13:Int).toNat (IntKind.bits .u64))))).toNat)) ^^^ BitVec.ofInt (IntKind.bits .u64) (Int.fdiv (IntKind.wrap .u64 ((BitVec.ofInt (IntKind.bits .u64) iM ^^^ BitVec.ofInt (IntKind.bits .u64) (IntKind.wrap .u64 (iM*2^(min (13:Int).toNat (IntKind.bits .u64))))).toNat)) (2^(min (7:Int).toNat (IntKind.bits .u64))))).toNat))*2^(min (17:Int).toNat (IntKind.bits .u64))))).toNat))]
theorem aeu {iM:Int} {r:Option (List V)} (h:SQ CC iM=r):CC Ey [.int .u64 iM]=r:=
 bc (key:=123) (L:=cf) (bs:=[]) (by kernel_rfl) ax (a9 (by kernel_rfl) h)
noncomputable def SR (C:ag) (length:Int):Option (List V):=
 (C z9 [.int .u64 (IntKind.wrap .u64 length)]).bind fun r1=>
 bif decide (0≤((V.nth r1 0).toInt)) then
  some [.int .u64 (IntKind.wrap .u64 (1*2^(min ((V.nth r1 0).toInt).toNat (IntKind.bits .u64))))]
 else none
theorem aev {length:Int} {r:Option (List V)} (h:SR CC length=r):CC Ew [.int .i64 length]=r:=
 bc (key:=122) (L:=cf) (bs:=[]) (by kernel_rfl) ax (a9 (by kernel_rfl) h)
noncomputable def SS (C:ag) (x:Int):Option (List V):=
 (C Ev [.int .u64 x]).bind fun r1=>
 some [.int .i64 ((V.nth r1 0).toInt)]
theorem aew {x:Int} {r:Option (List V)} (h:SS CC x=r):CC z9 [.int .u64 x]=r:=
 bc (key:=110) (L:=cf) (bs:=[]) (by kernel_rfl) ax (a9 (by kernel_rfl) h)
noncomputable abbrev sB:Code:=cJ Try.prog (ay.ba 120)
noncomputable def uM (C:ag) (x n:Int) (t4:Bool) {β:Type} (kr:(Int × Int)→Option β):Option β:=
 bif t4 then
  kr (Int.fdiv x (2^(min (32:Int).toNat (IntKind.bits .u64))),32)
 else
  kr (x,n)
noncomputable def uN (C:ag) (x n:Int) (t8:Bool) {β:Type} (kr:(Int × Int)→Option β):Option β:=
 bif t8 then
  kr (Int.fdiv x (2^(min (16:Int).toNat (IntKind.bits .u64))),IntKind.wrap .i64 (n+16))
 else
  kr (x,n)
noncomputable def SU (C:ag):cz:=fun β n ds k=>
 bif Nat.beq n 79 then iJ JY [[0,0]] (@uM C) ds k else
 bif Nat.beq n 143 then iJ JZ [[0,0]] (@uN C) ds k else
 none
abbrev SV (C:ag) (b:ct):Prop:=cv Try.prog ay C (SU C) 120 (cL Try.prog (ay.ba 120)) (ay.sin 120).bh.length b
theorem aex (C:ag):SV C (.cond 4 (aw [1,0,1,0] sB) (aw [1,0,1,1] sB)):=
 iZ JY [[0,0]] (@uM C) (by kernel_rfl) (bq (bs:=[]) (by kernel_rfl) ax) (bq (bs:=[]) (by kernel_rfl) ax) (fun ds=>by kernel_rfl) (fun i β k=>by kernel_rfl) (fun β ds k=>by kernel_rfl)
theorem aey (C:ag):SV C (.cond 8 (aw [1,1,0,1,0] sB) (aw [1,1,0,1,1] sB)):=
 iZ JZ [[0,0]] (@uN C) (by kernel_rfl) (bq (bs:=[]) (by kernel_rfl) ax) (bq (bs:=[]) (by kernel_rfl) ax) (fun ds=>by kernel_rfl) (fun i β k=>by kernel_rfl) (fun β ds k=>by kernel_rfl)
noncomputable def aez (C:ag) (x:Int):Option (List V):=
 uM C x 0 (decide ((x:Int)≥4294967296)) (un fun (hY:Int) (Bi:Int)=>
  uN C hY Bi (decide ((hY:Int)≥65536)) (un fun (Bj:Int) (SW:Int)=>
   bif decide ((Bj:Int)≥256) then
    (bif decide (0≤(IntKind.wrap .u8 (Int.fdiv Bj (2^(min (8:Int).toNat (IntKind.bits .u64)))))) then (([0,1,2,2,3,3,3,3,4,4,4,4,4,4,4,4,5,5,5,5,5,5,5,5,5,5,5,5,5,5,5,5,6,6,6,6,6,6,6,6,6,6,6,6,6,6,6,6,6,6,6,6,6,6,6,6,6,6,6,6,6,6,6,6,7,7,7,7,7,7,7,7,7,7,7,7,7,7,7,7,7,7,7,7,7,7,7,7,7,7,7,7,7,7,7,7,7,7,7,7,7,7,7,7,7,7,7,7,7,7,7,7,7,7,7,7,7,7,7,7,7,7,7,7,7,7,7,7,8,8,8,8,8,8,8,8,8,8,8,8,8,8,8,8,8,8,8,8,8,8,8,8,8,8,8,8,8,8,8,8,8,8,8,8,8,8,8,8,8,8,8,8,8,8,8,8,8,8,8,8,8,8,8,8,8,8,8,8,8,8,8,8,8,8,8,8,8,8,8,8,8,8,8,8,8,8,8,8,8,8,8,8,8,8,8,8,8,8,8,8,8,8,8,8,8,8,8,8,8,8,8,8,8,8,8,8,8,8,8,8,8,8,8,8,8,8,8,8,8,8,8,8,8,8,8,8]:List UInt8)[(IntKind.wrap .u8 (Int.fdiv Bj (2^(min (8:Int).toNat (IntKind.bits .u64)))):Int).toNat]?).map fun b=>V.int .u8 b.toNat else none).bind fun x5=>
    some [.int .i64 (IntKind.wrap .i64 ((IntKind.wrap .i64 (SW+8))+(IntKind.wrap .i64 x5.toInt)))]
   else
    (bif decide (0≤(IntKind.wrap .u8 Bj)) then (([0,1,2,2,3,3,3,3,4,4,4,4,4,4,4,4,5,5,5,5,5,5,5,5,5,5,5,5,5,5,5,5,6,6,6,6,6,6,6,6,6,6,6,6,6,6,6,6,6,6,6,6,6,6,6,6,6,6,6,6,6,6,6,6,7,7,7,7,7,7,7,7,7,7,7,7,7,7,7,7,7,7,7,7,7,7,7,7,7,7,7,7,7,7,7,7,7,7,7,7,7,7,7,7,7,7,7,7,7,7,7,7,7,7,7,7,7,7,7,7,7,7,7,7,7,7,7,7,8,8,8,8,8,8,8,8,8,8,8,8,8,8,8,8,8,8,8,8,8,8,8,8,8,8,8,8,8,8,8,8,8,8,8,8,8,8,8,8,8,8,8,8,8,8,8,8,8,8,8,8,8,8,8,8,8,8,8,8,8,8,8,8,8,8,8,8,8,8,8,8,8,8,8,8,8,8,8,8,8,8,8,8,8,8,8,8,8,8,8,8,8,8,8,8,8,8,8,8,8,8,8,8,8,8,8,8,8,8,8,8,8,8,8,8,8,8,8,8,8,8,8,8,8,8,8,8]:List UInt8)[(IntKind.wrap .u8 Bj:Int).toNat]?).map fun b=>V.int .u8 b.toNat else none).bind fun x6=>
    some [.int .i64 (IntKind.wrap .i64 (SW+(IntKind.wrap .i64 x6.toInt)))]))
theorem SY {x:Int} {r:Option (List V)} (h:aez CC x=r):CC Ev [.int .u64 x]=r:=
 bc (key:=120) (L:=SU CC) (bs:=[.cond 4 (aw [1,0,1,0] sB) (aw [1,0,1,1] sB),.cond 8 (aw [1,1,0,1,0] sB) (aw [1,1,0,1,1] sB)]) (by kernel_rfl) (bD (aex CC) (bD (aey CC) ax)) (a9 (by kernel_rfl) h)
noncomputable abbrev lE:Code:=cJ Try.prog (ay.ba 109)
noncomputable def xK (C:ag) (a b' jd:Int) (eG eV:Bool) (length:Int) (t39:Bool) (ak:List V) {β:Type} (kr:(Int × (List V))→Option β):Option β:=
 bif t39 then
  (C Er [.int .i64 a,.int .i64 b',.list aa ak]).bind fun r3=>
  kr (IntKind.wrap .i64 (jd-1),(V.nth r3 0).toList)
 else
  kr (jd,ak)
noncomputable def xL (C:ag) (a b' jd:Int) (eG eV:Bool) (length pivot hint:Int) (t56:Bool) (ak:List V) {β:Type} (kr:(Int × Int × (List V))→Option β):Option β:=
 bif t56 then
  (C Et [.int .i64 a,.int .i64 b',.list aa ak]).bind fun r7=>
  kr (IntKind.wrap .i64 ((IntKind.wrap .i64 (b'-1))-(IntKind.wrap .i64 (pivot-a))),1,(V.nth r7 0).toList)
 else
  kr (pivot,hint,ak)
noncomputable def mo (C:ag) (a b' jd:Int) (eG eV:Bool) (length pivot:Int) (t75:Bool) (ak:List V) {β:Type} (kr:((Bool × (List V)) ⊕ (List V))→Option β):Option β:=
 bif t75 then
  (C Eu [.int .i64 a,.int .i64 b',.list aa ak]).bind fun ee=>
  bif (V.nth ee 0).toBool then
  kr (.inl ((V.nth ee 0).toBool,(V.nth (ee.drop 1) 0).toList))
  else
  kr (.inr ((V.nth (ee.drop 1) 0).toList))
 else
  kr (.inr ak)
noncomputable def pE (C:ag) (a b' jd:Int) (eG eV:Bool) (ak:List V) {β:Type} (kn:(Int × Int × Int × Bool × Bool × (List V))→Option β) (kr:(List V)→Option β):Option β:=
 bif decide (((IntKind.wrap .i64 (b'-a)):Int)≤12) then
  (C Aa [.int .i64 a,.int .i64 b',.list aa ak]).bind fun r1=>
  kr ((V.nth r1 0).toList)
 else
  bif (jd:Int)==0 then
  (C Ab [.int .i64 a,.int .i64 b',.list aa ak]).bind fun r2=>
  kr ((V.nth r2 0).toList)
  else
  xK C a b' jd eG eV (IntKind.wrap .i64 (b'-a)) (!eG) ak (un fun (cD:Int) (Bk:List V)=>
   (C Ac [.list aa Bk,.int .i64 a,.int .i64 b']).bind fun r6=>
   xL C a b' cD eG eV (IntKind.wrap .i64 (b'-a)) ((V.nth r6 0).toInt) ((V.nth (r6.drop 1) 0).toInt) ((((V.nth (r6.drop 1) 0).toInt):Int)==2) Bk (un fun (dH:Int)=>un fun (K3:Int) (oF:List V)=>
    bif eG then
     bif eV then
     mo C a b' cD eG eV (IntKind.wrap .i64 (b'-a)) dH ((K3:Int)==1) oF (cq (un fun (EU:Bool) (KR:List V)=>
      kr KR) (fun (uO:List V)=>
      bif decide ((a:Int)>0) then
       bif (decide (0≤(IntKind.wrap .i64 (a-1))))&&(decide ((IntKind.wrap .i64 (a-1))<(uO.length:Int))) then
       (uO[(IntKind.wrap .i64 (a-1):Int).toNat]?).bind fun fI=>
       bif (decide (0≤dH))&&(decide (dH<(uO.length:Int))) then
        (uO[(dH:Int).toNat]?).bind fun e9=>
        (C bn [.int .i64 ((fI.cell 0).toInt),.int .i64 ((fI.cell 1).toInt),.list aa ((fI.cell 2).toList),.int .i64 ((e9.cell 0).toInt),.int .i64 ((e9.cell 1).toInt),.list aa ((e9.cell 2).toList)]).bind fun dF=>
        bif !(decide ((((V.nth dF 0).toInt):Int)<0)) then
        (C uc [.int .i64 a,.int .i64 b',.int .i64 dH,.list aa uO]).bind fun jJ=>
        kn ((V.nth jJ 0).toInt,b',cD,eG,eV,(V.nth (jJ.drop 1) 0).toList)
        else
        (C m7 [.int .i64 a,.int .i64 b',.int .i64 dH,.list aa uO]).bind fun dE=>
        bif decide (((IntKind.wrap .i64 (((V.nth dE 0).toInt)-a)):Int)<(IntKind.wrap .i64 (b'-((V.nth dE 0).toInt)))) then
         (C gh [.int .i64 a,.int .i64 ((V.nth dE 0).toInt),.int .i64 cD,.list aa ((V.nth (dE.drop 2) 0).toList)]).bind fun hZ=>
         kn (IntKind.wrap .i64 (((V.nth dE 0).toInt)+1),b',cD,decide (((IntKind.wrap .i64 (((V.nth dE 0).toInt)-a)):Int)≥(IntKind.wrap .i64 (Int.tdiv (IntKind.wrap .i64 (b'-a)) 8))),(V.nth (dE.drop 1) 0).toBool,(V.nth hZ 0).toList)
        else
         (C gh [.int .i64 (IntKind.wrap .i64 (((V.nth dE 0).toInt)+1)),.int .i64 b',.int .i64 cD,.list aa ((V.nth (dE.drop 2) 0).toList)]).bind fun oI=>
         kn (a,(V.nth dE 0).toInt,cD,decide (((IntKind.wrap .i64 (b'-((V.nth dE 0).toInt))):Int)≥(IntKind.wrap .i64 (Int.tdiv (IntKind.wrap .i64 (b'-a)) 8))),(V.nth (dE.drop 1) 0).toBool,(V.nth oI 0).toList)
       else none
       else none
      else
       (C m7 [.int .i64 a,.int .i64 b',.int .i64 dH,.list aa uO]).bind fun ic=>
       bif decide (((IntKind.wrap .i64 (((V.nth ic 0).toInt)-a)):Int)<(IntKind.wrap .i64 (b'-((V.nth ic 0).toInt)))) then
       (C gh [.int .i64 a,.int .i64 ((V.nth ic 0).toInt),.int .i64 cD,.list aa ((V.nth (ic.drop 2) 0).toList)]).bind fun r23=>
       kn (IntKind.wrap .i64 (((V.nth ic 0).toInt)+1),b',cD,decide (((IntKind.wrap .i64 (((V.nth ic 0).toInt)-a)):Int)≥(IntKind.wrap .i64 (Int.tdiv (IntKind.wrap .i64 (b'-a)) 8))),(V.nth (ic.drop 1) 0).toBool,(V.nth r23 0).toList)
       else
       (C gh [.int .i64 (IntKind.wrap .i64 (((V.nth ic 0).toInt)+1)),.int .i64 b',.int .i64 cD,.list aa ((V.nth (ic.drop 2) 0).toList)]).bind fun Ku=>
       kn (a,(V.nth ic 0).toInt,cD,decide (((IntKind.wrap .i64 (b'-((V.nth ic 0).toInt))):Int)≥(IntKind.wrap .i64 (Int.tdiv (IntKind.wrap .i64 (b'-a)) 8))),(V.nth (ic.drop 1) 0).toBool,(V.nth Ku 0).toList)))
     else
     mo C a b' cD eG eV (IntKind.wrap .i64 (b'-a)) dH false oF (cq (un fun (ZM:Bool) (aeA:List V)=>
      kr aeA) (fun (qM:List V)=>
      bif decide ((a:Int)>0) then
       bif (decide (0≤(IntKind.wrap .i64 (a-1))))&&(decide ((IntKind.wrap .i64 (a-1))<(qM.length:Int))) then
       (qM[(IntKind.wrap .i64 (a-1):Int).toNat]?).bind fun uH=>
       bif (decide (0≤dH))&&(decide (dH<(qM.length:Int))) then
        (qM[(dH:Int).toNat]?).bind fun uI=>
        (C bn [.int .i64 ((uH.cell 0).toInt),.int .i64 ((uH.cell 1).toInt),.list aa ((uH.cell 2).toList),.int .i64 ((uI.cell 0).toInt),.int .i64 ((uI.cell 1).toInt),.list aa ((uI.cell 2).toList)]).bind fun sx=>
        bif !(decide ((((V.nth sx 0).toInt):Int)<0)) then
        (C uc [.int .i64 a,.int .i64 b',.int .i64 dH,.list aa qM]).bind fun SZ=>
        kn ((V.nth SZ 0).toInt,b',cD,eG,eV,(V.nth (SZ.drop 1) 0).toList)
        else
        (C m7 [.int .i64 a,.int .i64 b',.int .i64 dH,.list aa qM]).bind fun nw=>
        bif decide (((IntKind.wrap .i64 (((V.nth nw 0).toInt)-a)):Int)<(IntKind.wrap .i64 (b'-((V.nth nw 0).toInt)))) then
         (C gh [.int .i64 a,.int .i64 ((V.nth nw 0).toInt),.int .i64 cD,.list aa ((V.nth (nw.drop 2) 0).toList)]).bind fun r33=>
         kn (IntKind.wrap .i64 (((V.nth nw 0).toInt)+1),b',cD,decide (((IntKind.wrap .i64 (((V.nth nw 0).toInt)-a)):Int)≥(IntKind.wrap .i64 (Int.tdiv (IntKind.wrap .i64 (b'-a)) 8))),(V.nth (nw.drop 1) 0).toBool,(V.nth r33 0).toList)
        else
         (C gh [.int .i64 (IntKind.wrap .i64 (((V.nth nw 0).toInt)+1)),.int .i64 b',.int .i64 cD,.list aa ((V.nth (nw.drop 2) 0).toList)]).bind fun r34=>
         kn (a,(V.nth nw 0).toInt,cD,decide (((IntKind.wrap .i64 (b'-((V.nth nw 0).toInt))):Int)≥(IntKind.wrap .i64 (Int.tdiv (IntKind.wrap .i64 (b'-a)) 8))),(V.nth (nw.drop 1) 0).toBool,(V.nth r34 0).toList)
       else none
       else none
      else
       (C m7 [.int .i64 a,.int .i64 b',.int .i64 dH,.list aa qM]).bind fun ny=>
       bif decide (((IntKind.wrap .i64 (((V.nth ny 0).toInt)-a)):Int)<(IntKind.wrap .i64 (b'-((V.nth ny 0).toInt)))) then
       (C gh [.int .i64 a,.int .i64 ((V.nth ny 0).toInt),.int .i64 cD,.list aa ((V.nth (ny.drop 2) 0).toList)]).bind fun r36=>
       kn (IntKind.wrap .i64 (((V.nth ny 0).toInt)+1),b',cD,decide (((IntKind.wrap .i64 (((V.nth ny 0).toInt)-a)):Int)≥(IntKind.wrap .i64 (Int.tdiv (IntKind.wrap .i64 (b'-a)) 8))),(V.nth (ny.drop 1) 0).toBool,(V.nth r36 0).toList)
       else
       (C gh [.int .i64 (IntKind.wrap .i64 (((V.nth ny 0).toInt)+1)),.int .i64 b',.int .i64 cD,.list aa ((V.nth (ny.drop 2) 0).toList)]).bind fun r37=>
       kn (a,(V.nth ny 0).toInt,cD,decide (((IntKind.wrap .i64 (b'-((V.nth ny 0).toInt))):Int)≥(IntKind.wrap .i64 (Int.tdiv (IntKind.wrap .i64 (b'-a)) 8))),(V.nth (ny.drop 1) 0).toBool,(V.nth r37 0).toList)))
    else
     mo C a b' cD eG eV (IntKind.wrap .i64 (b'-a)) dH false oF (cq (un fun (Qp:Bool) (aeB:List V)=>
      kr aeB) (fun (jH:List V)=>
      bif decide ((a:Int)>0) then
      bif (decide (0≤(IntKind.wrap .i64 (a-1))))&&(decide ((IntKind.wrap .i64 (a-1))<(jH.length:Int))) then
       (jH[(IntKind.wrap .i64 (a-1):Int).toNat]?).bind fun mn=>
       bif (decide (0≤dH))&&(decide (dH<(jH.length:Int))) then
       (jH[(dH:Int).toNat]?).bind fun uK=>
       (C bn [.int .i64 ((mn.cell 0).toInt),.int .i64 ((mn.cell 1).toInt),.list aa ((mn.cell 2).toList),.int .i64 ((uK.cell 0).toInt),.int .i64 ((uK.cell 1).toInt),.list aa ((uK.cell 2).toList)]).bind fun r43=>
       bif !(decide ((((V.nth r43 0).toInt):Int)<0)) then
        (C uc [.int .i64 a,.int .i64 b',.int .i64 dH,.list aa jH]).bind fun S0=>
        kn ((V.nth S0 0).toInt,b',cD,eG,eV,(V.nth (S0.drop 1) 0).toList)
       else
        (C m7 [.int .i64 a,.int .i64 b',.int .i64 dH,.list aa jH]).bind fun nz=>
        bif decide (((IntKind.wrap .i64 (((V.nth nz 0).toInt)-a)):Int)<(IntKind.wrap .i64 (b'-((V.nth nz 0).toInt)))) then
        (C gh [.int .i64 a,.int .i64 ((V.nth nz 0).toInt),.int .i64 cD,.list aa ((V.nth (nz.drop 2) 0).toList)]).bind fun r46=>
        kn (IntKind.wrap .i64 (((V.nth nz 0).toInt)+1),b',cD,decide (((IntKind.wrap .i64 (((V.nth nz 0).toInt)-a)):Int)≥(IntKind.wrap .i64 (Int.tdiv (IntKind.wrap .i64 (b'-a)) 8))),(V.nth (nz.drop 1) 0).toBool,(V.nth r46 0).toList)
        else
        (C gh [.int .i64 (IntKind.wrap .i64 (((V.nth nz 0).toInt)+1)),.int .i64 b',.int .i64 cD,.list aa ((V.nth (nz.drop 2) 0).toList)]).bind fun r47=>
        kn (a,(V.nth nz 0).toInt,cD,decide (((IntKind.wrap .i64 (b'-((V.nth nz 0).toInt))):Int)≥(IntKind.wrap .i64 (Int.tdiv (IntKind.wrap .i64 (b'-a)) 8))),(V.nth (nz.drop 1) 0).toBool,(V.nth r47 0).toList)
       else none
      else none
      else
      (C m7 [.int .i64 a,.int .i64 b',.int .i64 dH,.list aa jH]).bind fun nA=>
      bif decide (((IntKind.wrap .i64 (((V.nth nA 0).toInt)-a)):Int)<(IntKind.wrap .i64 (b'-((V.nth nA 0).toInt)))) then
       (C gh [.int .i64 a,.int .i64 ((V.nth nA 0).toInt),.int .i64 cD,.list aa ((V.nth (nA.drop 2) 0).toList)]).bind fun r49=>
       kn (IntKind.wrap .i64 (((V.nth nA 0).toInt)+1),b',cD,decide (((IntKind.wrap .i64 (((V.nth nA 0).toInt)-a)):Int)≥(IntKind.wrap .i64 (Int.tdiv (IntKind.wrap .i64 (b'-a)) 8))),(V.nth (nA.drop 1) 0).toBool,(V.nth r49 0).toList)
      else
       (C gh [.int .i64 (IntKind.wrap .i64 (((V.nth nA 0).toInt)+1)),.int .i64 b',.int .i64 cD,.list aa ((V.nth (nA.drop 2) 0).toList)]).bind fun r50=>
       kn (a,(V.nth nA 0).toInt,cD,decide (((IntKind.wrap .i64 (b'-((V.nth nA 0).toInt))):Int)≥(IntKind.wrap .i64 (Int.tdiv (IntKind.wrap .i64 (b'-a)) 8))),(V.nth (nA.drop 1) 0).toBool,(V.nth r50 0).toList)))))
noncomputable def S3 (C:ag):(Int × Int × Int × Bool × Bool × (List V))→Option ((Int × Int × Int × Bool × Bool × (List V)) ⊕ (List V)):=un fun a=>un fun b'=>un fun jd=>un fun eG=>un fun eV ak=>pE C a b' jd eG eV ak (fun y=>some (.inl y)) (fun r=>some (.inr r))
noncomputable def S4 (C:ag):cz:=fun β n ds k=>
 bif Nat.beq n 639 then iJ Jy [[1,2,0,4,5,6,0]] (@xK C) ds k else
 bif Nat.beq n 911 then iJ Jz [[1,2,3,4,5,6,0,0,0]] (@xL C) ds k else
 bif Nat.beq n 1215 then iJ JA [[1,2,3,4,5,6,7,0,0],[1,2,3,4,5,6,7,0]] (@mo C) ds k else
 bif Nat.beq n 33 then cb JB [true,true,true,true,true,true] [[0]] (@pE C) ds k else
 none
abbrev FA (C:ag) (b:ct):Prop:=cv Try.prog ay C (S4 C) 109 (cL Try.prog (ay.ba 109)) (ay.sin 109).bh.length b
theorem aeC (C:ag):FA C (.cond 39 (aw [1,1,0,0,0,1,1,1,0,1,0] lE) (aw [1,1,0,0,0,1,1,1,0,1,1] lE)):=
 iZ Jy [[1,2,0,4,5,6,0]] (@xK C) (by kernel_rfl) (bq (bs:=[]) (by kernel_rfl) ax) (bq (bs:=[]) (by kernel_rfl) ax) (fun ds=>by kernel_rfl) (fun i β k=>by kernel_rfl) (fun β ds k=>by kernel_rfl)
theorem aeD (C:ag):FA C (.cond 56 (aw [1,1,0,0,0,1,1,1,1,1,0,1,0] lE) (aw [1,1,0,0,0,1,1,1,1,1,0,1,1] lE)):=
 iZ Jz [[1,2,3,4,5,6,0,0,0]] (@xL C) (by kernel_rfl) (bq (bs:=[]) (by kernel_rfl) ax) (bq (bs:=[]) (by kernel_rfl) ax) (fun ds=>by kernel_rfl) (fun i β k=>by kernel_rfl) (fun β ds k=>by kernel_rfl)
theorem aeE (C:ag):FA C (.cond 75 (aw [1,1,0,0,0,1,1,1,1,1,1,0,1,0] lE) (aw [1,1,0,0,0,1,1,1,1,1,1,0,1,1] lE)):=
 iZ JA [[1,2,3,4,5,6,7,0,0],[1,2,3,4,5,6,7,0]] (@mo C) (by kernel_rfl) (bq (bs:=[]) (by kernel_rfl) ax) (bq (bs:=[]) (by kernel_rfl) ax) (fun ds=>by kernel_rfl) (fun i β k=>by kernel_rfl) (fun β ds k=>by kernel_rfl)
theorem aeF (C:ag):FA C (.loop (aw [1,1,0,0] lE)):=
 ch JB [true,true,true,true,true,true] [[0]] (@pE C) (by kernel_rfl) (bq (bs:=[.cond 39 (aw [1,1,0,0,0,1,1,1,0,1,0] lE) (aw [1,1,0,0,0,1,1,1,0,1,1] lE),.cond 56 (aw [1,1,0,0,0,1,1,1,1,1,0,1,0] lE) (aw [1,1,0,0,0,1,1,1,1,1,0,1,1] lE),.cond 75 (aw [1,1,0,0,0,1,1,1,1,1,1,0,1,0] lE) (aw [1,1,0,0,0,1,1,1,1,1,1,0,1,1] lE)]) (by kernel_rfl) (bD (aeC C) (bD (aeD C) (bD (aeE C) ax)))) (fun ds=>by kernel_rfl) (fun i x=>by kernel_rfl) (fun i x β k=>by kernel_rfl) (fun β ds k=>by kernel_rfl)
noncomputable def S5 (C:ag) (a b' jd:Int) (ak:List V):Option (List V):=
 (Loop (S3 C) (a,b',jd,true,true,ak)).bind (fun (aeG:List V)=>
  some [.list aa aeG])
theorem aeH {a b' jd:Int} {ak:List V} {r:Option (List V)} (h:S5 CC a b' jd ak=r):CC gh [.int .i64 a,.int .i64 b',.int .i64 jd,.list aa ak]=r:=
 bc (key:=109) (L:=S4 CC) (bs:=[.loop (aw [1,1,0,0] lE)]) (by kernel_rfl) (bD (aeF CC) ax) (a9 (by kernel_rfl) h)
noncomputable def S6 (C:ag) (xs:List V):Option (List V):=
 (C z9 [.int .u64 (IntKind.wrap .u64 (xs.length:Int))]).bind fun r1=>
 (C gh [.int .i64 0,.int .i64 (xs.length:Int),.int .i64 ((V.nth r1 0).toInt),.list aa xs]).bind fun r2=>
 some [.list aa ((V.nth r2 0).toList)]
theorem aeI {xs:List V} {r:Option (List V)} (h:S6 CC xs=r):CC z8 [.list aa xs]=r:=
 bc (key:=105) (L:=cf) (bs:=[]) (by kernel_rfl) ax (a9 (by kernel_rfl) h)
end Go.AM
set_option maxRecDepth 100000
set_option maxHeartbeats 4000000
namespace Go.AM.SX
open Go.Proofs Go.Sort
theorem aeJ (a b:XE):bW a b<0↔a.lt b:=Iff.rfl
theorem S7 (a b:XE):(aA a b=true)=(a.lt b):=by rw[sw];rfl
theorem FB (a b:XE):(aA a b=false)= ¬(a.lt b):=by rw[←S7];simp
theorem xM:SWO aA where
 irrefl x:=by rw[FB];exact XE.lt_irrefl x
 trans x y z:=by simp only[S7];exact XE.lt_trans
 ntrans x y z:=by simp only[FB];exact XE.ads
def FC:List UInt8:=([0,1,2,2,3,3,3,3,4,4,4,4,4,4,4,4,5,5,5,5,5,5,5,5,5,5,5,5,5,5,5,5,6,6,6,6,6,6,6,6,6,6,6,6,6,6,6,6,6,6,6,6,6,6,6,6,6,6,6,6,6,6,6,6,7,7,7,7,7,7,7,7,7,7,7,7,7,7,7,7,7,7,7,7,7,7,7,7,7,7,7,7,7,7,7,7,7,7,7,7,7,7,7,7,7,7,7,7,7,7,7,7,7,7,7,7,7,7,7,7,7,7,7,7,7,7,7,7,8,8,8,8,8,8,8,8,8,8,8,8,8,8,8,8,8,8,8,8,8,8,8,8,8,8,8,8,8,8,8,8,8,8,8,8,8,8,8,8,8,8,8,8,8,8,8,8,8,8,8,8,8,8,8,8,8,8,8,8,8,8,8,8,8,8,8,8,8,8,8,8,8,8,8,8,8,8,8,8,8,8,8,8,8,8,8,8,8,8,8,8,8,8,8,8,8,8,8,8,8,8,8,8,8,8,8,8,8,8,8,8,8,8,8,8,8,8,8,8,8,8,8,8,8,8,8,8]:List UInt8)
theorem aeK:(List.range 256).all (fun y=>match FC[y]? with|some b=>decide (b.toNat≤8)&&(Nat.beq y 0||(decide (1≤b.toNat)&&decide (2^(b.toNat-1)≤y)))|none=>false)=true:=by decide+kernel
theorem S8 {y:Nat} (h:y<256): ∃b,FC[y]? =some b∧b.toNat≤8∧(0<y→1≤b.toNat∧2^(b.toNat-1)≤y):=by
 have:=fe.1 aeK y (List.mem_range.2 h)
 cases hb:FC[y]? with
 | none=>rw[hb] at this;cases this
 | some b=>
  rw[hb] at this
  simp only[aK,Bool.or_eq_true,dW] at this
  refine ⟨b,rfl,this.1,fun hy=> ?_⟩
  rcases this.2 with U|U
  ·have:=yf U;omega
  ·exact U
theorem K4 {y t k:Nat} (h:2^(t-1)≤y/2^k) (ht:1≤t):2^(t+k-1)≤y:=by
 have e:t+k-1=(t-1)+k:=by omega
 rw[e,Nat.pow_add]
 exact kS (dt _ h) (Nat.div_mul_le_self _ _)
noncomputable def xN (y n:Int):Option (List V):=
(bif decide ((y:Int)≥256) then
    (bif decide (0≤(IntKind.wrap .u8 (Int.fdiv y (2^(min (8:Int).toNat (IntKind.bits .u64)))))) then (([0,1,2,2,3,3,3,3,4,4,4,4,4,4,4,4,5,5,5,5,5,5,5,5,5,5,5,5,5,5,5,5,6,6,6,6,6,6,6,6,6,6,6,6,6,6,6,6,6,6,6,6,6,6,6,6,6,6,6,6,6,6,6,6,7,7,7,7,7,7,7,7,7,7,7,7,7,7,7,7,7,7,7,7,7,7,7,7,7,7,7,7,7,7,7,7,7,7,7,7,7,7,7,7,7,7,7,7,7,7,7,7,7,7,7,7,7,7,7,7,7,7,7,7,7,7,7,7,8,8,8,8,8,8,8,8,8,8,8,8,8,8,8,8,8,8,8,8,8,8,8,8,8,8,8,8,8,8,8,8,8,8,8,8,8,8,8,8,8,8,8,8,8,8,8,8,8,8,8,8,8,8,8,8,8,8,8,8,8,8,8,8,8,8,8,8,8,8,8,8,8,8,8,8,8,8,8,8,8,8,8,8,8,8,8,8,8,8,8,8,8,8,8,8,8,8,8,8,8,8,8,8,8,8,8,8,8,8,8,8,8,8,8,8,8,8,8,8,8,8,8,8,8,8,8,8]:List UInt8)[(IntKind.wrap .u8 (Int.fdiv y (2^(min (8:Int).toNat (IntKind.bits .u64)))):Int).toNat]?).map fun b=>V.int .u8 b.toNat else none).bind fun x5=>
    some [V.int .i64 (IntKind.wrap .i64 ((IntKind.wrap .i64 (n+8))+(IntKind.wrap .i64 x5.toInt)))]
   else
    (bif decide (0≤(IntKind.wrap .u8 y)) then (([0,1,2,2,3,3,3,3,4,4,4,4,4,4,4,4,5,5,5,5,5,5,5,5,5,5,5,5,5,5,5,5,6,6,6,6,6,6,6,6,6,6,6,6,6,6,6,6,6,6,6,6,6,6,6,6,6,6,6,6,6,6,6,6,7,7,7,7,7,7,7,7,7,7,7,7,7,7,7,7,7,7,7,7,7,7,7,7,7,7,7,7,7,7,7,7,7,7,7,7,7,7,7,7,7,7,7,7,7,7,7,7,7,7,7,7,7,7,7,7,7,7,7,7,7,7,7,7,8,8,8,8,8,8,8,8,8,8,8,8,8,8,8,8,8,8,8,8,8,8,8,8,8,8,8,8,8,8,8,8,8,8,8,8,8,8,8,8,8,8,8,8,8,8,8,8,8,8,8,8,8,8,8,8,8,8,8,8,8,8,8,8,8,8,8,8,8,8,8,8,8,8,8,8,8,8,8,8,8,8,8,8,8,8,8,8,8,8,8,8,8,8,8,8,8,8,8,8,8,8,8,8,8,8,8,8,8,8,8,8,8,8,8,8,8,8,8,8,8,8,8,8,8,8,8,8]:List UInt8)[(IntKind.wrap .u8 y:Int).toNat]?).map fun b=>V.int .u8 b.toNat else none).bind fun x6=>
    some [V.int .i64 (IntKind.wrap .i64 (n+(IntKind.wrap .i64 x6.toInt)))])
theorem aeL {x:Nat} (h:x<2^64): ∃L:Nat,CC Ev [.int .u64 (x:Int)]=some [.int .i64 (L:Int)]∧L≤64∧(0<x→1≤L∧2^(L-1)≤x):=by
 have last: ∀y n:Nat,y<65536→n≤48→∃t:Nat,
   xN (y:Int) (n:Int)=some [V.int .i64 ((n+t:Nat):Int)]∧t≤16∧(0<y→1≤t∧2^(t-1)≤y):=by
  intro y n hy hn
  unfold xN
  rw[show ([0,1,2,2,3,3,3,3,4,4,4,4,4,4,4,4,5,5,5,5,5,5,5,5,5,5,5,5,5,5,5,5,6,6,6,6,6,6,6,6,6,6,6,6,6,6,6,6,6,6,6,6,6,6,6,6,6,6,6,6,6,6,6,6,7,7,7,7,7,7,7,7,7,7,7,7,7,7,7,7,7,7,7,7,7,7,7,7,7,7,7,7,7,7,7,7,7,7,7,7,7,7,7,7,7,7,7,7,7,7,7,7,7,7,7,7,7,7,7,7,7,7,7,7,7,7,7,7,8,8,8,8,8,8,8,8,8,8,8,8,8,8,8,8,8,8,8,8,8,8,8,8,8,8,8,8,8,8,8,8,8,8,8,8,8,8,8,8,8,8,8,8,8,8,8,8,8,8,8,8,8,8,8,8,8,8,8,8,8,8,8,8,8,8,8,8,8,8,8,8,8,8,8,8,8,8,8,8,8,8,8,8,8,8,8,8,8,8,8,8,8,8,8,8,8,8,8,8,8,8,8,8,8,8,8,8,8,8,8,8,8,8,8,8,8,8,8,8,8,8,8,8,8,8,8,8]:List UInt8)=FC from rfl]
  by_cases h1:y≥256
  ·have e:Int.fdiv (y:Int) (2^(min (8:Int).toNat (IntKind.bits .u64)))=((y/2^8:Nat):Int):=J7 (m:=8) (by omega)
   obtain ⟨b,hb,b1,b2⟩:=S8 (y:=y/2^8) (by omega)
   refine ⟨b.toNat+8,?_,by omega,fun _=> ?_⟩
   ·rw[e,az,aj (by omega),D2 (by omega) (by omega),az,aj (by omega),Int.toNat_natCast,hb]
    simp only[Option.map_some,Option.bind_some,V.toInt_int]
    simp (disch:=omega) only[wrap64]
    congr 3
    omega
   ·obtain ⟨b3,b4⟩:=b2 (by omega)
    exact ⟨by omega,K4 b4 b3⟩
  ·obtain ⟨b,hb,b1,b2⟩:=S8 (y:=y) (by omega)
   refine ⟨b.toNat,?_,by omega,b2⟩
   rw[az,ai (by omega),D2 (by omega) (by omega),az,aj (by omega),Int.toNat_natCast,hb]
   simp (disch:=omega) only[Option.map_some,Option.bind_some,V.toInt_int,wrap64]
   congr 3
 have mid: ∀y n:Nat,y<4294967296→n≤32→∃t:Nat,∀F:Int→Int→Option (List V),
   (∀y n:Nat,y<65536→n≤48→∃t:Nat,F (y:Int) (n:Int)=some [V.int .i64 ((n+t:Nat):Int)]∧t≤16∧(0<y→1≤t∧2^(t-1)≤y))→
   ∃t:Nat,uN CC (y:Int) (n:Int) (decide (((y:Int):Int)≥65536)) (un F)=some [V.int .i64 ((n+t:Nat):Int)]∧t≤32∧(0<y→1≤t∧2^(t-1)≤y):=by
  intro y n hy hn
  refine ⟨0,fun F hF=> ?_⟩
  unfold uN
  by_cases h1:y≥65536
  ·have e:Int.fdiv (y:Int) (2^(min (16:Int).toNat (IntKind.bits .u64)))=((y/2^16:Nat):Int):=J7 (m:=16) (by omega)
   rw[az,aj (by omega),e,wrap64 (by omega) (by omega)]
   obtain ⟨t,U,h3,h4⟩:=hF (y/2^16) (n+16) (by omega) (by omega)
   refine ⟨t+16,?_,by omega,fun _=> ?_⟩
   ·rw[show ((n:Int)+16)=((n+16:Nat):Int) by omega]
    simp only[un]
    rw[U]
    congr 3
    omega
   ·obtain ⟨b3,b4⟩:=h4 (by omega)
    exact ⟨by omega,K4 b4 b3⟩
  ·rw[az,ai (by omega)]
   obtain ⟨t,U,h3,h4⟩:=hF y n (by omega) (by omega)
   exact ⟨t,U,by omega,h4⟩
 by_cases h1:x≥4294967296
 ·have e:Int.fdiv (x:Int) (2^(min (32:Int).toNat (IntKind.bits .u64)))=((x/2^32:Nat):Int):=J7 (m:=32) (by omega)
  obtain ⟨_,hm⟩:=mid (x/2^32) 32 (by omega) (by omega)
  obtain ⟨t,U,h3,h4⟩:=hm xN last
  refine ⟨32+t,SY ?_,by omega,fun _=> ?_⟩
  ·show uM CC (x:Int) 0 (decide (((x:Int):Int)≥4294967296)) (un fun (hY:Int) (Bi:Int)=>uN CC hY Bi (decide ((hY:Int)≥65536)) (un xN))=_
   unfold uM
   rw[az,aj (by omega),e]
   exact U
  ·obtain ⟨b3,b4⟩:=h4 (by omega)
   rw[Nat.add_comm 32 t]
   exact ⟨by omega,K4 b4 b3⟩
 ·obtain ⟨_,hm⟩:=mid x 0 (by omega) (by omega)
  obtain ⟨t,U,h3,h4⟩:=hm xN last
  refine ⟨t,SY ?_,by omega,h4⟩
  show uM CC (x:Int) 0 (decide (((x:Int):Int)≥4294967296)) (un fun (hY:Int) (Bi:Int)=>uN CC hY Bi (decide ((hY:Int)≥65536)) (un xN))=_
  unfold uM
  rw[az,ai (by omega)]
  rw[gu] at U
  exact U
theorem S9 {x:Nat} (h:x<2^64): ∃L:Nat,CC z9 [.int .u64 (x:Int)]=some [.int .i64 (L:Int)]∧L≤64∧(0<x→1≤L∧2^(L-1)≤x):=by
 obtain ⟨L,h1,U⟩:=aeL h
 refine ⟨L,aew ?_,U⟩
 unfold SS
 rw[h1]
 rfl
theorem aeM {x:Nat} (h0:0<x) (h:x<1152921504606846976): ∃M:Nat,CC Ew [.int .i64 (x:Int)]=some [.int .u64 (M:Int)]∧1≤M∧M≤2*x:=by
 obtain ⟨L,h1,U,h3⟩:=S9 (x:=x) (by omega)
 obtain ⟨h4,h5⟩:=h3 h0
 have e:2^L=2*2^(L-1):=by
  obtain ⟨k,rfl⟩: ∃k,L=k+1:=⟨L-1,by omega⟩
  rw[Nat.pow_succ];simp only[u4];omega
 have hL:L<64:=by
  by_cases hx:L<64
  ·exact hx
  ·have:2^63≤2^(L-1):=Nat.pow_le_pow_right (by omega) (by omega)
   omega
 refine ⟨2^L,aev ?_,Nat.pos_of_ne_zero (by simp),by omega⟩
 unfold SR
 rw[An (A:=x) (by omega),h1]
 simp only[Option.bind_some,V.aU,V.toInt_int]
 rw[az,aj (by omega),Int.toNat_natCast,ZA hL]
theorem aeN (r:Int): ∃R:Nat,CC Ey [.int .u64 r]=some [.int .u64 (R:Int),.int .u64 (R:Int)]∧R<2^64:=by
 have h: ∀n:Int,∃R:Nat,IntKind.wrap .u64 n=(R:Int)∧R<2^64:=fun n=>⟨(IntKind.wrap .u64 n).toNat,by rw[wrap_u64];omega,by rw[wrap_u64];omega⟩
 obtain ⟨R,h1,U⟩:=h _
 exact ⟨R,aeu (by unfold SQ;rw[h1]),U⟩
theorem FD {d:Array XE} {i:Nat} (h:i<d.size):idx (eA d) (i:Int)=some (d[i]!).enc:=by rw[IC,fG h]
theorem K5 {d:Array XE} {a b:Nat} {s:Int} (ha:a<d.size) (hb:b<d.size): ∃(x y:Nat) (s':Int),CC wK [.list aa (eA d),.int .i64 (a:Int),.int .i64 (b:Int),.int .i64 s]=some [.int .i64 (x:Int),.int .i64 (y:Int),.int .i64 s']∧(x=a∧y=b∨x=b∧y=a):=by
 by_cases h:bW d[b]! d[a]! <0
 ·refine ⟨b,a,_,SL (by unfold K2;rw[FD hb,FD ha];simp only[Option.bind_some,XE.aZ,XE.bj,XE.bd,gp,V.aU,V.toInt_int];rw[az,aj h]),.inr ⟨rfl,rfl⟩⟩
 ·refine ⟨a,b,_,SL (by unfold K2;rw[FD hb,FD ha];simp only[Option.bind_some,XE.aZ,XE.bj,XE.bd,gp,V.aU,V.toInt_int];rw[az,ai h]),.inl ⟨rfl,rfl⟩⟩
theorem K6 {d:Array XE} {a b c:Nat} {s:Int} (ha:a<d.size) (hb:b<d.size) (hc:c<d.size): ∃(m:Nat) (s':Int),CC Ae [.list aa (eA d),.int .i64 (a:Int),.int .i64 (b:Int),.int .i64 (c:Int),.int .i64 s]=some [.int .i64 (m:Int),.int .i64 s']∧(m=a∨m=b∨m=c):=by
 obtain ⟨x1,y1,s1,e1,o1⟩:=K5 (s:=s) ha hb
 obtain ⟨x2,y2,s2,e2,o2⟩:=K5 (d:=d) (a:=y1) (b:=c) (s:=s1) (by omega) hc
 obtain ⟨x3,y3,s3,e3,o3⟩:=K5 (d:=d) (a:=x1) (b:=x2) (s:=s2) (by omega) (by omega)
 refine ⟨y3,s3,aep ?_,by omega⟩
 unfold SK
 rw[e1]
 simp only[Option.bind_some,V.aU,V.qC,V.toInt_int,ky,iO]
 rw[e2]
 simp only[Option.bind_some,V.aU,V.qC,V.toInt_int,ky,iO]
 rw[e3]
 rfl
theorem K7 {d:Array XE} {a:Nat} {s:Int} (h1:1≤a) (ha:a+1<d.size) (hs:d.size<1152921504606846976): ∃(m:Nat) (s':Int),CC wJ [.list aa (eA d),.int .i64 (a:Int),.int .i64 s]=some [.int .i64 (m:Int),.int .i64 s']∧a≤m+1∧m≤a+1:=by
 obtain ⟨m,s',e,o⟩:=K6 (d:=d) (a:=a-1) (b:=a) (c:=a+1) (s:=s) (by omega) (by omega) (by omega)
 refine ⟨m,s',aeq ?_,by omega,by omega⟩
 unfold SM
 simp (disch:=omega) only[kj,dG,wrap64]
 rw[e]
 rfl
theorem K8 (n:Nat):Int.tdiv (n:Int) 4=((n/4:Nat):Int):=by
 have:=divC n 4
 exact this
theorem mulC (k n:Nat):((k:Nat):Int)*(n:Int)=((k*n:Nat):Int):=(Int.natCast_mul k n).symm
theorem aeO {d:Array XE} {a b:Nat} (eY:a+12<b) (hb:b≤d.size) (hs:d.size<1152921504606846976): ∃(p:Nat) (h:Int),CC Ac [.list aa (eA d),.int .i64 (a:Int),.int .i64 (b:Int)]=some [.int .i64 (p:Int),.int .i64 h]∧a≤p∧p<b:=by
 have fin: ∀(p:Nat) (s:Int),∃h:Int,(bif (s:Int)==0 then some [V.int .i64 (p:Int),V.int .i64 1] else bif (s:Int)==12 then some [V.int .i64 (p:Int),V.int .i64 2] else some [V.int .i64 (p:Int),V.int .i64 0])=some [V.int .i64 (p:Int),V.int .i64 h]:=by
  intro p s
  rw[db]
  split
  ·exact ⟨1,rfl⟩
  ·rw[db]
   split
   ·exact ⟨2,rfl⟩
   ·exact ⟨0,rfl⟩
 have e1:IntKind.wrap .i64 ((b:Int)-(a:Int))=((b-a:Nat):Int):=by rw[mj (by omega),wrap64 (by omega) (by omega)]
 have e2:IntKind.wrap .i64 (Int.tdiv ((b-a:Nat):Int) 4)=(((b-a)/4:Nat):Int):=by rw[K8,wrap64 (by omega) (by omega)]
 have e3: ∀k:Nat,k≤3→IntKind.wrap .i64 ((a:Int)+IntKind.wrap .i64 ((k:Int)*(((b-a)/4:Nat):Int)))=((a+k*((b-a)/4):Nat):Int):=by
  intro k hk
  have lZ:k*((b-a)/4)≤3*((b-a)/4):=dt _ hk
  simp (disch:=omega) only[mulC,wrap64,fH]
 have K9:=e3 1 (by omega)
 have sC:=e3 2 (by omega)
 have La:=e3 3 (by omega)
 rw[show ((1:Nat):Int)=1 from rfl] at K9
 rw[show ((2:Nat):Int)=2 from rfl] at sC
 rw[show ((3:Nat):Int)=3 from rfl] at La
 by_cases h50:b-a≥50
 ·obtain ⟨m1,s1,q1,r1⟩:=K7 (d:=d) (a:=a+1*((b-a)/4)) (s:=0) (by omega) (by omega) hs
  obtain ⟨m2,s2,q2,r2⟩:=K7 (d:=d) (a:=a+2*((b-a)/4)) (s:=s1) (by omega) (by omega) hs
  obtain ⟨m3,s3,q3,r3⟩:=K7 (d:=d) (a:=a+3*((b-a)/4)) (s:=s2) (by omega) (by omega) hs
  obtain ⟨m,s,q,r⟩:=K6 (d:=d) (a:=m1) (b:=m2) (c:=m3) (s:=s3) (by omega) (by omega) (by omega)
  obtain ⟨h,hf⟩:=fin m s
  refine ⟨m,h,SJ ?_,by omega,by omega⟩
  unfold K0 Bf Be
  rw[e1,e2,K9,sC,La,nk (by omega),cond_true,nk (by omega),cond_true,q1]
  simp only[Option.bind_some,V.aU,V.qC,V.toInt_int,ky,iO]
  rw[q2]
  simp only[Option.bind_some,V.aU,V.qC,V.toInt_int,ky,iO]
  rw[q3]
  simp only[Option.bind_some,V.aU,V.qC,V.toInt_int,ky,iO,un]
  rw[q]
  exact hf
 ·obtain ⟨m,s,q,r⟩:=K6 (d:=d) (a:=a+1*((b-a)/4)) (b:=a+2*((b-a)/4)) (c:=a+3*((b-a)/4)) (s:=0) (by omega) (by omega) (by omega)
  obtain ⟨h,hf⟩:=fin m s
  refine ⟨m,h,SJ ?_,by omega,by omega⟩
  unfold K0 Bf Be
  rw[e1,e2,K9,sC,La,nk (by omega),cond_true,sr (by omega),cond_false]
  simp only[un]
  rw[q]
  exact hf
theorem aeP {a b M:Nat} (hM1:1≤M) (hM:M≤2*(b-a)) (h8:8≤b-a) (hB:b<1152921504606846976): ∀(n i:Nat) (d:Array XE) (r:Int),a+2*((b-a)/4)+2-i=n→a≤i→b≤d.size→d.size<1152921504606846976→
  ∃x y z R,Loop (Fz CC a (b-a:Nat) M) ((i:Int),eA d,r)=some (x,y,eA R,z)∧PermIn a b d R:=by
 have e2:IntKind.wrap .i64 (Int.tdiv ((b-a:Nat):Int) 4)=(((b-a)/4:Nat):Int):=by rw[K8,wrap64 (by omega) (by omega)]
 have sC:IntKind.wrap .i64 ((a:Int)+IntKind.wrap .i64 (2*(((b-a)/4:Nat):Int)))=((a+2*((b-a)/4):Nat):Int):=by
  have:=mulC 2 ((b-a)/4)
  rw[show ((2:Nat):Int)=2 from rfl] at this
  rw[this]
  simp (disch:=omega) only[wrap64,fH]
 intro n
 induction n with
 | zero=>
  intro i d r hn hi hb hs
  refine ⟨(i:Int),false,r,d,aX ?_,permIn_refl _ _ _⟩
  simp only[Fz,Bh,un]
  rw[e2,sC,dG,wrap64 (by omega) (by omega),sr (by omega),cond_false]
 | succ n ih=>
  intro i d r hn hi hb hs
  obtain ⟨R1,q1,q2⟩:=aeN r
  obtain ⟨o,ho,lf⟩: ∃o:Nat,(o=if R1&&&(M-1)≥b-a then (R1&&&(M-1))-(b-a) else R1&&&(M-1))∧o<b-a:=by
   refine ⟨_,rfl,?_⟩
   have:R1&&&(M-1)≤M-1:=Nat.and_le_right
   split<;>omega
  have hand:R1&&&(M-1)≤M-1:=Nat.and_le_right
  have hP:=swp_permIn (α:=XE) d a b i (a+o) hi (by omega) (by omega) (by omega) hb
  obtain ⟨x,y,z,R,e,hR⟩:=ih (i+1) (swp d i (a+o)) (R1:Int) (by omega) (by omega) (by rw[size_swp];exact hb) (by rw[size_swp];exact hs)
  refine ⟨x,y,z,R,(bR ?_).trans e,permIn_trans _ _ _ a b hP hR⟩
  simp only[Fz,Bh,un]
  rw[e2,sC,dG,wrap64 (x:=((a+2*((b-a)/4)+1:Nat):Int)) (by omega) (by omega),nk (by omega),cond_true,q1]
  simp only[Option.bind_some,V.aU,V.qC,V.toInt_int,ky,iO]
  have e5:IntKind.wrap .u64 ((M:Int)-1)=((M-1:Nat):Int):=by rw[kj hM1,An (by omega)]
  rw[e5,u64_and q2 (by omega),wrap64 (x:=((R1&&&(M-1):Nat):Int)) (by omega) (by omega)]
  have fin: ∀k:Int,k=(o:Int)→(bif (decide (0≤(IntKind.wrap .i64 ((a:Int)+k))))&&(decide ((IntKind.wrap .i64 ((a:Int)+k))<((eA d).length:Int))) then
   ((eA d)[(IntKind.wrap .i64 ((a:Int)+k):Int).toNat]?).bind fun x4=>
   bif (decide (0≤(i:Int)))&&(decide ((i:Int)<((eA d).length:Int))) then
    ((eA d)[((i:Int):Int).toNat]?).bind fun x5=>
    bif (decide (0≤(i:Int)))&&(decide ((i:Int)<((eA d).length:Int))) then
    ((eA d)[((i:Int):Int).toNat]?).bind fun x6=>
    bif (decide (0≤(IntKind.wrap .i64 ((a:Int)+k))))&&(decide ((IntKind.wrap .i64 ((a:Int)+k))<(((eA d).set (((i:Int):Int).toNat) (.agg [.int .i64 ((x4.cell 0).toInt),.int .i64 ((x4.cell 1).toInt),.list aa ((x4.cell 2).toList)])).length:Int))) then
     (((eA d).set (((i:Int):Int).toNat) (.agg [.int .i64 ((x4.cell 0).toInt),.int .i64 ((x4.cell 1).toInt),.list aa ((x4.cell 2).toList)]))[(IntKind.wrap .i64 ((a:Int)+k):Int).toNat]?).bind fun x7=>
     some (.inl (IntKind.wrap .i64 ((i:Int)+1),((eA d).set (((i:Int):Int).toNat) (.agg [.int .i64 ((x4.cell 0).toInt),.int .i64 ((x4.cell 1).toInt),.list aa ((x4.cell 2).toList)])).set ((IntKind.wrap .i64 ((a:Int)+k):Int).toNat) (.agg [.int .i64 ((x5.cell 0).toInt),.int .i64 ((x5.cell 1).toInt),.list aa ((x5.cell 2).toList)]),(R1:Int)))
    else none
    else none
   else none
   else none:Option ((Int × List V × Int) ⊕ (Int × Bool × List V × Int)))=some (.inl (((i+1:Nat):Int),eA (swp d i (a+o)),(R1:Int))):=by
   intro k hk
   subst hk
   simp (disch:=omega) only[az,cO,gJ,aj,ai,wrap64,dG,fH,Int.toNat_natCast,Option.bind_some,fE,fG,XE.aZ,XE.bj,XE.bd,XE.re,fF,ib,gx,gp,V.aU,V.toInt_int,cond_true,cond_false]
   rfl
  unfold Fy
  by_cases h:R1&&&(M-1)≥b-a
  ·rw[aj h] at ho
   rw[nk (by omega),cond_true]
   exact fin _ (by rw[mj (by omega),wrap64 (by omega) (by omega)];omega)
  ·rw[ai h] at ho
   rw[sr (by omega),cond_false]
   exact fin _ (by omega)
theorem aeQ {a b:Nat} {d:Array XE} (eY:a+12<b) (hb:b≤d.size) (hs:d.size<1152921504606846976): ∃R,CC Er [.int .i64 (a:Int),.int .i64 (b:Int),.list aa (eA d)]=some [.list aa (eA R)]∧PermIn a b d R:=by
 obtain ⟨M,q1,q2,q3⟩:=aeM (x:=b-a) (by omega) (by omega)
 have e1:IntKind.wrap .i64 ((b:Int)-(a:Int))=((b-a:Nat):Int):=by rw[mj (by omega),wrap64 (by omega) (by omega)]
 have e2:IntKind.wrap .i64 (Int.tdiv ((b-a:Nat):Int) 4)=(((b-a)/4:Nat):Int):=by rw[K8,wrap64 (by omega) (by omega)]
 have sC:IntKind.wrap .i64 ((a:Int)+IntKind.wrap .i64 (2*(((b-a)/4:Nat):Int)))=((a+2*((b-a)/4):Nat):Int):=by
  have:=mulC 2 ((b-a)/4)
  rw[show ((2:Nat):Int)=2 from rfl] at this
  rw[this]
  simp (disch:=omega) only[wrap64,fH]
 obtain ⟨x,y,z,R,e,hR⟩:=aeP (a:=a) (b:=b) (M:=M) q2 q3 (by omega) (by omega) _ (a+2*((b-a)/4)-1) d (IntKind.wrap .u64 ((b-a:Nat):Int)) rfl (by omega) hb hs
 refine ⟨R,aet ?_,hR⟩
 unfold SP
 rw[e1,az,aj (by omega),q1]
 simp only[Option.bind_some,V.aU,V.toInt_int]
 rw[e2,sC,kj (by omega),wrap64 (x:=((a+2*((b-a)/4)-1:Nat):Int)) (by omega) (by omega),e]
 rfl
noncomputable def sD (C:ag) (a b':Int) (eG eV:Bool) (cD dH:Int) (ml:List V) {β:Type} (kn:(Int × Int × Int × Bool × Bool × (List V))→Option β):Option β:=
      bif decide ((a:Int)>0) then
       bif (decide (0≤(IntKind.wrap .i64 (a-1))))&&(decide ((IntKind.wrap .i64 (a-1))<(ml.length:Int))) then
       (ml[(IntKind.wrap .i64 (a-1):Int).toNat]?).bind fun jG=>
       bif (decide (0≤dH))&&(decide (dH<(ml.length:Int))) then
        (ml[(dH:Int).toNat]?).bind fun nr=>
        (C bn [.int .i64 ((jG.cell 0).toInt),.int .i64 ((jG.cell 1).toInt),.list aa ((jG.cell 2).toList),.int .i64 ((nr.cell 0).toInt),.int .i64 ((nr.cell 1).toInt),.list aa ((nr.cell 2).toList)]).bind fun nt=>
        bif !(decide ((((V.nth nt 0).toInt):Int)<0)) then
        (C uc [.int .i64 a,.int .i64 b',.int .i64 dH,.list aa ml]).bind fun pF=>
        kn ((V.nth pF 0).toInt,b',cD,eG,eV,(V.nth (pF.drop 1) 0).toList)
        else
        (C m7 [.int .i64 a,.int .i64 b',.int .i64 dH,.list aa ml]).bind fun dF=>
        bif decide (((IntKind.wrap .i64 (((V.nth dF 0).toInt)-a)):Int)<(IntKind.wrap .i64 (b'-((V.nth dF 0).toInt)))) then
         (C gh [.int .i64 a,.int .i64 ((V.nth dF 0).toInt),.int .i64 cD,.list aa ((V.nth (dF.drop 2) 0).toList)]).bind fun jJ=>
         kn (IntKind.wrap .i64 (((V.nth dF 0).toInt)+1),b',cD,decide (((IntKind.wrap .i64 (((V.nth dF 0).toInt)-a)):Int)≥(IntKind.wrap .i64 (Int.tdiv (IntKind.wrap .i64 (b'-a)) 8))),(V.nth (dF.drop 1) 0).toBool,(V.nth jJ 0).toList)
        else
         (C gh [.int .i64 (IntKind.wrap .i64 (((V.nth dF 0).toInt)+1)),.int .i64 b',.int .i64 cD,.list aa ((V.nth (dF.drop 2) 0).toList)]).bind fun dE=>
         kn (a,(V.nth dF 0).toInt,cD,decide (((IntKind.wrap .i64 (b'-((V.nth dF 0).toInt))):Int)≥(IntKind.wrap .i64 (Int.tdiv (IntKind.wrap .i64 (b'-a)) 8))),(V.nth (dF.drop 1) 0).toBool,(V.nth dE 0).toList)
       else none
       else none
      else
       (C m7 [.int .i64 a,.int .i64 b',.int .i64 dH,.list aa ml]).bind fun hZ=>
       bif decide (((IntKind.wrap .i64 (((V.nth hZ 0).toInt)-a)):Int)<(IntKind.wrap .i64 (b'-((V.nth hZ 0).toInt)))) then
       (C gh [.int .i64 a,.int .i64 ((V.nth hZ 0).toInt),.int .i64 cD,.list aa ((V.nth (hZ.drop 2) 0).toList)]).bind fun oI=>
       kn (IntKind.wrap .i64 (((V.nth hZ 0).toInt)+1),b',cD,decide (((IntKind.wrap .i64 (((V.nth hZ 0).toInt)-a)):Int)≥(IntKind.wrap .i64 (Int.tdiv (IntKind.wrap .i64 (b'-a)) 8))),(V.nth (hZ.drop 1) 0).toBool,(V.nth oI 0).toList)
       else
       (C gh [.int .i64 (IntKind.wrap .i64 (((V.nth hZ 0).toInt)+1)),.int .i64 b',.int .i64 cD,.list aa ((V.nth (hZ.drop 2) 0).toList)]).bind fun ic=>
       kn (a,(V.nth hZ 0).toInt,cD,decide (((IntKind.wrap .i64 (b'-((V.nth hZ 0).toInt))):Int)≥(IntKind.wrap .i64 (Int.tdiv (IntKind.wrap .i64 (b'-a)) 8))),(V.nth (hZ.drop 1) 0).toBool,(V.nth ic 0).toList)
theorem FE (C:ag) (a b' jd:Int) (eG eV:Bool) (ak:List V) {β:Type} (kn:(Int × Int × Int × Bool × Bool × (List V))→Option β) (kr:(List V)→Option β):
  pE C a b' jd eG eV ak kn kr=
 bif decide (((IntKind.wrap .i64 (b'-a)):Int)≤12) then
  (C Aa [.int .i64 a,.int .i64 b',.list aa ak]).bind fun r1=>
  kr ((V.nth r1 0).toList)
 else
  bif (jd:Int)==0 then
  (C Ab [.int .i64 a,.int .i64 b',.list aa ak]).bind fun r2=>
  kr ((V.nth r2 0).toList)
  else
  xK C a b' jd eG eV (IntKind.wrap .i64 (b'-a)) (!eG) ak (un fun (cD:Int) (Bk:List V)=>
   (C Ac [.list aa Bk,.int .i64 a,.int .i64 b']).bind fun r6=>
   xL C a b' cD eG eV (IntKind.wrap .i64 (b'-a)) ((V.nth r6 0).toInt) ((V.nth (r6.drop 1) 0).toInt) ((((V.nth (r6.drop 1) 0).toInt):Int)==2) Bk (un fun (dH:Int)=>un fun (K3:Int) (oF:List V)=>
    bif eG then
     bif eV then
     mo C a b' cD eG eV (IntKind.wrap .i64 (b'-a)) dH ((K3:Int)==1) oF (cq (un fun (Kc:Bool) (Lb:List V)=>
      kr Lb) (fun (ml:List V)=>sD C a b' eG eV cD dH ml kn))
     else
     mo C a b' cD eG eV (IntKind.wrap .i64 (b'-a)) dH false oF (cq (un fun (Qo:Bool) (aeR:List V)=>
      kr aeR) (fun (aeS:List V)=>sD C a b' eG eV cD dH aeS kn))
    else
     mo C a b' cD eG eV (IntKind.wrap .i64 (b'-a)) dH false oF (cq (un fun (ZT:Bool) (aeT:List V)=>
      kr aeT) (fun (aeU:List V)=>sD C a b' eG eV cD dH aeU kn)))):=rfl
section
variable {a b:Nat} {lim:Int} {wb wp:Bool}
theorem aeV {d:Array XE} (eY:a+12<b) (hb:b≤d.size) (hs:d.size<1152921504606846976) (len:Int) (t:Bool): ∃(l1:Int) (d1:Array XE),PermIn a b d d1∧∀(β:Type) (kr:(Int × List V)→Option β),xK CC a b lim wb wp len t (eA d) kr=kr (l1,eA d1):=by
 cases t with
 | true=>
  obtain ⟨R,e,hR⟩:=aeQ eY hb hs
  refine ⟨IntKind.wrap .i64 (lim-1),R,hR,fun β kr=> ?_⟩
  unfold xK
  rw[cond_true,e]
  rfl
 | false=>exact ⟨lim,d,permIn_refl _ _ _,fun β kr=>rfl⟩
theorem aeW {d:Array XE} (eY:a+12<b) (hb:b≤d.size) (hs:d.size<1152921504606846976) (len h:Int) (t:Bool) {p:Nat} (h1:a≤p) (U:p<b): ∃(p2:Nat) (U:Int) (d1:Array XE),a≤p2∧p2<b∧PermIn a b d d1∧∀(β:Type) (kr:(Int × Int × List V)→Option β),xL CC a b lim wb wp len p h t (eA d) kr=kr ((p2:Int),U,eA d1):=by
 cases t with
 | true=>
  refine ⟨b-1-(p-a),1,reverseRange d a b,by omega,by omega,reverseRange_holds d a b (by omega) hb,fun β kr=> ?_⟩
  unfold xL
  rw[cond_true,adN (by omega) hb hs]
  simp (disch:=omega) only[Option.bind_some,V.aU,V.j8,kj,mj,wrap64]
 | false=>exact ⟨p,h,d,h1,U,permIn_refl _ _ _,fun β kr=>rfl⟩
theorem aeX {d:Array XE} (eY:a+12<b) (hb:b≤d.size) (hs:d.size<1152921504606846976) (hB:Below aA a b d) (len p:Int) (t:Bool): ∃d1:Array XE,PermIn a b d d1∧
  ((∀(β:Type) (kr:((Bool × List V) ⊕ List V)→Option β),mo CC a b lim wb wp len p t (eA d) kr=kr (.inr (eA d1)))∨
  (SortedIn aA a b d1∧∀(β:Type) (kr:((Bool × List V) ⊕ List V)→Option β),mo CC a b lim wb wp len p t (eA d) kr=kr (.inl (true,eA d1)))):=by
 cases t with
 | true=>
  have hp:=partialInsertionSort_holds (lt:=aA) xM d a b (by omega) hb hB
  refine ⟨_,hp.1,?_⟩
  cases h:(partialInsertionSort aA d a b).2 with
  | true=>
   refine .inr ⟨hp.2 h,fun β kr=> ?_⟩
   unfold mo
   rw[cond_true,SF (by omega) hb hs,h]
   rfl
  | false=>
   refine .inl fun β kr=> ?_
   unfold mo
   rw[cond_true,SF (by omega) hb hs,h]
   rfl
 | false=>exact ⟨d,permIn_refl _ _ _,.inl fun β kr=>rfl⟩
end
def FF (a b:Nat) (d:Array XE):Prop:= ∀(lim:Int) (wb wp:Bool),∃R,Loop (S3 CC) ((a:Int),(b:Int),lim,wb,wp,eA d)=some (eA R)∧PermIn a b d R∧SortedIn aA a b R
theorem FF.call {a b:Nat} {d:Array XE} (h:FF a b d) (lim:Int): ∃R,CC gh [.int .i64 (a:Int),.int .i64 (b:Int),.int .i64 lim,.list aa (eA d)]=some [.list aa (eA R)]∧PermIn a b d R∧SortedIn aA a b R:=by
 obtain ⟨R,e,h1,U⟩:=h lim true true
 refine ⟨R,aeH ?_,h1,U⟩
 unfold S5
 rw[e]
 rfl
theorem aeY {a b p:Nat} {d:Array XE} (eY:a+12<b) (hb:b≤d.size) (hs:d.size<1152921504606846976) (hB:Below aA a b d) (h1:a≤p) (U:p<b)
  (ih: ∀(a2 b2:Nat) (d2:Array XE),b2-a2<b-a→a2≤b2→b2≤d2.size→d2.size<1152921504606846976→Below aA a2 b2 d2→FF a2 b2 d2) (wb wp:Bool) (lim:Int):
  ∃(a2 b2:Nat) (uP uQ:Bool) (d2:Array XE),b2-a2<b-a∧a2≤b2∧b2≤d2.size∧d2.size<1152921504606846976∧Below aA a2 b2 d2∧
   (∀R,PermIn a2 b2 d2 R→SortedIn aA a2 b2 R→PermIn a b d R∧SortedIn aA a b R)∧
   ∀(β:Type) (kn:(Int × Int × Int × Bool × Bool × (List V))→Option β),sD CC a b wb wp lim p (eA d) kn=kn ((a2:Int),(b2:Int),lim,uP,uQ,eA d2):=by
 have part: ∃(a2 b2:Nat) (uP uQ:Bool) (d2:Array XE),b2-a2<b-a∧a2≤b2∧b2≤d2.size∧d2.size<1152921504606846976∧Below aA a2 b2 d2∧
   (∀R,PermIn a2 b2 d2 R→SortedIn aA a2 b2 R→PermIn a b d R∧SortedIn aA a b R)∧
   ∀(β:Type) (kn:(Int × Int × Int × Bool × Bool × (List V))→Option β),
    ((CC m7 [.int .i64 (a:Int),.int .i64 (b:Int),.int .i64 (p:Int),.list aa (eA d)]).bind fun dF=>
        bif decide (((IntKind.wrap .i64 (((V.nth dF 0).toInt)-(a:Int))):Int)<(IntKind.wrap .i64 ((b:Int)-((V.nth dF 0).toInt)))) then
         (CC gh [.int .i64 (a:Int),.int .i64 ((V.nth dF 0).toInt),.int .i64 lim,.list aa ((V.nth (dF.drop 2) 0).toList)]).bind fun jJ=>
         kn (IntKind.wrap .i64 (((V.nth dF 0).toInt)+1),(b:Int),lim,decide (((IntKind.wrap .i64 (((V.nth dF 0).toInt)-(a:Int))):Int)≥(IntKind.wrap .i64 (Int.tdiv (IntKind.wrap .i64 ((b:Int)-(a:Int))) 8))),(V.nth (dF.drop 1) 0).toBool,(V.nth jJ 0).toList)
        else
         (CC gh [.int .i64 (IntKind.wrap .i64 (((V.nth dF 0).toInt)+1)),.int .i64 (b:Int),.int .i64 lim,.list aa ((V.nth (dF.drop 2) 0).toList)]).bind fun dE=>
         kn ((a:Int),(V.nth dF 0).toInt,lim,decide (((IntKind.wrap .i64 ((b:Int)-((V.nth dF 0).toInt))):Int)≥(IntKind.wrap .i64 (Int.tdiv (IntKind.wrap .i64 ((b:Int)-(a:Int))) 8))),(V.nth (dF.drop 1) 0).toBool,(V.nth dE 0).toList))=kn ((a2:Int),(b2:Int),lim,uP,uQ,eA d2):=by
  obtain ⟨mid,ap,d4,hx⟩: ∃mid ap d4,partition aA d a b p=(mid,ap,d4):=⟨_,_,_,rfl⟩
  obtain ⟨g1,g2,oJ,hBa,hBr,aeZ,ae0⟩:=round_part xM (partition_holds aA) h1 U hb hB hx
  have hc:=aee (a:=a) (b:=b) (pivot:=p) (d:=d) U (by omega) hb hs
  rw[hx] at hc
  by_cases hl:mid-a<b-mid
  ·obtain ⟨L,e,l1,l2⟩:=(ih a mid d4 (by omega) g1 (by rw[oJ];omega) (by rw[oJ];exact hs) hBa).call lim
   obtain ⟨Lc,Bl⟩:=aeZ _ l1 l2
   refine ⟨mid+1,b,decide (((IntKind.wrap .i64 ((mid:Int)-(a:Int))):Int)≥(IntKind.wrap .i64 (Int.tdiv (IntKind.wrap .i64 ((b:Int)-(a:Int))) 8))),ap,L,by omega,by omega,by rw[l1.1,oJ];exact hb,by rw[l1.1,oJ];exact hs,Lc,Bl,fun β kn=> ?_⟩
   ·rw[hc]
    simp only[Option.bind_some,V.aU,V.qC,V.toInt_int,V.ek,V.j8,ky,iO]
    rw[az,aj (by rw[mj g1,mj (by omega),wrap64 (by omega) (by omega),wrap64 (by omega) (by omega)];omega),e]
    simp only[Option.bind_some,V.aU,V.j8]
    rw[dG,wrap64 (x:=((mid+1:Nat):Int)) (by omega) (by omega)]
  ·obtain ⟨L,e,l1,l2⟩:=(ih (mid+1) b d4 (by omega) (by omega) (by rw[oJ];exact hb) (by rw[oJ];exact hs) hBr).call lim
   obtain ⟨Lc,Bl⟩:=ae0 _ l1 l2
   refine ⟨a,mid,decide (((IntKind.wrap .i64 ((b:Int)-(mid:Int))):Int)≥(IntKind.wrap .i64 (Int.tdiv (IntKind.wrap .i64 ((b:Int)-(a:Int))) 8))),ap,L,by omega,by omega,by rw[l1.1,oJ];omega,by rw[l1.1,oJ];exact hs,Lc,Bl,fun β kn=> ?_⟩
   ·rw[hc]
    simp only[Option.bind_some,V.aU,V.qC,V.toInt_int,V.ek,V.j8,ky,iO]
    rw[az,ai (by rw[mj g1,mj (by omega),wrap64 (by omega) (by omega),wrap64 (by omega) (by omega)];omega),dG,wrap64 (x:=((mid+1:Nat):Int)) (by omega) (by omega),e]
    simp only[Option.bind_some,V.aU,V.j8]
 by_cases ha:0<a
 ·by_cases hc:bW d[a-1]! d[p]! <0
  ·obtain ⟨a2,b2,uP,uQ,d2,q1,q2,q3,q4,q5,q6,q7⟩:=part
   refine ⟨a2,b2,uP,uQ,d2,q1,q2,q3,q4,q5,q6,fun β kn=> ?_⟩
   rw[←q7 β kn]
   unfold sD
   rw[az,aj (by omega),kj ha,wrap64 (by omega) (by omega),km (i:=a-1) (by omega),ko (by omega),km (i:=p) (by omega),ko (by omega)]
   simp only[XE.aZ,XE.bj,XE.bd,gp,Option.bind_some,V.aU,V.toInt_int]
   rw[gJ,az,aj hc]
  ·obtain ⟨mid,d4,hx⟩: ∃mid d4,partitionEqual aA d a b p=(mid,d4):=⟨_,_,rfl⟩
   obtain ⟨g1,GY,oJ,hB4,Bl⟩:=round_eq xM (partitionEqual_holds aA) ha h1 U hb hB (by rw[FB,←propext (aeJ _ _)];exact hc) hx
   have he:=aeg (a:=a) (b:=b) (pivot:=p) (d:=d) U (by omega) hb hs
   rw[hx] at he
   refine ⟨mid,b,wb,wp,d4,by omega,GY,by rw[oJ];exact hb,by rw[oJ];exact hs,hB4,Bl,fun β kn=> ?_⟩
   unfold sD
   rw[az,aj (by omega),kj ha,wrap64 (by omega) (by omega),km (i:=a-1) (by omega),ko (by omega),km (i:=p) (by omega),ko (by omega)]
   simp only[XE.aZ,XE.bj,XE.bd,gp,Option.bind_some,V.aU,V.toInt_int]
   rw[gJ,az,ai hc,he]
   rfl
 ·obtain ⟨a2,b2,uP,uQ,d2,q1,q2,q3,q4,q5,q6,q7⟩:=part
  refine ⟨a2,b2,uP,uQ,d2,q1,q2,q3,q4,q5,q6,fun β kn=> ?_⟩
  rw[←q7 β kn]
  unfold sD
  rw[az,ai (by omega)]
theorem ae1: ∀(n a b:Nat) (d:Array XE),b-a≤n→a≤b→b≤d.size→d.size<1152921504606846976→Below aA a b d→FF a b d:=by
 intro n
 induction n with
 | zero=>
  intro a b d hn eY hb hs hB lim wb wp
  have hi:=insertionSort_holds (lt:=aA) xM d a b eY hb
  refine ⟨_,aX ?_,hi⟩
  show pE CC a b lim wb wp (eA d) (fun y=>some (Sum.inl y)) (fun r=>some (Sum.inr r))=_
  rw[FE,az,aj (by rw[mj eY,wrap64 (by omega) (by omega)];omega),Sm hb hs (by omega)]
  rfl
 | succ n ih=>
  intro a b d hn eY hb hs hB lim wb wp
  by_cases h12:b-a≤12
  ·have hi:=insertionSort_holds (lt:=aA) xM d a b eY hb
   refine ⟨_,aX ?_,hi⟩
   show pE CC a b lim wb wp (eA d) (fun y=>some (Sum.inl y)) (fun r=>some (Sum.inr r))=_
   rw[FE,az,aj (by rw[mj eY,wrap64 (by omega) (by omega)];omega),Sm hb hs (by omega)]
   rfl
  ·have Bm:a+12<b:=by omega
   have rR: ¬(((IntKind.wrap .i64 ((b:Int)-(a:Int))):Int)≤12):=by rw[mj eY,wrap64 (by omega) (by omega)];omega
   by_cases h0:lim=0
   ·have hi:=heapSort_holds (lt:=aA) xM d a b eY hb
    refine ⟨_,aX ?_,hi⟩
    show pE CC a b lim wb wp (eA d) (fun y=>some (Sum.inl y)) (fun r=>some (Sum.inr r))=_
    rw[FE,az,ai rR,db,aj h0,adL (by omega) hb hs]
    rfl
   ·obtain ⟨l1,d1,s1,k1⟩:=aeV (lim:=lim) (wb:=wb) (wp:=wp) Bm hb hs (IntKind.wrap .i64 ((b:Int)-(a:Int))) (!wb)
    have b1:b≤d1.size:=by rw[s1.1];exact hb
    have z1:d1.size<1152921504606846976:=by rw[s1.1];exact hs
    obtain ⟨p,h,c1,p1,p2⟩:=aeO Bm b1 z1
    obtain ⟨q,U,d2,q1,q2,s2,k2⟩:=aeW (lim:=l1) (wb:=wb) (wp:=wp) Bm b1 z1 (IntKind.wrap .i64 ((b:Int)-(a:Int))) h (h==2) p1 p2
    have b2:b≤d2.size:=by rw[s2.1];exact b1
    have z2:d2.size<1152921504606846976:=by rw[s2.1];exact z1
    have B2:Below aA a b d2:=(hB.perm hb s1).perm b1 s2
    obtain ⟨t,ht⟩: ∃t:Bool,t=(bif wb then (bif wp then (U==1) else false) else false):=⟨_,rfl⟩
    obtain ⟨d3,s3,k3⟩:=aeX (lim:=l1) (wb:=wb) (wp:=wp) Bm b2 z2 B2 (IntKind.wrap .i64 ((b:Int)-(a:Int))) (q:Int) t
    have b3:b≤d3.size:=by rw[s3.1];exact b2
    have z3:d3.size<1152921504606846976:=by rw[s3.1];exact z2
    have B3:Below aA a b d3:=B2.perm b2 s3
    have P3:PermIn a b d d3:=permIn_trans _ _ _ a b (permIn_trans _ _ _ a b s1 s2) s3
    have step: ∀(β:Type) (kn:(Int × Int × Int × Bool × Bool × (List V))→Option β) (kr:(List V)→Option β),pE CC a b lim wb wp (eA d) kn kr=
      mo CC a b l1 wb wp (IntKind.wrap .i64 ((b:Int)-(a:Int))) (q:Int) t (eA d2) (cq (un fun (Kc:Bool) (Lb:List V)=>kr Lb) (fun (ml:List V)=>sD CC a b wb wp l1 q ml kn)):=by
     intro β kn kr
     rw[FE,az,ai rR,db,ai h0,k1]
     simp only[un]
     rw[c1]
     simp only[Option.bind_some,V.aU,V.qC,V.toInt_int,ky,iO]
     rw[k2]
     simp only[un]
     rw[ht]
     cases wb
     ·rfl
     ·cases wp
      ·rfl
      ·rfl
    rcases k3 with k3|⟨k3s,k3⟩
    ·obtain ⟨a4,b4,wb4,wp4,d4,r1,r2,r3,r4,r5,r6,r7⟩:=aeY Bm b3 z3 B3 q1 q2 (fun a2 b2 d2 aO h1 U h3 h4=>ih a2 b2 d2 (by omega) h1 U h3 h4) wb wp l1
     obtain ⟨R,e,e1,e2⟩:=ih a4 b4 d4 (by omega) r2 r3 r4 r5 l1 wb4 wp4
     obtain ⟨f1,f2⟩:=r6 R e1 e2
     refine ⟨R,(bR ?_).trans e,permIn_trans _ _ _ a b P3 f1,f2⟩
     show pE CC a b lim wb wp (eA d) (fun y=>some (Sum.inl y)) (fun r=>some (Sum.inr r))=_
     rw[step,k3]
     exact r7 _ (fun y=>some (Sum.inl y))
    ·refine ⟨d3,aX ?_,P3,k3s⟩
     show pE CC a b lim wb wp (eA d) (fun y=>some (Sum.inl y)) (fun r=>some (Sum.inr r))=_
     rw[step,k3]
     rfl
theorem ae2 (l:List XE) (hs:l.length<1152921504606846976): ∃R:List XE,CC z8 [.list aa (l.map XE.enc)]=some [.list aa (R.map XE.enc)]∧R.Perm l∧R.Pairwise (fun x y=> ¬y.lt x):=by
 obtain ⟨L,e1,_⟩:=S9 (x:=l.length) (by omega)
 obtain ⟨R,e2,h1,U⟩:=(ae1 _ 0 l.toArray.size l.toArray (bZ _) (kq _) (bZ _) (by simpa using hs) (.inl rfl)).call (L:Int)
 have aT:R.size=l.length:=by rw[h1.1];simp
 refine ⟨R.toList,aeI ?_,?_,?_⟩
 ·unfold S6
  rw[aP,An (A:=l.length) (by omega),e1]
  simp only[Option.bind_some,V.aU,V.toInt_int]
  have e3:eA l.toArray=l.map XE.enc:=by simp[pA]
  rw[e3,show ((l.toArray.size:Nat):Int)=(l.length:Int) by simp,show ((0:Nat):Int)=0 from rfl] at e2
  rw[e2]
  rfl
 ·have h3:=h1.2.2
  rw[show l.toArray.size=R.size from h1.1.symm,Array.extract_size,h1.1,Array.extract_size] at h3
  exact h3
 ·rw[B4]
  intro i j hi hj tA
  have h3:=U i j (kq _) tA (by simpa[←aT] using hj)
  rw[FB] at h3
  have dO:i<R.size:=by simpa using hi
  have gd:j<R.size:=by simpa using hj
  rw[getElem!_pos R i dO,getElem!_pos R j gd] at h3
  simpa using h3
end Go.AM.SX
set_option maxRecDepth 100000
namespace Go.AM
open Go.Proofs
noncomputable abbrev FG:Code:=cJ Try.prog (ay.ba 106)
noncomputable def xO (C:ag) (Bn uR:Nat) (k' kp:Int) (ss:List V) {β:Type} (kn:(Int × Int × (List V))→Option β) (kr:(Int × Int × Bool × (List V))→Option β):Option β:=
 bif decide ((kp:Int)<(uR:Int)) then
  bif (decide (0≤kp))&&(decide (kp<(uR:Int))) then
  (ss[Bn+((kp:Int).toNat)]?).bind fun x4=>
  bif (decide (0≤(IntKind.wrap .i64 (kp-1))))&&(decide ((IntKind.wrap .i64 (kp-1))<(uR:Int))) then
   (ss[Bn+((IntKind.wrap .i64 (kp-1):Int).toNat)]?).bind fun x5=>
   (C pq [.int .i64 ((x4.cell 0).toInt),.int .i64 ((x4.cell 1).toInt),.list aa ((x4.cell 2).toList),.int .i64 ((x5.cell 0).toInt),.int .i64 ((x5.cell 1).toInt),.list aa ((x5.cell 2).toList)]).bind fun r6=>
   bif !((V.nth r6 0).toBool) then
   bif (decide (0≤kp))&&(decide (kp<(uR:Int))) then
    (ss[Bn+((kp:Int).toNat)]?).bind fun x7=>
    bif (decide (0≤k'))&&(decide (k'<(ss.length:Int))) then
    (ss[(k':Int).toNat]?).bind fun x8=>
    kn (IntKind.wrap .i64 (k'+1),IntKind.wrap .i64 (kp+1),ss.set ((k':Int).toNat) (.agg [.int .i64 ((x7.cell 0).toInt),.int .i64 ((x7.cell 1).toInt),.list aa ((x7.cell 2).toList)]))
    else none
   else none
   else
   kn (k',IntKind.wrap .i64 (kp+1),ss)
  else none
  else none
 else
  kr (k',kp,decide ((kp:Int)<(uR:Int)),ss)
noncomputable def uS (C:ag) (Bn uR:Nat):(Int × Int × (List V))→Option ((Int × Int × (List V)) ⊕ (Int × Int × Bool × (List V))):=un fun k'=>un fun kp ss=>xO C Bn uR k' kp ss (fun y=>some (.inl y)) (fun r=>some (.inr r))
noncomputable def xP (C:ag) (ss:List V) (k':Int) {β:Type} (kn:Int→Option β) (kr:((List V) ⊕ (Int × Bool))→Option β):Option β:=
 bif decide ((k':Int)<(ss.length:Int)) then
  bif (decide (0≤k'))&&(decide (k'<(ss.length:Int))) then
  (ss[(k':Int).toNat]?).bind fun x1=>
  bif (decide (0≤(IntKind.wrap .i64 (k'-1))))&&(decide ((IntKind.wrap .i64 (k'-1))<(ss.length:Int))) then
   (ss[(IntKind.wrap .i64 (k'-1):Int).toNat]?).bind fun x2=>
   (C pq [.int .i64 ((x1.cell 0).toInt),.int .i64 ((x1.cell 1).toInt),.list aa ((x1.cell 2).toList),.int .i64 ((x2.cell 0).toInt),.int .i64 ((x2.cell 1).toInt),.list aa ((x2.cell 2).toList)]).bind fun r3=>
   bif (V.nth r3 0).toBool then
   bif (decide (0≤k'))&&(decide (k'≤(ss.length:Int))) then
    (Loop (uS C ((k':Int).toNat) (ss.length-((k':Int).toNat))) (k',1,ss)).bind (un fun (mq:Int)=>un fun (ai1:Int)=>un fun (ET:Bool) (qQ:List V)=>
     bif (decide (0≤mq))&&(decide (mq≤(qQ.length:Int))) then
     bif (decide (0≤mq))&&(decide (mq≤((qQ.take ((mq:Int).toNat)++(List.replicate (qQ.length-((mq:Int).toNat)) (V.agg [.int .i64 0,.int .i64 0,.list aa ([]:List V)])++qQ.drop (((mq:Int).toNat)+(qQ.length-((mq:Int).toNat))))).length:Int))) then
      kr (.inl ((qQ.take ((mq:Int).toNat)++(List.replicate (qQ.length-((mq:Int).toNat)) (V.agg [.int .i64 0,.int .i64 0,.list aa ([]:List V)])++qQ.drop (((mq:Int).toNat)+(qQ.length-((mq:Int).toNat))))).take ((mq:Int).toNat)))
     else none
     else none)
   else none
   else
   kn (IntKind.wrap .i64 (k'+1))
  else none
  else none
 else
  kr (.inr (k',decide ((k':Int)<(ss.length:Int))))
noncomputable def uT (C:ag) (ss:List V):(Int)→Option ((Int) ⊕ ((List V) ⊕ (Int × Bool))):=fun k'=>xP C ss k' (fun y=>some (.inl y)) (fun r=>some (.inr r))
noncomputable def Ta (C:ag):cz:=fun β n ds k=>
 bif Nat.beq n 145 then cb Jw [true,false,false,true,true] [[0,2,3,0,0,0]] (@xO C) ds k else
 bif Nat.beq n 65 then cb Jx [true,false] [[0],[0,0,2]] (@xP C) ds k else
 none
abbrev Tb (C:ag) (b:ct):Prop:=cv Try.prog ay C (Ta C) 106 (cL Try.prog (ay.ba 106)) (ay.sin 106).bh.length b
theorem ae3 (C:ag):Tb C (.loop (aw [1,1,0,1,0,0,1,0,0,1,0,1,0,1,0,0] FG)):=
 ch Jw [true,false,false,true,true] [[0,2,3,0,0,0]] (@xO C) (by kernel_rfl) (bq (bs:=[]) (by kernel_rfl) ax) (fun ds=>by kernel_rfl) (fun i x=>by kernel_rfl) (fun i x β k=>by kernel_rfl) (fun β ds k=>by kernel_rfl)
theorem ae4 (C:ag):Tb C (.loop (aw [1,1,0,1,0,0] FG)):=
 ch Jx [true,false] [[0],[0,0,2]] (@xP C) (by kernel_rfl) (bq (bs:=[.loop (aw [1,1,0,1,0,0,1,0,0,1,0,1,0,1,0,0] FG)]) (by kernel_rfl) (bD (ae3 C) ax)) (fun ds=>by kernel_rfl) (fun i x=>by kernel_rfl) (fun i x β k=>by kernel_rfl) (fun β ds k=>by kernel_rfl)
noncomputable def FH (C:ag) (ss:List V):Option (List V):=
 bif decide (((ss.length:Int):Int)<2) then
  some [V.bool true,.list aa ss]
 else
  (Loop (uT C ss) 1).bind (cq (fun (ae5:List V)=>
   some [V.bool false,.list aa ae5]) (un fun (ai2:Int) (wU:Bool)=>
   some [V.bool true,.list aa ss]))
theorem Ld {ss:List V} {r:Option (List V)} (h:FH CC ss=r):CC Ep [.list aa ss]=r:=
 bc (key:=106) (L:=Ta CC) (bs:=[.loop (aw [1,1,0,1,0,0] FG)]) (by kernel_rfl) (bD (ae4 CC) ax) (a9 (by kernel_rfl) h)
noncomputable def Tc (C:ag) (gm:List V):Option (List V):=
 (C z8 [.list aa gm]).bind fun r1=>
 (C Ep [.list aa ((V.nth r1 0).toList)]).bind fun r2=>
 bif (V.nth r2 0).toBool then
  some [V.bool true,.list aa ((V.nth (r2.drop 1) 0).toList)]
 else
  some [V.bool false,.list aa ((V.nth (r2.drop 1) 0).toList)]
theorem ae6 {gm:List V} {r:Option (List V)} (h:Tc CC gm=r):CC ub [.list aa gm]=r:=
 bc (key:=98) (L:=cf) (bs:=[]) (by kernel_rfl) ax (a9 (by kernel_rfl) h)
noncomputable def Td (C:ag) (gi gj:Int) (gM:List V) (gk gl:Int) (gN:List V):Option (List V):=
 (C bn [.int .i64 gi,.int .i64 gj,.list aa gM,.int .i64 gk,.int .i64 gl,.list aa gN]).bind fun r1=>
 some [.bool ((((V.nth r1 0).toInt):Int)==0)]
theorem ae7 {gi gj:Int} {gM:List V} {gk gl:Int} {gN:List V} {r:Option (List V)} (h:Td CC gi gj gM gk gl gN=r):CC pq [.int .i64 gi,.int .i64 gj,.list aa gM,.int .i64 gk,.int .i64 gl,.list aa gN]=r:=
 bc (key:=107) (L:=cf) (bs:=[]) (by kernel_rfl) ax (a9 (by kernel_rfl) h)
end Go.AM
set_option maxRecDepth 100000
namespace Go.AM
open Go.Proofs Ex
def nB (prev:Ex):List Ex→List Ex
 | []=>[]
 | x::l=>if cmp x prev=0 then nB x l else x::nB x l
def iN:List Ex→List Ex
 | []=>[]
 | x::l=>x::nB x l
theorem Te: ∀(m:List Ex) (prev x:Ex),nB prev (m++[x])=nB prev m++(if cmp x ((prev::m).getD m.length bf)=0 then [] else [x])
 | [],prev,x=>by simp only[List.nil_append,nB,List.length_nil,yr]
 | y::m,prev,x=>by
  have ih:=Te m y x
  simp only[List.cons_append,nB,List.length_cons,List.getD_cons_succ]
  split
  ·exact ih
  ·rw[ih];rfl
theorem Tf {l:List Ex} {p:Nat} (h1:1≤p) (U:p<l.length):iN (l.take (p+1))=iN (l.take p)++(if cmp (l.getD p bf) (l.getD (p-1) bf)=0 then [] else [l.getD p bf]):=by
 match l,p,h1,U with
 | y::l,p+1,_,U=>
  simp only[List.length_cons] at U
  rw[List.take_succ_cons,List.take_succ_cons,iN,iN,kP (by omega),Te]
  simp only[List.getD_cons_succ,eO,u4]
  rw[show min p l.length=p by omega]
  have:(y::l.take p).getD p bf=(y::l).getD p bf:=by
   match p with
   | 0=>rfl
   | q+1=>simp only[List.getD_cons_succ];rw[jO,jO,eN (by omega)]
  rw[this];rfl
theorem Tg: ∀(m:List Ex) (prev:Ex),(prev::m).Pairwise (fun x y=> ¬y.lx x)→jA (prev::nB prev m)∧∀x,x∈prev::nB prev m↔x∈prev::m
 | [],prev,_=>⟨by simp[nB],by simp[nB]⟩
 | y::m,prev,h=>by
  have h1:=sO.1 h
  obtain ⟨i1,i2⟩:=Tg m y h1.2
  rw[nB]
  by_cases hc:cmp y prev=0
  ·rw[aj hc]
   have:=uu _ _ hc
   subst this
   refine ⟨i1,fun x=> ?_⟩
   rw[i2 x];simp
  ·rw[ai hc]
   have aO:prev.lx y:=by
    by_cases U:prev.lx y
    ·exact U
    ·exact absurd (Ex.Rb U (h1.1 y (by simp))) fun e=>hc (by rw[e];exact Ar _)
   refine ⟨sO.2 ⟨fun x hx=> ?_,i1⟩,fun x=> ?_⟩
   ·rcases dg.1 hx with rfl|hx
    ·exact aO
    ·exact Ex.Kq aO ((sO.1 i1).1 x hx)
   ·rw[dg,i2 x,←dg]
theorem ae8 {l:List Ex} (h:l.Pairwise (fun x y=> ¬y.lx x)):jA (iN l)∧∀x,x∈iN l↔x∈l:=by
 match l,h with
 | [],_=>exact ⟨List.Pairwise.nil,fun _=>Iff.rfl⟩
 | y::l,h=>exact Tg l y h
theorem Th (a:Ex) (ha:a.Ok) (b:Ex) (hb:b.Ok):CC pq (bG a (bG b []))=some [.bool (decide (cmp a b=0))]:=by
 refine ae7 ?_
 unfold Td
 refine (congrArg (fun o=>Option.bind o _) (QV a ha b hb)).trans ?_
 simp only[Option.bind_some,V.aU,V.toInt_int]
 rw[AK]
section
variable {l:List Ex} (hn:l.length≤1000000) (au: ∀k∈l,k.Ok)
include hn au
theorem ae9 {k:Nat}: ∀(d k2 i:Nat) (ss:List Ex),k+k2+d=l.length→1≤k2→i+1≤k+k2→ss.length=l.length→ss.take i=iN (l.take (k+k2))→ss.drop (k+k2-1)=l.drop (k+k2-1)→
  ∃t u eS,Loop (uS CC k (l.length-k)) ((i:Int),(k2:Int),ss.map enc)=some (((iN l).length:Int),u,t,List.map enc eS)∧eS.take (iN l).length=iN l∧eS.length=l.length:=by
 intro d
 induction d with
 | zero=>
  intro k2 i ss hj lZ hi hl ht hd
  have e0:l.take (k+k2)=l:=yq (by omega)
  rw[e0] at ht
  have gF:i=(iN l).length:=by rw[←ht,eO];omega
  refine ⟨false,(k2:Int),ss,aX ?_,by rw[←gF];exact ht,hl⟩
  simp only[uS,xO,un,aP,az]
  rw[ai (by omega),cV (by omega),gF]
 | succ d ih=>
  intro k2 i ss hj lZ hi hl ht hd
  have hp:k+k2<l.length:=by omega
  have iA:ss.drop (k+k2)=l.drop (k+k2):=by
   have h:=congrArg (List.drop 1) hd
   rw[pQ,pQ] at h
   rwa [show k+k2-1+1=k+k2 by omega] at h
  have g1:=AP hl iA hp
  have g0:=AP hl hd (show k+k2-1<l.length by omega)
  have x1:(ss.map enc)[k+k2]? =some (l.getD (k+k2) bf).enc:=by rw[oE (by omega),g1]
  have x0:(ss.map enc)[k+(k2-1)]? =some (l.getD (k+k2-1) bf).enc:=by rw[show k+(k2-1)=k+k2-1 by omega,oE (by omega),g0]
  have w1:IntKind.wrap .i64 ((k2:Int)-1)=((k2-1:Nat):Int):=by rw[wrap64 (by omega) (by omega)];omega
  have t1:((k2:Nat):Int)<((l.length-k:Nat):Int):=by omega
  have t2:(0:Int)≤((k2:Nat):Int):=by omega
  have t3:(0:Int)≤((k2-1:Nat):Int):=by omega
  have t4:((k2-1:Nat):Int)<((l.length-k:Nat):Int):=by omega
  have t5:((i:Nat):Int)<(ss.length:Int):=by omega
  have t6:(0:Int)≤((i:Nat):Int):=by omega
  have bV: ∃y,(ss.map enc)[i]? =some y:=⟨_,oE (by omega)⟩
  obtain ⟨y,hy⟩:=bV
  have co:=Th (l.getD (k+k2) bf) (w7 au hp) (l.getD (k+k2-1) bf) (w7 au (by omega))
  have cs:=Tf (l:=l) (p:=k+k2) (by omega) hp
  by_cases he:cmp (l.getD (k+k2) bf) (l.getD (k+k2-1) bf)=0
  ·have bP:uS CC k (l.length-k) ((i:Int),(k2:Int),ss.map enc)=some (.inl ((i:Int),((k2+1:Nat):Int),ss.map enc)):=by
    simp only[uS,xO,un,aP,az,cO,w1,t1,t2,t3,t4,cF,Int.toNat_natCast,x1,x0,Option.bind_some,aZ,bj,bd]
    refine (congrArg (fun o=>Option.bind o _) co).trans ?_
    simp only[Option.bind_some,V.aU,V.ek]
    rw[dM he,pP,cond_false,wrap64 (by omega) (by omega)]
    rfl
   rw[bR bP]
   refine ih (k2+1) i ss (by omega) (by omega) (by omega) hl ?_ (by rw[show k+(k2+1)-1=k+k2 by omega];exact iA)
   rw[show k+(k2+1)=k+k2+1 by omega,cs,aj he,cU,ht]
  ·have bP:uS CC k (l.length-k) ((i:Int),(k2:Int),ss.map enc)=some (.inl (((i+1:Nat):Int),((k2+1:Nat):Int),(ss.set i (l.getD (k+k2) bf)).map enc)):=by
    simp only[uS,xO,un,aP,az,cO,w1,t1,t2,t3,t4,t5,t6,cF,Int.toNat_natCast,x1,x0,hy,Option.bind_some,aZ,bj,bd]
    refine (congrArg (fun o=>Option.bind o _) co).trans ?_
    simp only[Option.bind_some,V.aU,V.ek]
    rw[cV he,sP,cond_true,wrap64 (by omega) (by omega),wrap64 (by omega) (by omega),←dc,yu]
    rfl
   rw[bR bP]
   refine ih (k2+1) (i+1) (ss.set i (l.getD (k+k2) bf)) (by omega) (by omega) (by omega) (by simpa using hl) ?_ ?_
   ·rw[kP (by rw[nG];omega),B7 (bZ i),ht,show k+(k2+1)=k+k2+1 by omega,cs,ai he]
    simp[show i<ss.length by omega]
   ·rw[show k+(k2+1)-1=k+k2 by omega,B8 (by omega),iA]
theorem afa: ∀(d p:Nat),p+d=l.length→1≤p→iN (l.take p)=l.take p→
  (iN l=l∧∃t,Loop (uT CC (l.map enc)) (p:Int)=some (.inr t))∨Loop (uT CC (l.map enc)) (p:Int)=some (.inl ((iN l).map enc)):=by
 intro d
 induction d with
 | zero=>
  intro p hp h1 hc
  obtain rfl:p=l.length:=by omega
  rw[pN] at hc
  refine .inl ⟨hc,((l.length:Int),false),aX ?_⟩
  simp only[uT,xP,aP,az]
  rw[ai (by omega),cV (by omega)]
 | succ d ih=>
  intro p hp h1 hc
  have bQ:p<l.length:=by omega
  have cs:=Tf (l:=l) h1 bQ
  have co:=Th (l.getD p bf) (w7 au bQ) (l.getD (p-1) bf) (w7 au (by omega))
  have x1:(l.map enc)[p]? =some (l.getD p bf).enc:=oE bQ
  have x0:(l.map enc)[p-1]? =some (l.getD (p-1) bf).enc:=oE (by omega)
  have w1:IntKind.wrap .i64 ((p:Int)-1)=((p-1:Nat):Int):=by rw[wrap64 (by omega) (by omega)];omega
  have t1:((p:Nat):Int)<(l.length:Int):=by omega
  have t2:(0:Int)≤((p:Nat):Int):=by omega
  have t3:(0:Int)≤((p-1:Nat):Int):=by omega
  have t4:((p-1:Nat):Int)<(l.length:Int):=by omega
  have t5:((p:Nat):Int)≤(l.length:Int):=by omega
  by_cases he:cmp (l.getD p bf) (l.getD (p-1) bf)=0
  ·refine .inr (aX ?_)
   obtain ⟨t,u,eS,e1,e2,e3⟩:=ae9 hn au (k:=p) (l.length-(p+1)) 1 p l (by omega) (by omega) (by omega) rfl (by rw[cs,aj he,cU,hc]) rfl
   have hm:(iN l).length≤eS.length:=by
    have:=congrArg List.length e2
    rw[eO] at this
    omega
   have m1:(0:Int)≤(((iN l).length:Nat):Int):=by omega
   have m2:(((iN l).length:Nat):Int)≤((eS.map enc).length:Int):=by rw[aP];omega
   simp only[uT,xP,aP,az,cO,w1,t1,t2,t3,t4,t5,cF,Int.toNat_natCast,x1,x0,Option.bind_some,aZ,bj,bd]
   refine (congrArg (fun o=>Option.bind o _) co).trans ?_
   simp only[Option.bind_some,V.aU,V.ek]
   rw[dM he,cond_true]
   refine (congrArg (fun o=>Option.bind o _) e1).trans ?_
   simp only[Option.bind_some,un,cO,az,Int.toNat_natCast]
   rw[aj m1,aj m2,aj m1,aj (by simp only[bU,eO,sN,oO,aP];omega),Fk _ _ _ hm,e2]
  ·have bP:uT CC (l.map enc) (p:Int)=some (.inl ((p+1:Nat):Int)):=by
    simp only[uT,xP,aP,az,cO,w1,t1,t2,t3,t4,cF,Int.toNat_natCast,x1,x0,Option.bind_some,aZ,bj,bd]
    refine (congrArg (fun o=>Option.bind o _) co).trans ?_
    simp only[Option.bind_some,V.aU,V.ek]
    rw[cV he,cond_false,wrap64 (by omega) (by omega)]
    rfl
   rw[bR bP]
   exact ih (p+1) (by omega) (by omega) (by rw[cs,ai he,hc,←kP bQ])
theorem afb: ∃b,CC Ep [.list aa (l.map enc)]=some [.bool b,.list aa ((iN l).map enc)]:=by
 by_cases U:l.length<2
 ·refine ⟨true,Ld ?_⟩
  unfold FH
  rw[aP,az,aj (by omega)]
  match l,U with
  | [],_=>rfl
  | [k],_=>rfl
 ·rcases afa hn au (l.length-1) 1 (by omega) (by omega) (by
   match l,U with
   | k::l,_=>rfl) with ⟨h3,t,h4⟩|h4
  ·refine ⟨true,Ld ?_⟩
   unfold FH
   rw[aP,az,ai (by omega)]
   refine (congrArg (fun o=>Option.bind o _) h4).trans ?_
   rw[h3];rfl
  ·refine ⟨false,Ld ?_⟩
   unfold FH
   rw[aP,az,ai (by omega)]
   refine (congrArg (fun o=>Option.bind o _) h4).trans ?_
   rfl
theorem afc: ∃R:List Ex,CC z8 [.list aa (l.map enc)]=some [.list aa (R.map enc)]∧R.Perm l∧R.Pairwise (fun x y=> ¬y.lx x):=by
 have hx: ∃L:List SX.XE,L.map SX.XE.e=l:=by
  clear hn
  induction l with
  | nil=>exact ⟨[],rfl⟩
  | cons k l ih=>
   obtain ⟨L,hL⟩:=ih fun k hk=>au k (by simp[hk])
   exact ⟨⟨k,au k (by simp)⟩::L,by rw[cw,hL]⟩
 obtain ⟨L,rfl⟩:=hx
 have he: ∀L:List SX.XE,L.map SX.XE.enc=(L.map SX.XE.e).map enc:=fun L=>by rw[List.map_map];rfl
 obtain ⟨R,e1,h1,U⟩:=SX.ae2 L (by rw[aP] at hn;omega)
 refine ⟨R.map SX.XE.e,?_,h1.map _,List.pairwise_map.2 U⟩
 rw[←he,←he];exact e1
theorem Ti: ∃b,CC ub [.list aa (l.map enc)]=some [.bool b,.list aa ((l.foldl dK []).map enc)]:=by
 obtain ⟨R,e1,h1,U⟩:=afc hn au
 obtain ⟨b,e2⟩:=afb (l:=R) (by rw[h1.length_eq];exact hn) fun k hk=>au k (h1.mem_iff.1 hk)
 obtain ⟨c1,c2⟩:=ae8 U
 have hc:iN R=l.foldl dK []:=Kr c1 Ff fun x=>by rw[c2,xi,h1.mem_iff]
 rw[hc] at e2
 refine ⟨b,ae6 ?_⟩
 unfold Tc
 refine (congrArg (fun o=>Option.bind o _) e1).trans ?_
 simp only[Option.bind_some,V.aU,V.j8]
 refine (congrArg (fun o=>Option.bind o _) e2).trans ?_
 cases b<;>rfl
end
end Go.AM
