/-
  Functions of the program, lifted to plain data.
-/
import Derived.Sort.AssemblyPlain
import Derived.Test.YtppefogdkedaiaaP4
set_option linter.unusedVariables false
set_option linter.unusedSimpArgs false
set_option maxRecDepth 100000
namespace Go.AM
open Go.Proofs
noncomputable abbrev RP:Code:=cL Try.prog (ax.aZ 146)
noncomputable def xp (C:ag) (i j:Int) (ss:List V) {β:Type} (kn:(Int × Int × (List V))→Option β) (kr:(Int × Int × Bool × (List V))→Option β):Option β:=
 bif decide ((j:Int)<(ss.length:Int)) then
  bif (decide (0≤j))&&(decide (j<(ss.length:Int))) then
  (ss[(j:Int).toNat]?).bind fun x2=>
  (C ou [.int .i64 ((x2.cell 0).toInt),.int .i64 ((x2.cell 1).toInt),.list aa ((x2.cell 2).toList)]).bind fun r3=>
  bif !((V.nth r3 0).toBool) then
   bif (decide (0≤i))&&(decide (i<(ss.length:Int))) then
   (ss[(i:Int).toNat]?).bind fun x4=>
   kn (IntKind.wrap .i64 (i+1),IntKind.wrap .i64 (j+1),ss.set ((i:Int).toNat) (.agg [.int .i64 ((x2.cell 0).toInt),.int .i64 ((x2.cell 1).toInt),.list aa ((x2.cell 2).toList)]))
   else none
  else
   kn (i,IntKind.wrap .i64 (j+1),ss)
  else none
 else
  kr (i,j,decide ((j:Int)<(ss.length:Int)),ss)
noncomputable def uF (C:ag):(Int × Int × (List V))→Option ((Int × Int × (List V)) ⊕ (Int × Int × Bool × (List V))):=un fun i=>un fun j ss=>xp C i j ss (fun y=>some (.inl y)) (fun r=>some (.inr r))
noncomputable def RQ (C:ag):cD:=fun β n ds k=>
 bif Nat.beq n 81 then ca J0 [true,true,true] [[0,0,0,0]] (@xp C) ds k else
 none
abbrev acW (C:ag) (b:cA):Prop:=cB Try.prog ax C (RQ C) 146 (cQ Try.prog (ax.aZ 146)) (ax.sin 146).ba.length b
theorem acX (C:ag):acW C (.loop (av [1,1,1,0,1,0,0] RP)):=
 cg J0 [true,true,true] [[0,0,0,0]] (@xp C) (by kernel_rfl) (bm (bs:=[]) (by kernel_rfl) aw) (fun ds=>by kernel_rfl) (fun i x=>by kernel_rfl) (fun i x β k=>by kernel_rfl) (fun β ds k=>by kernel_rfl)
noncomputable def KM (C:ag) (ss:List V):Option (List V):=
 (C EB [.list aa ss]).bind fun r1=>
 bif (((V.nth r1 0).toInt):Int)==(-1) then
  some [V.bool true,.list aa ss]
 else
  (Loop (uF C) ((V.nth r1 0).toInt,IntKind.wrap .i64 (((V.nth r1 0).toInt)+1),ss)).bind (un fun (cP:Int)=>un fun (KK:Int)=>un fun (py:Bool) (ey:List V)=>
   bif (decide (0≤cP))&&(decide (cP≤(ey.length:Int))) then
   bif (decide (0≤cP))&&(decide (cP≤((ey.take ((cP:Int).toNat)++(List.replicate (ey.length-((cP:Int).toNat)) (V.agg [.int .i64 0,.int .i64 0,.list aa ([]:List V)])++ey.drop (((cP:Int).toNat)+(ey.length-((cP:Int).toNat))))).length:Int))) then
    some [V.bool false,.list aa ((ey.take ((cP:Int).toNat)++(List.replicate (ey.length-((cP:Int).toNat)) (V.agg [.int .i64 0,.int .i64 0,.list aa ([]:List V)])++ey.drop (((cP:Int).toNat)+(ey.length-((cP:Int).toNat))))).take ((cP:Int).toNat))]
   else none
   else none)
theorem RR {ss:List V} {r:Option (List V)} (h:KM CC ss=r):CC EA [.list aa ss]=r:=
 bn (key:=146) (L:=RQ CC) (bs:=[.loop (av [1,1,1,0,1,0,0] RP)]) (by kernel_rfl) (bD (acX CC) aw) (bc (by kernel_rfl) h)
noncomputable abbrev RS:Code:=cL Try.prog (ax.aZ 145)
noncomputable def xq (C:ag) (s:List V) (t7 t8:Int) {β:Type} (kn:Int→Option β) (kr:((Int) ⊕ (Int × Bool))→Option β):Option β:=
 bif decide ((t8:Int)<t7) then
  (idx s t8).bind fun x1=>
  (C l9 [.int .i64 ((x1.cell 0).toInt),.int .i64 ((x1.cell 1).toInt),.list aa ((x1.cell 2).toList)]).bind fun r2=>
  bif (V.nth r2 0).toBool then
  kr (.inl t8)
  else
  kn (IntKind.wrap .i64 (t8+1))
 else
  kr (.inr (t8,decide ((t8:Int)<t7)))
noncomputable def uG (C:ag) (s:List V) (t7:Int):(Int)→Option ((Int) ⊕ ((Int) ⊕ (Int × Bool))):=fun t8=>xq C s t7 t8 (fun y=>some (.inl y)) (fun r=>some (.inr r))
noncomputable def RT (C:ag):cD:=fun β n ds k=>
 bif Nat.beq n 33 then ca JZ [false,false,true] [[0],[1,2,0,0]] (@xq C) ds k else
 none
abbrev acY (C:ag) (b:cA):Prop:=cB Try.prog ax C (RT C) 145 (cQ Try.prog (ax.aZ 145)) (ax.sin 145).ba.length b
theorem acZ (C:ag):acY C (.loop (av [1,0,1,0,0] RS)):=
 cg JZ [false,false,true] [[0],[1,2,0,0]] (@xq C) (by kernel_rfl) (bm (bs:=[]) (by kernel_rfl) aw) (fun ds=>by kernel_rfl) (fun i x=>by kernel_rfl) (fun i x β k=>by kernel_rfl) (fun β ds k=>by kernel_rfl)
noncomputable def KN (C:ag) (s:List V):Option (List V):=
 (Loop (uG C s (s.length:Int)) 0).bind (b9 (fun (j9:Int)=>
  some [.int .i64 j9]) (un fun (ly:Int) (pw:Bool)=>
  some [.int .i64 (-1)]))
theorem RU {s:List V} {r:Option (List V)} (h:KN CC s=r):CC Ad [.list aa s]=r:=
 bn (key:=145) (L:=RT CC) (bs:=[.loop (av [1,0,1,0,0] RS)]) (by kernel_rfl) (bD (acZ CC) aw) (bc (by kernel_rfl) h)
noncomputable def RV (C:ag) (s:List V):Option (List V):=
 (C Ad [.list aa s]).bind fun r1=>
 some [.bool (decide ((((V.nth r1 0).toInt):Int)≥0))]
theorem ac0 {s:List V} {r:Option (List V)} (h:RV CC s=r):CC IH [.list aa s]=r:=
 bn (key:=144) (L:=cq) (bs:=[]) (by kernel_rfl) aw (bc (by kernel_rfl) h)
noncomputable abbrev RW:Code:=cL Try.prog (ax.aZ 94)
noncomputable def xr (C:ag) (i j:Int) (ss:List V) {β:Type} (kn:(Int × Int × (List V))→Option β) (kr:(Int × Int × Bool × (List V))→Option β):Option β:=
 bif decide ((j:Int)<(ss.length:Int)) then
  bif (decide (0≤j))&&(decide (j<(ss.length:Int))) then
  (ss[(j:Int).toNat]?).bind fun x2=>
  (C l9 [.int .i64 ((x2.cell 0).toInt),.int .i64 ((x2.cell 1).toInt),.list aa ((x2.cell 2).toList)]).bind fun r3=>
  bif !((V.nth r3 0).toBool) then
   bif (decide (0≤i))&&(decide (i<(ss.length:Int))) then
   (ss[(i:Int).toNat]?).bind fun x4=>
   kn (IntKind.wrap .i64 (i+1),IntKind.wrap .i64 (j+1),ss.set ((i:Int).toNat) (.agg [.int .i64 ((x2.cell 0).toInt),.int .i64 ((x2.cell 1).toInt),.list aa ((x2.cell 2).toList)]))
   else none
  else
   kn (i,IntKind.wrap .i64 (j+1),ss)
  else none
 else
  kr (i,j,decide ((j:Int)<(ss.length:Int)),ss)
noncomputable def uH (C:ag):(Int × Int × (List V))→Option ((Int × Int × (List V)) ⊕ (Int × Int × Bool × (List V))):=un fun i=>un fun j ss=>xr C i j ss (fun y=>some (.inl y)) (fun r=>some (.inr r))
noncomputable def RX (C:ag):cD:=fun β n ds k=>
 bif Nat.beq n 81 then ca Jr [true,true,true] [[0,0,0,0]] (@xr C) ds k else
 none
abbrev ac1 (C:ag) (b:cA):Prop:=cB Try.prog ax C (RX C) 94 (cQ Try.prog (ax.aZ 94)) (ax.sin 94).ba.length b
theorem ac2 (C:ag):ac1 C (.loop (av [1,1,1,0,1,0,0] RW)):=
 cg Jr [true,true,true] [[0,0,0,0]] (@xr C) (by kernel_rfl) (bm (bs:=[]) (by kernel_rfl) aw) (fun ds=>by kernel_rfl) (fun i x=>by kernel_rfl) (fun i x β k=>by kernel_rfl) (fun β ds k=>by kernel_rfl)
noncomputable def KO (C:ag) (ss:List V):Option (List V):=
 (C Ad [.list aa ss]).bind fun r1=>
 bif (((V.nth r1 0).toInt):Int)==(-1) then
  some [V.bool true,.list aa ss]
 else
  (Loop (uH C) ((V.nth r1 0).toInt,IntKind.wrap .i64 (((V.nth r1 0).toInt)+1),ss)).bind (un fun (cP:Int)=>un fun (KK:Int)=>un fun (py:Bool) (ey:List V)=>
   bif (decide (0≤cP))&&(decide (cP≤(ey.length:Int))) then
   bif (decide (0≤cP))&&(decide (cP≤((ey.take ((cP:Int).toNat)++(List.replicate (ey.length-((cP:Int).toNat)) (V.agg [.int .i64 0,.int .i64 0,.list aa ([]:List V)])++ey.drop (((cP:Int).toNat)+(ey.length-((cP:Int).toNat))))).length:Int))) then
    some [V.bool false,.list aa ((ey.take ((cP:Int).toNat)++(List.replicate (ey.length-((cP:Int).toNat)) (V.agg [.int .i64 0,.int .i64 0,.list aa ([]:List V)])++ey.drop (((cP:Int).toNat)+(ey.length-((cP:Int).toNat))))).take ((cP:Int).toNat))]
   else none
   else none)
theorem RY {ss:List V} {r:Option (List V)} (h:KO CC ss=r):CC wJ [.list aa ss]=r:=
 bn (key:=94) (L:=RX CC) (bs:=[.loop (av [1,1,1,0,1,0,0] RW)]) (by kernel_rfl) (bD (ac2 CC) aw) (bc (by kernel_rfl) h)
end Go.AM
set_option maxRecDepth 100000
namespace Go.AM
open Go.Proofs Ex
def fp (k:Ex):Bool:=decide (k.op=1)
def fZ (k:Ex):Bool:=decide (k.op=2)
theorem AI (k:Ex):CC ma (bN k [])=some [.bool (fp k)]:=by
 refine acM ?_
 unfold RC fp
 rw[E7]
theorem Fg (k:Ex):CC ou (bN k [])=some [.bool (fZ k)]:=by
 refine acN ?_
 unfold RD fZ
 rw[E7]
theorem AJ (k:Ex):CC l9 (bN k [])=some [.bool (univ k)]:=by
 obtain ⟨o,l,ks⟩:=k
 refine acO ?_
 unfold RE univ
 simp only[Ex.op,Ex.kids,c9,aQ]
 by_cases h1:o=8
 ·rw[aj h1]
  match ks with
  | []=>simp
  | [k]=>
   rw[aj (by simp)]
   simp only[cF,fM,List.getElem?_cons_zero,Option.bind_some,a9,bp,bh]
   refine (congrArg (fun o=>Option.bind o _) (AI k)).trans ?_
   simp only[h1,fp]
   simp
   rfl
  | k::k2::ks=>
   rw[ai (by simp<;>omega)]
   simp
 ·rw[ai h1];simp[h1]
theorem kO {l:List Ex} {j:Nat} (h:j<l.length):l.take (j+1)=l.take j++[l.getD j aW]:=by
 rw[List.take_succ_eq_append_getElem h];simp[h]
theorem AK {l ss:List Ex} {j:Nat} (hl:ss.length=l.length) (h:ss.drop j=l.drop j) (hj:j<l.length):ss.getD j aW=l.getD j aW:=by
 have h1:=congrArg (fun x:List Ex=>x.getD 0 aW) h
 simpa[hj,hl] using h1
theorem oD {l:List Ex} {i:Nat} (h:i<l.length):(l.map enc)[i]? =some (l.getD i aW).enc:=by simp[h]
theorem Fh (ss:List Ex) (m:Nat) (z:V) (hm:m≤ss.length):((((ss.map enc).take m++(List.replicate ((ss.map enc).length-m) z++(ss.map enc).drop (m+((ss.map enc).length-m)))).take m)=(ss.take m).map enc):=by
 rw[List.take_append_of_le_length (by simp;omega),B5 (by simp;omega),List.map_take]
theorem ac3 {ks:List Ex} (hlen:ks.length≤1000000): ∀(aB pre:List Ex),ks=pre++aB→(∀k∈pre,fp k=false)→
  (ks.any fp=false∧∃t,Loop (uC CC (ks.map enc) ((ks.map enc).length:Int)) ((pre.length:Nat):Int)=some (.inr t))∨
  (∃i:Nat,i<ks.length∧fp (ks.getD i aW)=true∧(∀k∈ks.take i,fp k=false)∧Loop (uC CC (ks.map enc) ((ks.map enc).length:Int)) ((pre.length:Nat):Int)=some (.inl (i:Int))):=by
 intro aB
 induction aB with
 | nil=>
  intro pre aY hp
  rw[c6] at aY
  subst aY
  refine .inl ⟨xl hp,⟨(((ks.length:Nat):Int),false),aX ?_⟩⟩
  ·simp only[uC,xm,aQ,ay]
   rw[ai (by omega),cK (by omega)]
 | cons k aB ih=>
  intro pre aY hp
  have bZ:pre.length<ks.length:=by rw[aY];simp
  have bP:idx (ks.map enc) (pre.length:Int)=some k.enc:=by rw[aY];exact hY _ _ _
  cases hk:fp k with
  | true=>
   refine .inr ⟨pre.length,bZ,by rw[aY];simpa using hk,by rw[aY];simpa using hp,aX ?_⟩
   simp only[uC,xm,aQ,ay]
   rw[aj (by omega),bP]
   simp only[Option.bind_some,a9,bp,bh]
   refine (congrArg (fun o=>Option.bind o _) (AI k)).trans ?_
   simp only[Option.bind_some,V.aT,V.er]
   rw[hk,cond_true]
  | false=>
   have bL:uC CC (ks.map enc) ((ks.map enc).length:Int) ((pre.length:Nat):Int)=some (.inl (((pre++[k]).length:Nat):Int)):=by
    simp only[uC,xm,aQ,ay]
    rw[aj (by omega),bP]
    simp only[Option.bind_some,a9,bp,bh]
    refine (congrArg (fun o=>Option.bind o _) (AI k)).trans ?_
    simp only[Option.bind_some,V.aT,V.er]
    rw[hk,cond_false,wrap64 (by omega) (by omega)]
    simp
   rw[bO bL]
   refine ih (pre++[k]) (by rw[aY];simp) fun x hx=> ?_
   rcases ej.1 hx with hx|hx
   ·exact hp x hx
   ·rw[eb.1 hx];exact hk
theorem RZ {ks:List Ex} (hlen:ks.length≤1000000):
  (ks.any fp=false∧CC qH [.list aa (ks.map enc)]=some [.int .i64 (-1)])∨
  (∃i:Nat,i<ks.length∧fp (ks.getD i aW)=true∧(∀k∈ks.take i,fp k=false)∧CC qH [.list aa (ks.map enc)]=some [.int .i64 (i:Int)]):=by
 rcases ac3 hlen ks [] rfl (by simp) with ⟨h1,t,U⟩|⟨i,h1,U,h3,h4⟩
 ·refine .inl ⟨h1,RH ?_⟩
  unfold KI
  refine (congrArg (fun o=>Option.bind o _) U).trans ?_
  rfl
 ·refine .inr ⟨i,h1,U,h3,RH ?_⟩
  unfold KI
  refine (congrArg (fun o=>Option.bind o _) h4).trans ?_
  rfl
theorem ac4 {ks:List Ex} (hlen:ks.length≤1000000):CC rZ [.list aa (ks.map enc)]=some [.bool (ks.any fp)]:=by
 refine acR ?_
 unfold RI
 rcases RZ hlen with ⟨h1,U⟩|⟨i,h1,U,h3,h4⟩
 ·refine (congrArg (fun o=>Option.bind o _) U).trans ?_
  rw[h1];rfl
 ·refine (congrArg (fun o=>Option.bind o _) h4).trans ?_
  rw[nK.2 ⟨_,by rw[show ks.getD i aW=ks[i] by simp[h1]];exact List.getElem_mem h1,U⟩]
  simp
theorem ac5 {ks:List Ex} (hn:ks.length≤1000000): ∀(d j i:Nat) (ss:List Ex),j+d=ks.length→i≤j→ss.length=ks.length→ss.take i=(ks.take j).filter (fun k=> !(fp k))→ss.drop j=ks.drop j→
  ∃t eP,Loop (uD CC) ((i:Int),(j:Int),ss.map enc)=some (((ks.filter (fun k=> !(fp k))).length:Int),(ks.length:Int),t,List.map enc eP)∧eP.take (ks.filter (fun k=> !(fp k))).length=ks.filter (fun k=> !(fp k))∧eP.length=ks.length:=by
 intro d
 induction d with
 | zero=>
  intro j i ss hj hi hl ht hd
  obtain rfl:j=ks.length:=by omega
  rw[pN] at ht
  have gF:i=(ks.filter (fun k=> !(fp k))).length:=by rw[←ht,eL];omega
  refine ⟨false,ss,aX ?_,by rw[←gF];exact ht,hl⟩
  simp only[uD,xn,un,aQ,ay]
  rw[ai (by omega),cK (by omega),gF]
 | succ d ih=>
  intro j i ss hj hi hl ht hd
  have b7:j<ks.length:=by omega
  have hg:=AK hl hd b7
  have iA:ss.drop (j+1)=ks.drop (j+1):=by rw[←pQ,←pQ,hd]
  have hx:(ss.map enc)[j]? =some (ks.getD j aW).enc:=by rw[oD (by omega),hg]
  have t1:((j:Nat):Int)<(ss.length:Int):=by omega
  have t2:(0:Int)≤((j:Nat):Int):=by omega
  have t3:((i:Nat):Int)<(ss.length:Int):=by omega
  have t4:(0:Int)≤((i:Nat):Int):=by omega
  have bP: ∃y,(ss.map enc)[i]? =some y:=⟨_,oD (by omega)⟩
  obtain ⟨y,hy⟩:=bP
  cases hk:fp (ks.getD j aW) with
  | true=>
   have bL:uD CC ((i:Int),(j:Int),ss.map enc)=some (.inl ((i:Int),((j+1:Nat):Int),ss.map enc)):=by
    simp only[uD,xn,un,aQ,ay,cO,t1,t2,cE,Int.toNat_natCast,hx,Option.bind_some,a9,bp,bh]
    refine (congrArg (fun o=>Option.bind o _) (AI (ks.getD j aW))).trans ?_
    simp only[Option.bind_some,V.aT,V.er]
    rw[hk,pP,cond_false,wrap64 (by omega) (by omega)]
    rfl
   rw[bO bL]
   refine ih (j+1) i ss (by omega) (by omega) hl ?_ iA
   rw[kO b7,mF,ht,oR,hk]
   simp
  | false=>
   have bL:uD CC ((i:Int),(j:Int),ss.map enc)=some (.inl (((i+1:Nat):Int),((j+1:Nat):Int),(ss.set i (ks.getD j aW)).map enc)):=by
    simp only[uD,xn,un,aQ,ay,cO,t1,t2,t3,t4,cE,Int.toNat_natCast,hx,hy,Option.bind_some,a9,bp,bh]
    refine (congrArg (fun o=>Option.bind o _) (AI (ks.getD j aW))).trans ?_
    simp only[Option.bind_some,V.aT,V.er]
    rw[hk,sV,cond_true,wrap64 (by omega) (by omega),wrap64 (by omega) (by omega),←dD,yu]
    rfl
   rw[bO bL]
   refine ih (j+1) (i+1) (ss.set i (ks.getD j aW)) (by omega) (by omega) (by simpa using hl) ?_ ?_
   ·rw[kO (by rw[nH];omega),B7 (bW i),ht,kO b7,mF,oR,hk]
    simp[show i<ss.length by omega]
   ·rw[B8 (by omega),iA]
theorem ac6 {ks:List Ex} (hn:ks.length≤1000000): ∃b,CC EC [.list aa (ks.map enc)]=some [.bool b,.list aa ((ks.filter (fun k=> !(fp k))).map enc)]:=by
 rcases RZ hn with ⟨h1,U⟩|⟨i,h1,U,h3,h4⟩
 ·refine ⟨true,RL ?_⟩
  unfold KJ
  refine (congrArg (fun o=>Option.bind o _) U).trans ?_
  rw[nM.2 fun k hk=>show (!(fp k))=true by rw[any_false (p:=fp) (by rw[h1];simp) k hk];rfl]
  rfl
 ·have hf:(ks.take (i+1)).filter (fun k=> !(fp k))=ks.take i:=by
   rw[kO h1,mF,oR,U,nM.2 fun k hk=>show (!(fp k))=true by rw[h3 k hk];rfl]
   simp
  obtain ⟨t,eP,e1,e2,e3⟩:=ac5 hn (ks.length-(i+1)) (i+1) i ks (by omega) (by omega) rfl hf.symm rfl
  refine ⟨false,RL ?_⟩
  unfold KJ
  refine (congrArg (fun o=>Option.bind o _) h4).trans ?_
  simp only[Option.bind_some,V.aT,V.toInt_int,c9]
  rw[ai (by omega),wrap64 (by omega) (by omega)]
  refine (congrArg (fun o=>Option.bind o _) e1).trans ?_
  have hm:(ks.filter (fun k=> !(fp k))).length≤eP.length:=by rw[e3];exact sW _ _
  have t1:((((ks.filter (fun k=> !(fp k))).length:Nat):Int)≤((eP.map enc).length:Int)):=by rw[aQ];omega
  simp only[Option.bind_some,un,cO,ay,Int.toNat_natCast]
  rw[aj (by omega),aj t1,aj (by omega),aj (by simp only[bR,eL,sS,oO];omega),Fh _ _ _ hm,e2]
theorem ac7 {ks:List Ex} (hlen:ks.length≤1000000): ∀(aB pre:List Ex),ks=pre++aB→(∀k∈pre,fZ k=false)→
  (ks.any fZ=false∧∃t,Loop (uE CC (ks.map enc) ((ks.map enc).length:Int)) ((pre.length:Nat):Int)=some (.inr t))∨
  (∃i:Nat,i<ks.length∧fZ (ks.getD i aW)=true∧(∀k∈ks.take i,fZ k=false)∧Loop (uE CC (ks.map enc) ((ks.map enc).length:Int)) ((pre.length:Nat):Int)=some (.inl (i:Int))):=by
 intro aB
 induction aB with
 | nil=>
  intro pre aY hp
  rw[c6] at aY
  subst aY
  refine .inl ⟨xl hp,⟨(((ks.length:Nat):Int),false),aX ?_⟩⟩
  ·simp only[uE,xo,aQ,ay]
   rw[ai (by omega),cK (by omega)]
 | cons k aB ih=>
  intro pre aY hp
  have bZ:pre.length<ks.length:=by rw[aY];simp
  have bP:idx (ks.map enc) (pre.length:Int)=some k.enc:=by rw[aY];exact hY _ _ _
  cases hk:fZ k with
  | true=>
   refine .inr ⟨pre.length,bZ,by rw[aY];simpa using hk,by rw[aY];simpa using hp,aX ?_⟩
   simp only[uE,xo,aQ,ay]
   rw[aj (by omega),bP]
   simp only[Option.bind_some,a9,bp,bh]
   refine (congrArg (fun o=>Option.bind o _) (Fg k)).trans ?_
   simp only[Option.bind_some,V.aT,V.er]
   rw[hk,cond_true]
  | false=>
   have bL:uE CC (ks.map enc) ((ks.map enc).length:Int) ((pre.length:Nat):Int)=some (.inl (((pre++[k]).length:Nat):Int)):=by
    simp only[uE,xo,aQ,ay]
    rw[aj (by omega),bP]
    simp only[Option.bind_some,a9,bp,bh]
    refine (congrArg (fun o=>Option.bind o _) (Fg k)).trans ?_
    simp only[Option.bind_some,V.aT,V.er]
    rw[hk,cond_false,wrap64 (by omega) (by omega)]
    simp
   rw[bO bL]
   refine ih (pre++[k]) (by rw[aY];simp) fun x hx=> ?_
   rcases ej.1 hx with hx|hx
   ·exact hp x hx
   ·rw[eb.1 hx];exact hk
theorem ac8 {ks:List Ex} (hlen:ks.length≤1000000):
  (ks.any fZ=false∧CC EB [.list aa (ks.map enc)]=some [.int .i64 (-1)])∨
  (∃i:Nat,i<ks.length∧fZ (ks.getD i aW)=true∧(∀k∈ks.take i,fZ k=false)∧CC EB [.list aa (ks.map enc)]=some [.int .i64 (i:Int)]):=by
 rcases ac7 hlen ks [] rfl (by simp) with ⟨h1,t,U⟩|⟨i,h1,U,h3,h4⟩
 ·refine .inl ⟨h1,RO ?_⟩
  unfold KL
  refine (congrArg (fun o=>Option.bind o _) U).trans ?_
  rfl
 ·refine .inr ⟨i,h1,U,h3,RO ?_⟩
  unfold KL
  refine (congrArg (fun o=>Option.bind o _) h4).trans ?_
  rfl
theorem ac9 {ks:List Ex} (hn:ks.length≤1000000): ∀(d j i:Nat) (ss:List Ex),j+d=ks.length→i≤j→ss.length=ks.length→ss.take i=(ks.take j).filter (fun k=> !(fZ k))→ss.drop j=ks.drop j→
  ∃t eP,Loop (uF CC) ((i:Int),(j:Int),ss.map enc)=some (((ks.filter (fun k=> !(fZ k))).length:Int),(ks.length:Int),t,List.map enc eP)∧eP.take (ks.filter (fun k=> !(fZ k))).length=ks.filter (fun k=> !(fZ k))∧eP.length=ks.length:=by
 intro d
 induction d with
 | zero=>
  intro j i ss hj hi hl ht hd
  obtain rfl:j=ks.length:=by omega
  rw[pN] at ht
  have gF:i=(ks.filter (fun k=> !(fZ k))).length:=by rw[←ht,eL];omega
  refine ⟨false,ss,aX ?_,by rw[←gF];exact ht,hl⟩
  simp only[uF,xp,un,aQ,ay]
  rw[ai (by omega),cK (by omega),gF]
 | succ d ih=>
  intro j i ss hj hi hl ht hd
  have b7:j<ks.length:=by omega
  have hg:=AK hl hd b7
  have iA:ss.drop (j+1)=ks.drop (j+1):=by rw[←pQ,←pQ,hd]
  have hx:(ss.map enc)[j]? =some (ks.getD j aW).enc:=by rw[oD (by omega),hg]
  have t1:((j:Nat):Int)<(ss.length:Int):=by omega
  have t2:(0:Int)≤((j:Nat):Int):=by omega
  have t3:((i:Nat):Int)<(ss.length:Int):=by omega
  have t4:(0:Int)≤((i:Nat):Int):=by omega
  have bP: ∃y,(ss.map enc)[i]? =some y:=⟨_,oD (by omega)⟩
  obtain ⟨y,hy⟩:=bP
  cases hk:fZ (ks.getD j aW) with
  | true=>
   have bL:uF CC ((i:Int),(j:Int),ss.map enc)=some (.inl ((i:Int),((j+1:Nat):Int),ss.map enc)):=by
    simp only[uF,xp,un,aQ,ay,cO,t1,t2,cE,Int.toNat_natCast,hx,Option.bind_some,a9,bp,bh]
    refine (congrArg (fun o=>Option.bind o _) (Fg (ks.getD j aW))).trans ?_
    simp only[Option.bind_some,V.aT,V.er]
    rw[hk,pP,cond_false,wrap64 (by omega) (by omega)]
    rfl
   rw[bO bL]
   refine ih (j+1) i ss (by omega) (by omega) hl ?_ iA
   rw[kO b7,mF,ht,oR,hk]
   simp
  | false=>
   have bL:uF CC ((i:Int),(j:Int),ss.map enc)=some (.inl (((i+1:Nat):Int),((j+1:Nat):Int),(ss.set i (ks.getD j aW)).map enc)):=by
    simp only[uF,xp,un,aQ,ay,cO,t1,t2,t3,t4,cE,Int.toNat_natCast,hx,hy,Option.bind_some,a9,bp,bh]
    refine (congrArg (fun o=>Option.bind o _) (Fg (ks.getD j aW))).trans ?_
    simp only[Option.bind_some,V.aT,V.er]
    rw[hk,sV,cond_true,wrap64 (by omega) (by omega),wrap64 (by omega) (by omega),←dD,yu]
    rfl
   rw[bO bL]
   refine ih (j+1) (i+1) (ss.set i (ks.getD j aW)) (by omega) (by omega) (by simpa using hl) ?_ ?_
   ·rw[kO (by rw[nH];omega),B7 (bW i),ht,kO b7,mF,oR,hk]
    simp[show i<ss.length by omega]
   ·rw[B8 (by omega),iA]
theorem ada {ks:List Ex} (hn:ks.length≤1000000): ∃b,CC EA [.list aa (ks.map enc)]=some [.bool b,.list aa ((ks.filter (fun k=> !(fZ k))).map enc)]:=by
 rcases ac8 hn with ⟨h1,U⟩|⟨i,h1,U,h3,h4⟩
 ·refine ⟨true,RR ?_⟩
  unfold KM
  refine (congrArg (fun o=>Option.bind o _) U).trans ?_
  rw[nM.2 fun k hk=>show (!(fZ k))=true by rw[any_false (p:=fZ) (by rw[h1];simp) k hk];rfl]
  rfl
 ·have hf:(ks.take (i+1)).filter (fun k=> !(fZ k))=ks.take i:=by
   rw[kO h1,mF,oR,U,nM.2 fun k hk=>show (!(fZ k))=true by rw[h3 k hk];rfl]
   simp
  obtain ⟨t,eP,e1,e2,e3⟩:=ac9 hn (ks.length-(i+1)) (i+1) i ks (by omega) (by omega) rfl hf.symm rfl
  refine ⟨false,RR ?_⟩
  unfold KM
  refine (congrArg (fun o=>Option.bind o _) h4).trans ?_
  simp only[Option.bind_some,V.aT,V.toInt_int,c9]
  rw[ai (by omega),wrap64 (by omega) (by omega)]
  refine (congrArg (fun o=>Option.bind o _) e1).trans ?_
  have hm:(ks.filter (fun k=> !(fZ k))).length≤eP.length:=by rw[e3];exact sW _ _
  have t1:((((ks.filter (fun k=> !(fZ k))).length:Nat):Int)≤((eP.map enc).length:Int)):=by rw[aQ];omega
  simp only[Option.bind_some,un,cO,ay,Int.toNat_natCast]
  rw[aj (by omega),aj t1,aj (by omega),aj (by simp only[bR,eL,sS,oO];omega),Fh _ _ _ hm,e2]
theorem adb {ks:List Ex} (hlen:ks.length≤1000000): ∀(aB pre:List Ex),ks=pre++aB→(∀k∈pre,univ k=false)→
  (ks.any univ=false∧∃t,Loop (uG CC (ks.map enc) ((ks.map enc).length:Int)) ((pre.length:Nat):Int)=some (.inr t))∨
  (∃i:Nat,i<ks.length∧univ (ks.getD i aW)=true∧(∀k∈ks.take i,univ k=false)∧Loop (uG CC (ks.map enc) ((ks.map enc).length:Int)) ((pre.length:Nat):Int)=some (.inl (i:Int))):=by
 intro aB
 induction aB with
 | nil=>
  intro pre aY hp
  rw[c6] at aY
  subst aY
  refine .inl ⟨xl hp,⟨(((ks.length:Nat):Int),false),aX ?_⟩⟩
  ·simp only[uG,xq,aQ,ay]
   rw[ai (by omega),cK (by omega)]
 | cons k aB ih=>
  intro pre aY hp
  have bZ:pre.length<ks.length:=by rw[aY];simp
  have bP:idx (ks.map enc) (pre.length:Int)=some k.enc:=by rw[aY];exact hY _ _ _
  cases hk:univ k with
  | true=>
   refine .inr ⟨pre.length,bZ,by rw[aY];simpa using hk,by rw[aY];simpa using hp,aX ?_⟩
   simp only[uG,xq,aQ,ay]
   rw[aj (by omega),bP]
   simp only[Option.bind_some,a9,bp,bh]
   refine (congrArg (fun o=>Option.bind o _) (AJ k)).trans ?_
   simp only[Option.bind_some,V.aT,V.er]
   rw[hk,cond_true]
  | false=>
   have bL:uG CC (ks.map enc) ((ks.map enc).length:Int) ((pre.length:Nat):Int)=some (.inl (((pre++[k]).length:Nat):Int)):=by
    simp only[uG,xq,aQ,ay]
    rw[aj (by omega),bP]
    simp only[Option.bind_some,a9,bp,bh]
    refine (congrArg (fun o=>Option.bind o _) (AJ k)).trans ?_
    simp only[Option.bind_some,V.aT,V.er]
    rw[hk,cond_false,wrap64 (by omega) (by omega)]
    simp
   rw[bO bL]
   refine ih (pre++[k]) (by rw[aY];simp) fun x hx=> ?_
   rcases ej.1 hx with hx|hx
   ·exact hp x hx
   ·rw[eb.1 hx];exact hk
theorem R0 {ks:List Ex} (hlen:ks.length≤1000000):
  (ks.any univ=false∧CC Ad [.list aa (ks.map enc)]=some [.int .i64 (-1)])∨
  (∃i:Nat,i<ks.length∧univ (ks.getD i aW)=true∧(∀k∈ks.take i,univ k=false)∧CC Ad [.list aa (ks.map enc)]=some [.int .i64 (i:Int)]):=by
 rcases adb hlen ks [] rfl (by simp) with ⟨h1,t,U⟩|⟨i,h1,U,h3,h4⟩
 ·refine .inl ⟨h1,RU ?_⟩
  unfold KN
  refine (congrArg (fun o=>Option.bind o _) U).trans ?_
  rfl
 ·refine .inr ⟨i,h1,U,h3,RU ?_⟩
  unfold KN
  refine (congrArg (fun o=>Option.bind o _) h4).trans ?_
  rfl
theorem ade {ks:List Ex} (hlen:ks.length≤1000000):CC IH [.list aa (ks.map enc)]=some [.bool (ks.any univ)]:=by
 refine ac0 ?_
 unfold RV
 rcases R0 hlen with ⟨h1,U⟩|⟨i,h1,U,h3,h4⟩
 ·refine (congrArg (fun o=>Option.bind o _) U).trans ?_
  rw[h1];rfl
 ·refine (congrArg (fun o=>Option.bind o _) h4).trans ?_
  rw[nK.2 ⟨_,by rw[show ks.getD i aW=ks[i] by simp[h1]];exact List.getElem_mem h1,U⟩]
  simp
theorem adf {ks:List Ex} (hn:ks.length≤1000000): ∀(d j i:Nat) (ss:List Ex),j+d=ks.length→i≤j→ss.length=ks.length→ss.take i=(ks.take j).filter (fun k=> !(univ k))→ss.drop j=ks.drop j→
  ∃t eP,Loop (uH CC) ((i:Int),(j:Int),ss.map enc)=some (((ks.filter (fun k=> !(univ k))).length:Int),(ks.length:Int),t,List.map enc eP)∧eP.take (ks.filter (fun k=> !(univ k))).length=ks.filter (fun k=> !(univ k))∧eP.length=ks.length:=by
 intro d
 induction d with
 | zero=>
  intro j i ss hj hi hl ht hd
  obtain rfl:j=ks.length:=by omega
  rw[pN] at ht
  have gF:i=(ks.filter (fun k=> !(univ k))).length:=by rw[←ht,eL];omega
  refine ⟨false,ss,aX ?_,by rw[←gF];exact ht,hl⟩
  simp only[uH,xr,un,aQ,ay]
  rw[ai (by omega),cK (by omega),gF]
 | succ d ih=>
  intro j i ss hj hi hl ht hd
  have b7:j<ks.length:=by omega
  have hg:=AK hl hd b7
  have iA:ss.drop (j+1)=ks.drop (j+1):=by rw[←pQ,←pQ,hd]
  have hx:(ss.map enc)[j]? =some (ks.getD j aW).enc:=by rw[oD (by omega),hg]
  have t1:((j:Nat):Int)<(ss.length:Int):=by omega
  have t2:(0:Int)≤((j:Nat):Int):=by omega
  have t3:((i:Nat):Int)<(ss.length:Int):=by omega
  have t4:(0:Int)≤((i:Nat):Int):=by omega
  have bP: ∃y,(ss.map enc)[i]? =some y:=⟨_,oD (by omega)⟩
  obtain ⟨y,hy⟩:=bP
  cases hk:univ (ks.getD j aW) with
  | true=>
   have bL:uH CC ((i:Int),(j:Int),ss.map enc)=some (.inl ((i:Int),((j+1:Nat):Int),ss.map enc)):=by
    simp only[uH,xr,un,aQ,ay,cO,t1,t2,cE,Int.toNat_natCast,hx,Option.bind_some,a9,bp,bh]
    refine (congrArg (fun o=>Option.bind o _) (AJ (ks.getD j aW))).trans ?_
    simp only[Option.bind_some,V.aT,V.er]
    rw[hk,pP,cond_false,wrap64 (by omega) (by omega)]
    rfl
   rw[bO bL]
   refine ih (j+1) i ss (by omega) (by omega) hl ?_ iA
   rw[kO b7,mF,ht,oR,hk]
   simp
  | false=>
   have bL:uH CC ((i:Int),(j:Int),ss.map enc)=some (.inl (((i+1:Nat):Int),((j+1:Nat):Int),(ss.set i (ks.getD j aW)).map enc)):=by
    simp only[uH,xr,un,aQ,ay,cO,t1,t2,t3,t4,cE,Int.toNat_natCast,hx,hy,Option.bind_some,a9,bp,bh]
    refine (congrArg (fun o=>Option.bind o _) (AJ (ks.getD j aW))).trans ?_
    simp only[Option.bind_some,V.aT,V.er]
    rw[hk,sV,cond_true,wrap64 (by omega) (by omega),wrap64 (by omega) (by omega),←dD,yu]
    rfl
   rw[bO bL]
   refine ih (j+1) (i+1) (ss.set i (ks.getD j aW)) (by omega) (by omega) (by simpa using hl) ?_ ?_
   ·rw[kO (by rw[nH];omega),B7 (bW i),ht,kO b7,mF,oR,hk]
    simp[show i<ss.length by omega]
   ·rw[B8 (by omega),iA]
theorem adg {ks:List Ex} (hn:ks.length≤1000000): ∃b,CC wJ [.list aa (ks.map enc)]=some [.bool b,.list aa ((ks.filter (fun k=> !(univ k))).map enc)]:=by
 rcases R0 hn with ⟨h1,U⟩|⟨i,h1,U,h3,h4⟩
 ·refine ⟨true,RY ?_⟩
  unfold KO
  refine (congrArg (fun o=>Option.bind o _) U).trans ?_
  rw[nM.2 fun k hk=>show (!(univ k))=true by rw[any_false (p:=univ) (by rw[h1];simp) k hk];rfl]
  rfl
 ·have hf:(ks.take (i+1)).filter (fun k=> !(univ k))=ks.take i:=by
   rw[kO h1,mF,oR,U,nM.2 fun k hk=>show (!(univ k))=true by rw[h3 k hk];rfl]
   simp
  obtain ⟨t,eP,e1,e2,e3⟩:=adf hn (ks.length-(i+1)) (i+1) i ks (by omega) (by omega) rfl hf.symm rfl
  refine ⟨false,RY ?_⟩
  unfold KO
  refine (congrArg (fun o=>Option.bind o _) h4).trans ?_
  simp only[Option.bind_some,V.aT,V.toInt_int,c9]
  rw[ai (by omega),wrap64 (by omega) (by omega)]
  refine (congrArg (fun o=>Option.bind o _) e1).trans ?_
  have hm:(ks.filter (fun k=> !(univ k))).length≤eP.length:=by rw[e3];exact sW _ _
  have t1:((((ks.filter (fun k=> !(univ k))).length:Nat):Int)≤((eP.map enc).length:Int)):=by rw[aQ];omega
  simp only[Option.bind_some,un,cO,ay,Int.toNat_natCast]
  rw[aj (by omega),aj t1,aj (by omega),aj (by simp only[bR,eL,sS,oO];omega),Fh _ _ _ hm,e2]
end Go.AM
set_option maxRecDepth 100000
namespace Go.AM
open Go.Proofs Go.Sort
section
variable {α:Type} {enc:α→V}
def pB (enc:α→V) (d:Array α):List V:=d.toList.map enc
theorem fG (d:Array α):(pB enc d).length=d.size:=by simp[pB]
theorem fH (d:Array α) (i:Nat) (x:α):(pB enc d).set i (enc x)=pB enc (d.setIfInBounds i x):=by
 unfold pB;rw[Array.toList_setIfInBounds,yu]
variable [Inhabited α]
theorem fI {d:Array α} {i:Nat} (h:i<d.size):(pB enc d)[i]? =some (enc d[i]!):=by
 unfold pB;rw[gf,rj,kj h,getElem!_pos d i h];rfl
theorem ic {d:Array α} {i j:Nat} {x:α} (h:i<d.size):(pB enc (d.setIfInBounds j x))[i]? =some (enc (d.setIfInBounds j x)[i]!):=fI (by rw[gy];exact h)
theorem fJ (a b:Nat):(a:Int)+(b:Int)=((a+b:Nat):Int):=(Int.natCast_add a b).symm
theorem dB (a:Nat):(a:Int)+1=((a+1:Nat):Int):=rfl
theorem uI (a:Nat):((a+1:Nat):Int)-1=(a:Int):=by omega
theorem AL (a:Nat):(a:Int)*2=((a*2:Nat):Int):=by omega
theorem mn {a b:Nat} (h:b≤a):(a:Int)-(b:Int)=((a-b:Nat):Int):=by omega
theorem ka {a:Nat} (h:1≤a):(a:Int)-1=((a-1:Nat):Int):=by omega
theorem divC (a b:Nat):Int.tdiv (a:Int) (b:Int)=((a/b:Nat):Int):=by rw[Int.tdiv_eq_ediv_of_nonneg (by omega)];rfl
theorem np {p:Prop} [Decidable p] (h:p):decide p=true:=eT h
theorem sA {p:Prop} [Decidable p] (h: ¬p):decide p=false:=cK h
variable {lt:α→α→Bool}
theorem R3 (a j:Nat) (d:Array α):insInner lt a (j+1) d=if j+1>a&&lt d[j+1]! d[j]! then insInner lt a j (swp d (j+1) j) else d:=rfl
theorem KP {a:Nat}: ∀(j:Nat) (d:Array α),(insInner lt a j d).size=d.size
 | 0,d=>rfl
 | j+1,d=>by
  rw[R3]
  split
  ·rw[KP j,size_swp]
  ·rfl
theorem AN (hi first:Nat): ∀(n root:Nat) (d:Array α),hi-root≤n→(siftDown lt hi first root d).size=d.size:=by
 intro n
 induction n with
 | zero=>intro root d h;rw[siftDown,ra (by omega)]
 | succ n ih=>
  intro root d h
  rw[siftDown]
  split
  ·rfl
  ·split
   ·split
    ·rfl
    ·split
     ·rw[ih _ _ (by omega),size_swp]
     ·rfl
   ·split
    ·rfl
    ·rw[ih _ _ (by omega),size_swp]
theorem KQ (hi first:Nat): ∀(k:Nat) (d:Array α),(heapBuild lt hi first k d).size=d.size
 | 0,d=>rfl
 | k+1,d=>by rw[heapBuild,KQ,AN _ _ _ _ _ (bW _)]
end
end Go.AM
set_option maxRecDepth 100000
namespace Go.AM.SX
open Go.Proofs Ex
structure XE where
 e:Ex
 ok:e.Ok
instance:Inhabited XE:=⟨⟨.node 0 0 [],.node (by omega) (by omega) (by simp) (by simp)⟩⟩
namespace XE
def enc (x:XE):V:=x.e.enc
theorem a9 (x:XE):(x.enc.cell 0).toInt=x.e.op:=Go.AM.a9 x.e
theorem bp (x:XE):(x.enc.cell 1).toInt=x.e.ch:=Go.AM.bp x.e
theorem bh (x:XE):(x.enc.cell 2).toList=x.e.kids.map Ex.enc:=Go.AM.bh x.e
theorem re (x:XE):V.agg [.int .i64 x.e.op,.int .i64 x.e.ch,.list aa (x.e.kids.map Ex.enc)]=x.enc:=(Ex.dD x.e).symm
end XE
def bQ (a b:XE):Int:=cmp a.e b.e
theorem gq (a b:XE):CC bf [.int .i64 a.e.op,.int .i64 a.e.ch,.list aa (a.e.kids.map Ex.enc),.int .i64 b.e.op,.int .i64 b.e.ch,.list aa (b.e.kids.map Ex.enc)]=some [.int .i64 (bQ a b)]:=
 QU a.e a.ok b.e b.ok
def XE.lt (a b:XE):Prop:=bQ a b<0
theorem XE.lt_irrefl (a:XE): ¬a.lt a:=by unfold XE.lt bQ;rw[Ap];omega
theorem adh {a b c:Ex} (h1:cmp a b<0) (U:cmp b c<0):cmp a c<0:=by
 have h3:=Ke a b c (by omega) (by omega)
 refine Decidable.byContradiction fun h=> ?_
 have h0:cmp a c=0:=by omega
 have:=uw a c h0
 subst this
 have:=si a b
 omega
theorem XE.lt_trans {a b c:XE} (h1:a.lt b) (U:b.lt c):a.lt c:=adh h1 U
theorem XE.adi {a b c:XE} (h1: ¬a.lt b) (U: ¬b.lt c): ¬a.lt c:=by
 unfold XE.lt bQ at*
 have a1:=si a.e b.e
 have a2:=si b.e c.e
 have a3:=si a.e c.e
 have:=Ke c.e b.e a.e (by omega) (by omega)
 omega
end Go.AM.SX
set_option maxRecDepth 100000
namespace Go.AM
open Go.Proofs
noncomputable abbrev Fi:Code:=cL Try.prog (ax.aZ 111)
noncomputable def xt (C:ag) (a b' i j:Int) (ak:List V) {β:Type} (kn:(Int × (List V))→Option β) (kr:(Int × Bool × (List V))→Option β):Option β:=
 bif decide ((j:Int)>a) then
  bif (decide (0≤j))&&(decide (j<(ak.length:Int))) then
  (ak[(j:Int).toNat]?).bind fun x1=>
  bif (decide (0≤(IntKind.wrap .i64 (j-1))))&&(decide ((IntKind.wrap .i64 (j-1))<(ak.length:Int))) then
   (ak[(IntKind.wrap .i64 (j-1):Int).toNat]?).bind fun x2=>
   (C bf [.int .i64 ((x1.cell 0).toInt),.int .i64 ((x1.cell 1).toInt),.list aa ((x1.cell 2).toList),.int .i64 ((x2.cell 0).toInt),.int .i64 ((x2.cell 1).toInt),.list aa ((x2.cell 2).toList)]).bind fun r3=>
   bif decide ((((V.nth r3 0).toInt):Int)<0) then
   bif (decide (0≤(IntKind.wrap .i64 (j-1))))&&(decide ((IntKind.wrap .i64 (j-1))<(ak.length:Int))) then
    (ak[(IntKind.wrap .i64 (j-1):Int).toNat]?).bind fun x4=>
    bif (decide (0≤j))&&(decide (j<(ak.length:Int))) then
    (ak[(j:Int).toNat]?).bind fun x5=>
    bif (decide (0≤j))&&(decide (j<(ak.length:Int))) then
     (ak[(j:Int).toNat]?).bind fun x6=>
     bif (decide (0≤(IntKind.wrap .i64 (j-1))))&&(decide ((IntKind.wrap .i64 (j-1))<((ak.set ((j:Int).toNat) (.agg [.int .i64 ((x4.cell 0).toInt),.int .i64 ((x4.cell 1).toInt),.list aa ((x4.cell 2).toList)])).length:Int))) then
     ((ak.set ((j:Int).toNat) (.agg [.int .i64 ((x4.cell 0).toInt),.int .i64 ((x4.cell 1).toInt),.list aa ((x4.cell 2).toList)]))[(IntKind.wrap .i64 (j-1):Int).toNat]?).bind fun x7=>
     kn (IntKind.wrap .i64 (j-1),(ak.set ((j:Int).toNat) (.agg [.int .i64 ((x4.cell 0).toInt),.int .i64 ((x4.cell 1).toInt),.list aa ((x4.cell 2).toList)])).set ((IntKind.wrap .i64 (j-1):Int).toNat) (.agg [.int .i64 ((x5.cell 0).toInt),.int .i64 ((x5.cell 1).toInt),.list aa ((x5.cell 2).toList)]))
     else none
    else none
    else none
   else none
   else
   kr (j,decide ((((V.nth r3 0).toInt):Int)<0),ak)
  else none
  else none
 else
  kr (j,false,ak)
noncomputable def xu (C:ag) (a b' i:Int):(Int × (List V))→Option ((Int × (List V)) ⊕ (Int × Bool × (List V))):=un fun j ak=>xt C a b' i j ak (fun y=>some (.inl y)) (fun r=>some (.inr r))
noncomputable def AO (C:ag) (a b' i:Int) (ak:List V) {β:Type} (kn:(Int × (List V))→Option β) (kr:(Int × Bool × (List V))→Option β):Option β:=
 bif decide ((i:Int)<b') then
  (Loop (xu C a b' i) (i,ak)).bind (un fun (j_8:Int)=>un fun (se:Bool) (oE:List V)=>
   kn (IntKind.wrap .i64 (i+1),oE))
 else
  kr (i,decide ((i:Int)<b'),ak)
noncomputable def Fj (C:ag) (a b':Int):(Int × (List V))→Option ((Int × (List V)) ⊕ (Int × Bool × (List V))):=un fun i ak=>AO C a b' i ak (fun y=>some (.inl y)) (fun r=>some (.inr r))
noncomputable def R4 (C:ag):cD:=fun β n ds k=>
 bif Nat.beq n 65 then ca Jz [false,false,false,true,true] [[1,2,3,0,0,0]] (@xt C) ds k else
 bif Nat.beq n 17 then ca JA [false,false,true,true] [[1,2,0,0,0]] (@AO C) ds k else
 none
abbrev R5 (C:ag) (b:cA):Prop:=cB Try.prog ax C (R4 C) 111 (cQ Try.prog (ax.aZ 111)) (ax.sin 111).ba.length b
theorem adj (C:ag):R5 C (.loop (av [1,0,0,1,0,0,1,0,0] Fi)):=
 cg Jz [false,false,false,true,true] [[1,2,3,0,0,0]] (@xt C) (by kernel_rfl) (bm (bs:=[]) (by kernel_rfl) aw) (fun ds=>by kernel_rfl) (fun i x=>by kernel_rfl) (fun i x β k=>by kernel_rfl) (fun β ds k=>by kernel_rfl)
theorem adk (C:ag):R5 C (.loop (av [1,0,0] Fi)):=
 cg JA [false,false,true,true] [[1,2,0,0,0]] (@AO C) (by kernel_rfl) (bm (bs:=[.loop (av [1,0,0,1,0,0,1,0,0] Fi)]) (by kernel_rfl) (bD (adj C) aw)) (fun ds=>by kernel_rfl) (fun i x=>by kernel_rfl) (fun i x β k=>by kernel_rfl) (fun β ds k=>by kernel_rfl)
noncomputable def R6 (C:ag) (a b':Int) (ak:List V):Option (List V):=
 (Loop (Fj C a b') (IntKind.wrap .i64 (a+1),ak)).bind (un fun (aiB:Int)=>un fun (J7:Bool) (KR:List V)=>
  some [.list aa KR])
theorem adl {a b':Int} {ak:List V} {r:Option (List V)} (h:R6 CC a b' ak=r):CC z8 [.int .i64 a,.int .i64 b',.list aa ak]=r:=
 bn (key:=111) (L:=R4 CC) (bs:=[.loop (av [1,0,0] Fi)]) (by kernel_rfl) (bD (adk CC) aw) (bc (by kernel_rfl) h)
noncomputable abbrev xw:Code:=cL Try.prog (ax.aZ 121)
noncomputable def uJ (C:ag) (hi first root child:Int) (t40:Bool) (ak:List V) {β:Type} (kr:(Int)→Option β):Option β:=
 bif t40 then
  kr (IntKind.wrap .i64 (child+1))
 else
  kr child
noncomputable def sB (C:ag) (hi first root:Int) (ak:List V) {β:Type} (kn:(Int × (List V))→Option β) (kr:((Int × Int × Bool × (List V)) ⊕ (Int × Int × Bool × (List V)))→Option β):Option β:=
 bif decide (((IntKind.wrap .i64 ((IntKind.wrap .i64 (root*2))+1)):Int)≥hi) then
  kr (.inl (root,IntKind.wrap .i64 ((IntKind.wrap .i64 (root*2))+1),decide (((IntKind.wrap .i64 ((IntKind.wrap .i64 (root*2))+1)):Int)≥hi),ak))
 else
  bif decide (((IntKind.wrap .i64 ((IntKind.wrap .i64 ((IntKind.wrap .i64 (root*2))+1))+1)):Int)<hi) then
  bif (decide (0≤(IntKind.wrap .i64 (first+(IntKind.wrap .i64 ((IntKind.wrap .i64 (root*2))+1))))))&&(decide ((IntKind.wrap .i64 (first+(IntKind.wrap .i64 ((IntKind.wrap .i64 (root*2))+1))))<(ak.length:Int))) then
   (ak[(IntKind.wrap .i64 (first+(IntKind.wrap .i64 ((IntKind.wrap .i64 (root*2))+1))):Int).toNat]?).bind fun x1=>
   bif (decide (0≤(IntKind.wrap .i64 ((IntKind.wrap .i64 (first+(IntKind.wrap .i64 ((IntKind.wrap .i64 (root*2))+1))))+1))))&&(decide ((IntKind.wrap .i64 ((IntKind.wrap .i64 (first+(IntKind.wrap .i64 ((IntKind.wrap .i64 (root*2))+1))))+1))<(ak.length:Int))) then
   (ak[(IntKind.wrap .i64 ((IntKind.wrap .i64 (first+(IntKind.wrap .i64 ((IntKind.wrap .i64 (root*2))+1))))+1):Int).toNat]?).bind fun x2=>
   (C bf [.int .i64 ((x1.cell 0).toInt),.int .i64 ((x1.cell 1).toInt),.list aa ((x1.cell 2).toList),.int .i64 ((x2.cell 0).toInt),.int .i64 ((x2.cell 1).toInt),.list aa ((x2.cell 2).toList)]).bind fun r3=>
   uJ C hi first root (IntKind.wrap .i64 ((IntKind.wrap .i64 (root*2))+1)) (decide ((((V.nth r3 0).toInt):Int)<0)) ak (fun (nq:Int)=>
    bif (decide (0≤(IntKind.wrap .i64 (first+root))))&&(decide ((IntKind.wrap .i64 (first+root))<(ak.length:Int))) then
     (ak[(IntKind.wrap .i64 (first+root):Int).toNat]?).bind fun x5=>
     bif (decide (0≤(IntKind.wrap .i64 (first+nq))))&&(decide ((IntKind.wrap .i64 (first+nq))<(ak.length:Int))) then
     (ak[(IntKind.wrap .i64 (first+nq):Int).toNat]?).bind fun x6=>
     (C bf [.int .i64 ((x5.cell 0).toInt),.int .i64 ((x5.cell 1).toInt),.list aa ((x5.cell 2).toList),.int .i64 ((x6.cell 0).toInt),.int .i64 ((x6.cell 1).toInt),.list aa ((x6.cell 2).toList)]).bind fun r7=>
     bif !(decide ((((V.nth r7 0).toInt):Int)<0)) then
      kr (.inr (root,nq,!(decide ((((V.nth r7 0).toInt):Int)<0)),ak))
     else
      bif (decide (0≤(IntKind.wrap .i64 (first+nq))))&&(decide ((IntKind.wrap .i64 (first+nq))<(ak.length:Int))) then
      (ak[(IntKind.wrap .i64 (first+nq):Int).toNat]?).bind fun x8=>
      bif (decide (0≤(IntKind.wrap .i64 (first+root))))&&(decide ((IntKind.wrap .i64 (first+root))<(ak.length:Int))) then
       (ak[(IntKind.wrap .i64 (first+root):Int).toNat]?).bind fun x9=>
       bif (decide (0≤(IntKind.wrap .i64 (first+root))))&&(decide ((IntKind.wrap .i64 (first+root))<(ak.length:Int))) then
       (ak[(IntKind.wrap .i64 (first+root):Int).toNat]?).bind fun lC=>
       bif (decide (0≤(IntKind.wrap .i64 (first+nq))))&&(decide ((IntKind.wrap .i64 (first+nq))<((ak.set ((IntKind.wrap .i64 (first+root):Int).toNat) (.agg [.int .i64 ((x8.cell 0).toInt),.int .i64 ((x8.cell 1).toInt),.list aa ((x8.cell 2).toList)])).length:Int))) then
        ((ak.set ((IntKind.wrap .i64 (first+root):Int).toNat) (.agg [.int .i64 ((x8.cell 0).toInt),.int .i64 ((x8.cell 1).toInt),.list aa ((x8.cell 2).toList)]))[(IntKind.wrap .i64 (first+nq):Int).toNat]?).bind fun ez=>
        kn (nq,(ak.set ((IntKind.wrap .i64 (first+root):Int).toNat) (.agg [.int .i64 ((x8.cell 0).toInt),.int .i64 ((x8.cell 1).toInt),.list aa ((x8.cell 2).toList)])).set ((IntKind.wrap .i64 (first+nq):Int).toNat) (.agg [.int .i64 ((x9.cell 0).toInt),.int .i64 ((x9.cell 1).toInt),.list aa ((x9.cell 2).toList)]))
       else none
       else none
      else none
      else none
     else none
    else none)
   else none
  else none
  else
  uJ C hi first root (IntKind.wrap .i64 ((IntKind.wrap .i64 (root*2))+1)) false ak (fun (nr:Int)=>
   bif (decide (0≤(IntKind.wrap .i64 (first+root))))&&(decide ((IntKind.wrap .i64 (first+root))<(ak.length:Int))) then
    (ak[(IntKind.wrap .i64 (first+root):Int).toNat]?).bind fun iM=>
    bif (decide (0≤(IntKind.wrap .i64 (first+nr))))&&(decide ((IntKind.wrap .i64 (first+nr))<(ak.length:Int))) then
    (ak[(IntKind.wrap .i64 (first+nr):Int).toNat]?).bind fun nt=>
    (C bf [.int .i64 ((iM.cell 0).toInt),.int .i64 ((iM.cell 1).toInt),.list aa ((iM.cell 2).toList),.int .i64 ((nt.cell 0).toInt),.int .i64 ((nt.cell 1).toInt),.list aa ((nt.cell 2).toList)]).bind fun nu=>
    bif !(decide ((((V.nth nu 0).toInt):Int)<0)) then
     kr (.inr (root,nr,!(decide ((((V.nth nu 0).toInt):Int)<0)),ak))
    else
     bif (decide (0≤(IntKind.wrap .i64 (first+nr))))&&(decide ((IntKind.wrap .i64 (first+nr))<(ak.length:Int))) then
     (ak[(IntKind.wrap .i64 (first+nr):Int).toNat]?).bind fun e7=>
     bif (decide (0≤(IntKind.wrap .i64 (first+root))))&&(decide ((IntKind.wrap .i64 (first+root))<(ak.length:Int))) then
      (ak[(IntKind.wrap .i64 (first+root):Int).toNat]?).bind fun qM=>
      bif (decide (0≤(IntKind.wrap .i64 (first+root))))&&(decide ((IntKind.wrap .i64 (first+root))<(ak.length:Int))) then
      (ak[(IntKind.wrap .i64 (first+root):Int).toNat]?).bind fun lA=>
      bif (decide (0≤(IntKind.wrap .i64 (first+nr))))&&(decide ((IntKind.wrap .i64 (first+nr))<((ak.set ((IntKind.wrap .i64 (first+root):Int).toNat) (.agg [.int .i64 ((e7.cell 0).toInt),.int .i64 ((e7.cell 1).toInt),.list aa ((e7.cell 2).toList)])).length:Int))) then
       ((ak.set ((IntKind.wrap .i64 (first+root):Int).toNat) (.agg [.int .i64 ((e7.cell 0).toInt),.int .i64 ((e7.cell 1).toInt),.list aa ((e7.cell 2).toList)]))[(IntKind.wrap .i64 (first+nr):Int).toNat]?).bind fun pC=>
       kn (nr,(ak.set ((IntKind.wrap .i64 (first+root):Int).toNat) (.agg [.int .i64 ((e7.cell 0).toInt),.int .i64 ((e7.cell 1).toInt),.list aa ((e7.cell 2).toList)])).set ((IntKind.wrap .i64 (first+nr):Int).toNat) (.agg [.int .i64 ((qM.cell 0).toInt),.int .i64 ((qM.cell 1).toInt),.list aa ((qM.cell 2).toList)]))
      else none
      else none
     else none
     else none
    else none
   else none)
noncomputable def oF (C:ag) (hi first:Int):(Int × (List V))→Option ((Int × (List V)) ⊕ ((Int × Int × Bool × (List V)) ⊕ (Int × Int × Bool × (List V)))):=un fun root ak=>sB C hi first root ak (fun y=>some (.inl y)) (fun r=>some (.inr r))
noncomputable def R7 (C:ag):cD:=fun β n ds k=>
 bif Nat.beq n 655 then iJ JX [[1,2,3,0,6]] (@uJ C) ds k else
 bif Nat.beq n 17 then ca JY [false,false,true,true] [[1,2,0,0,0,0],[1,2,0,0,0,0]] (@sB C) ds k else
 none
abbrev R8 (C:ag) (b:cA):Prop:=cB Try.prog ax C (R7 C) 121 (cQ Try.prog (ax.aZ 121)) (ax.sin 121).ba.length b
theorem adm (C:ag):R8 C (.cond 40 (av [1,0,0,0,1,1,0,1,0] xw) (av [1,0,0,0,1,1,0,1,1] xw)):=
 jb JX [[1,2,3,0,6]] (@uJ C) (by kernel_rfl) (bm (bs:=[]) (by kernel_rfl) aw) (bm (bs:=[]) (by kernel_rfl) aw) (fun ds=>by kernel_rfl) (fun i β k=>by kernel_rfl) (fun β ds k=>by kernel_rfl)
theorem adn (C:ag):R8 C (.loop (av [1,0,0] xw)):=
 cg JY [false,false,true,true] [[1,2,0,0,0,0],[1,2,0,0,0,0]] (@sB C) (by kernel_rfl) (bm (bs:=[.cond 40 (av [1,0,0,0,1,1,0,1,0] xw) (av [1,0,0,0,1,1,0,1,1] xw)]) (by kernel_rfl) (bD (adm C) aw)) (fun ds=>by kernel_rfl) (fun i x=>by kernel_rfl) (fun i x β k=>by kernel_rfl) (fun β ds k=>by kernel_rfl)
noncomputable def R9 (C:ag) (lo hi first:Int) (ak:List V):Option (List V):=
 (Loop (oF C hi first) (lo,ak)).bind (b9 (un fun (aiC:Int)=>un fun (aiD:Int)=>un fun (ET:Bool) (ado:List V)=>
  some [.list aa ado]) (un fun (aiE:Int)=>un fun (aiF:Int)=>un fun (Qr:Bool) (qN:List V)=>
  some [.list aa qN]))
theorem adp {lo hi first:Int} {ak:List V} {r:Option (List V)} (h:R9 CC lo hi first ak=r):CC Ab [.int .i64 lo,.int .i64 hi,.int .i64 first,.list aa ak]=r:=
 bn (key:=121) (L:=R7 CC) (bs:=[.loop (av [1,0,0] xw)]) (by kernel_rfl) (bD (adn CC) aw) (bc (by kernel_rfl) h)
noncomputable abbrev Fk:Code:=cL Try.prog (ax.aZ 112)
noncomputable def AP (C:ag) (first lo hi i:Int) (ak:List V) {β:Type} (kn:(Int × (List V))→Option β) (kr:(Int × Bool × (List V))→Option β):Option β:=
 bif decide ((i:Int)≥0) then
  (C Ab [.int .i64 i,.int .i64 hi,.int .i64 first,.list aa ak]).bind fun r1=>
  kn (IntKind.wrap .i64 (i-1),(V.nth r1 0).toList)
 else
  kr (i,decide ((i:Int)≥0),ak)
noncomputable def Fl (C:ag) (first lo hi:Int):(Int × (List V))→Option ((Int × (List V)) ⊕ (Int × Bool × (List V))):=un fun i ak=>AP C first lo hi i ak (fun y=>some (.inl y)) (fun r=>some (.inr r))
noncomputable def AQ (C:ag) (first lo i:Int) (ak:List V) {β:Type} (kn:(Int × (List V))→Option β) (kr:(Int × Bool × (List V))→Option β):Option β:=
 bif decide ((i:Int)≥0) then
  bif (decide (0≤(IntKind.wrap .i64 (first+i))))&&(decide ((IntKind.wrap .i64 (first+i))<(ak.length:Int))) then
  (ak[(IntKind.wrap .i64 (first+i):Int).toNat]?).bind fun x5=>
  bif (decide (0≤first))&&(decide (first<(ak.length:Int))) then
   (ak[(first:Int).toNat]?).bind fun x6=>
   bif (decide (0≤first))&&(decide (first<(ak.length:Int))) then
   (ak[(first:Int).toNat]?).bind fun x7=>
   bif (decide (0≤(IntKind.wrap .i64 (first+i))))&&(decide ((IntKind.wrap .i64 (first+i))<((ak.set ((first:Int).toNat) (.agg [.int .i64 ((x5.cell 0).toInt),.int .i64 ((x5.cell 1).toInt),.list aa ((x5.cell 2).toList)])).length:Int))) then
    ((ak.set ((first:Int).toNat) (.agg [.int .i64 ((x5.cell 0).toInt),.int .i64 ((x5.cell 1).toInt),.list aa ((x5.cell 2).toList)]))[(IntKind.wrap .i64 (first+i):Int).toNat]?).bind fun x8=>
    (C Ab [.int .i64 lo,.int .i64 i,.int .i64 first,.list aa ((ak.set ((first:Int).toNat) (.agg [.int .i64 ((x5.cell 0).toInt),.int .i64 ((x5.cell 1).toInt),.list aa ((x5.cell 2).toList)])).set ((IntKind.wrap .i64 (first+i):Int).toNat) (.agg [.int .i64 ((x6.cell 0).toInt),.int .i64 ((x6.cell 1).toInt),.list aa ((x6.cell 2).toList)]))]).bind fun r9=>
    kn (IntKind.wrap .i64 (i-1),(V.nth r9 0).toList)
   else none
   else none
  else none
  else none
 else
  kr (i,decide ((i:Int)≥0),ak)
noncomputable def Fm (C:ag) (first lo:Int):(Int × (List V))→Option ((Int × (List V)) ⊕ (Int × Bool × (List V))):=un fun i ak=>AQ C first lo i ak (fun y=>some (.inl y)) (fun r=>some (.inr r))
noncomputable def Sa (C:ag):cD:=fun β n ds k=>
 bif Nat.beq n 65 then ca JB [false,false,false,true,true] [[1,2,3,0,0,0]] (@AP C) ds k else
 bif Nat.beq n 129 then ca JC [false,false,true,true] [[1,2,0,0,0]] (@AQ C) ds k else
 none
abbrev Sb (C:ag) (b:cA):Prop:=cB Try.prog ax C (Sa C) 112 (cQ Try.prog (ax.aZ 112)) (ax.sin 112).ba.length b
theorem adq (C:ag):Sb C (.loop (av [1,1,1,0,1,0,0] Fk)):=
 cg JB [false,false,false,true,true] [[1,2,3,0,0,0]] (@AP C) (by kernel_rfl) (bm (bs:=[]) (by kernel_rfl) aw) (fun ds=>by kernel_rfl) (fun i x=>by kernel_rfl) (fun i x β k=>by kernel_rfl) (fun β ds k=>by kernel_rfl)
theorem adr (C:ag):Sb C (.loop (av [1,1,1,1,1,0,0] Fk)):=
 cg JC [false,false,true,true] [[1,2,0,0,0]] (@AQ C) (by kernel_rfl) (bm (bs:=[]) (by kernel_rfl) aw) (fun ds=>by kernel_rfl) (fun i x=>by kernel_rfl) (fun i x β k=>by kernel_rfl) (fun β ds k=>by kernel_rfl)
noncomputable def Sd (C:ag) (a b':Int) (ak:List V):Option (List V):=
 (Loop (Fl C a 0 (IntKind.wrap .i64 (b'-a))) (IntKind.wrap .i64 (Int.tdiv (IntKind.wrap .i64 ((IntKind.wrap .i64 (b'-a))-1)) 2),ak)).bind (un fun (i_2:Int)=>un fun (j9:Bool) (ads:List V)=>
  (Loop (Fm C a 0) (IntKind.wrap .i64 ((IntKind.wrap .i64 (b'-a))-1),ads)).bind (un fun (aiG:Int)=>un fun (ER:Bool) (mo:List V)=>
   some [.list aa mo]))
theorem adt {a b':Int} {ak:List V} {r:Option (List V)} (h:Sd CC a b' ak=r):CC z9 [.int .i64 a,.int .i64 b',.list aa ak]=r:=
 bn (key:=112) (L:=Sa CC) (bs:=[.loop (av [1,1,1,0,1,0,0] Fk),.loop (av [1,1,1,1,1,0,0] Fk)]) (by kernel_rfl) (bD (adq CC) (bD (adr CC) aw)) (bc (by kernel_rfl) h)
noncomputable abbrev Se:Code:=cL Try.prog (ax.aZ 115)
noncomputable def xx (C:ag) (i j:Int) (ak:List V) {β:Type} (kn:(Int × Int × (List V))→Option β) (kr:(Int × Int × Bool × (List V))→Option β):Option β:=
 bif decide ((i:Int)<j) then
  bif (decide (0≤j))&&(decide (j<(ak.length:Int))) then
  (ak[(j:Int).toNat]?).bind fun x1=>
  bif (decide (0≤i))&&(decide (i<(ak.length:Int))) then
   (ak[(i:Int).toNat]?).bind fun x2=>
   bif (decide (0≤i))&&(decide (i<(ak.length:Int))) then
   (ak[(i:Int).toNat]?).bind fun x3=>
   bif (decide (0≤j))&&(decide (j<((ak.set ((i:Int).toNat) (.agg [.int .i64 ((x1.cell 0).toInt),.int .i64 ((x1.cell 1).toInt),.list aa ((x1.cell 2).toList)])).length:Int))) then
    ((ak.set ((i:Int).toNat) (.agg [.int .i64 ((x1.cell 0).toInt),.int .i64 ((x1.cell 1).toInt),.list aa ((x1.cell 2).toList)]))[(j:Int).toNat]?).bind fun x4=>
    kn (IntKind.wrap .i64 (i+1),IntKind.wrap .i64 (j-1),(ak.set ((i:Int).toNat) (.agg [.int .i64 ((x1.cell 0).toInt),.int .i64 ((x1.cell 1).toInt),.list aa ((x1.cell 2).toList)])).set ((j:Int).toNat) (.agg [.int .i64 ((x2.cell 0).toInt),.int .i64 ((x2.cell 1).toInt),.list aa ((x2.cell 2).toList)]))
   else none
   else none
  else none
  else none
 else
  kr (i,j,decide ((i:Int)<j),ak)
noncomputable def AR (C:ag):(Int × Int × (List V))→Option ((Int × Int × (List V)) ⊕ (Int × Int × Bool × (List V))):=un fun i=>un fun j ak=>xx C i j ak (fun y=>some (.inl y)) (fun r=>some (.inr r))
noncomputable def Sf (C:ag):cD:=fun β n ds k=>
 bif Nat.beq n 33 then ca JH [true,true,true] [[0,0,0,0]] (@xx C) ds k else
 none
abbrev adu (C:ag) (b:cA):Prop:=cB Try.prog ax C (Sf C) 115 (cQ Try.prog (ax.aZ 115)) (ax.sin 115).ba.length b
theorem adv (C:ag):adu C (.loop (av [1,1,0,0] Se)):=
 cg JH [true,true,true] [[0,0,0,0]] (@xx C) (by kernel_rfl) (bm (bs:=[]) (by kernel_rfl) aw) (fun ds=>by kernel_rfl) (fun i x=>by kernel_rfl) (fun i x β k=>by kernel_rfl) (fun β ds k=>by kernel_rfl)
noncomputable def Sg (C:ag) (a b':Int) (ak:List V):Option (List V):=
 (Loop (AR C) (a,IntKind.wrap .i64 (b'-1),ak)).bind (un fun (cP:Int)=>un fun (KK:Int)=>un fun (py:Bool) (adw:List V)=>
  some [.list aa adw])
theorem adx {a b':Int} {ak:List V} {r:Option (List V)} (h:Sg CC a b' ak=r):CC Eu [.int .i64 a,.int .i64 b',.list aa ak]=r:=
 bn (key:=115) (L:=Sf CC) (bs:=[.loop (av [1,1,0,0] Se)]) (by kernel_rfl) (bD (adv CC) aw) (bc (by kernel_rfl) h)
end Go.AM
set_option maxRecDepth 100000
set_option maxHeartbeats 4000000
namespace Go.AM.SX
open Go.Proofs Go.Sort
def az (a b:XE):Bool:=decide (bQ a b<0)
theorem sC (a b:XE):(az a b=true)=(bQ a b<0):=by unfold az;rw[dR]
theorem qO (a b:XE):((!az a b)=true)= ¬(bQ a b<0):=by unfold az;simp
abbrev eA (d:Array XE):List V:=pB XE.enc d
theorem ady (a j:Nat) (d:Array XE):insInner az a (j+1) d=if j+1>a then (if bQ d[j+1]! d[j]! <0 then insInner az a j (swp d (j+1) j) else d) else d:=by
 rw[R3]
 by_cases h1:j+1>a
 ·rw[aj h1];simp only[h1,rf,mD,sC]
 ·rw[ai h1,ai (by simp[h1])]
theorem KS (hi first root:Nat) (d:Array XE):siftDown az hi first root d=
  if 2*root+1≥hi then d else
   if 2*root+2<hi then
    (if bQ d[first+(2*root+1)]! d[first+(2*root+2)]! <0 then
     (if bQ d[first+root]! d[first+(2*root+2)]! <0 then siftDown az hi first (2*root+2) (swp d (first+root) (first+(2*root+2))) else d)
    else (if bQ d[first+root]! d[first+(2*root+1)]! <0 then siftDown az hi first (2*root+1) (swp d (first+root) (first+(2*root+1))) else d))
   else (if bQ d[first+root]! d[first+(2*root+1)]! <0 then siftDown az hi first (2*root+1) (swp d (first+root) (first+(2*root+1))) else d):=by
 rw[siftDown]
 by_cases h1:2*root+1≥hi
 ·rw[ra h1,aj h1]
 rw[dif_neg h1,ai h1]
 by_cases U:2*root+2<hi
 ·rw[aj U]
  by_cases h3:bQ d[first+(2*root+1)]! d[first+(2*root+2)]! <0
  ·rw[aj h3,aj (by simp only[aK,dR,sC];exact ⟨U,h3⟩)]
   simp only[qO]
   by_cases h4:bQ d[first+root]! d[first+(2*root+2)]! <0
   ·rw[ai (pR h4),ra U,aj h4]
   ·rw[aj h4,ai h4]
  ·rw[ai h3,ai (by simp only[aK,dR,sC];exact fun h=>h3 h.2)]
   simp only[qO]
   by_cases h4:bQ d[first+root]! d[first+(2*root+1)]! <0
   ·rw[ai (pR h4),aj h4]
   ·rw[aj h4,ai h4]
 ·rw[ai U,ai (by simp only[aK,dR,sC];exact fun h=>U h.1)]
  simp only[qO]
  by_cases h4:bQ d[first+root]! d[first+(2*root+1)]! <0
  ·rw[ai (pR h4),aj h4]
  ·rw[aj h4,ai h4]
theorem Sh {a b i:Nat}: ∀(j:Nat) (d:Array XE),j<d.size→d.size<1152921504606846976→
  ∃j' t,Loop (xu CC a b i) ((j:Int),eA d)=some (j',t,eA (insInner az a j d))
 | 0,d,hj,hs=>⟨(0:Nat),false,aX (by
   simp (disch:=omega) only[xu,xt,un,ay,ai]
   rfl)⟩
 | j+1,d,hj,hs=>by
  obtain ⟨j',t,ih⟩:=Sh (a:=a) (b:=b) (i:=i) j (swp d (j+1) j) (by rw[size_swp];omega) (by rw[size_swp];omega)
  rw[ady]
  by_cases h1:j+1>a
  ·rw[aj h1]
   have e:xu CC a b i (((j+1:Nat):Int),eA d)=if bQ d[j+1]! d[j]! <0 then some (.inl ((j:Int),eA (swp d (j+1) j))) else some (.inr (((j+1:Nat):Int),decide (bQ d[j+1]! d[j]! <0),eA d)):=by
    simp (disch:=omega) only[xu,xt,un,ay,cO,gJ,aj,ai,wrap64,dB,fJ,Int.toNat_natCast,Option.bind_some,fG,fI,XE.a9,XE.bp,XE.bh,XE.re,fH,ic,gy,gq,V.aT,V.toInt_int,cond_true,cond_false,uI]
    rfl
   by_cases U:bQ d[j+1]! d[j]! <0
   ·rw[aj U] at e⊢
    exact ⟨j',t,(bO e).trans ih⟩
   ·rw[ai U] at e⊢
    exact ⟨_,_,aX e⟩
  ·rw[ai h1]
   exact ⟨((j+1:Nat):Int),false,aX (by
    simp (disch:=omega) only[xu,xt,un,ay,ai])⟩
theorem adz {a b:Nat}: ∀(n i:Nat) (d:Array XE),b-i=n→b≤d.size→d.size<1152921504606846976→
  ∃j' t,Loop (Fj CC a b) ((i:Int),eA d)=some (j',t,eA (insOuter az a b i d)):=by
 intro n
 induction n with
 | zero=>
  intro i d hn hb hs
  rw[insOuter,ai (by omega)]
  exact ⟨(i:Int),false,aX (by
   simp (disch:=omega) only[Fj,AO,un,sA,cond_false])⟩
 | succ n ih=>
  intro i d hn hb hs
  obtain ⟨j1,t1,h1⟩:=Sh (a:=a) (b:=b) (i:=i) i d (by omega) hs
  obtain ⟨j',t,U⟩:=ih (i+1) (insInner az a i d) (by omega) (by rw[KP];omega) (by rw[KP];omega)
  rw[insOuter,aj (by omega)]
  refine ⟨j',t,(bO ?_).trans U⟩
  simp (disch:=omega) only[Fj,AO,un,ay,aj,h1,Option.bind_some,dB,wrap64]
theorem Si {a b:Nat} {d:Array XE} (hb:b≤d.size) (hs:d.size<1152921504606846976) (ha:a<1152921504606846976):
  CC z8 [.int .i64 (a:Int),.int .i64 (b:Int),.list aa (eA d)]=some [.list aa (eA (insertionSort az d a b))]:=by
 refine adl ?_
 unfold R6
 obtain ⟨j',t,h⟩:=adz (a:=a) (b:=b) _ (a+1) d rfl hb hs
 simp (disch:=omega) only[dB,wrap64]
 rw[h]
 rfl
theorem adA (hi first:Nat): ∀(n root:Nat) (d:Array XE),hi-root≤n→root<1152921504606846976→first+hi≤d.size→d.size<1152921504606846976→
  (∃x y z,Loop (oF CC hi first) ((root:Int),eA d)=some (.inl (x,y,z,eA (siftDown az hi first root d))))∨
  (∃x y z,Loop (oF CC hi first) ((root:Int),eA d)=some (.inr (x,y,z,eA (siftDown az hi first root d)))):=by
 intro n
 induction n with
 | zero=>
  intro root d hn hr hb hs
  rw[KS,aj (by omega)]
  exact .inl ⟨(root:Int),((root*2+1:Nat):Int),true,aX (by
   simp (disch:=omega) only[oF,sB,un,AL,dB,wrap64];rw[np (by omega)];rfl)⟩
 | succ n ih=>
  intro root d hn hr hb hs
  by_cases h1:2*root+1≥hi
  ·rw[KS,aj h1]
   exact .inl ⟨(root:Int),((root*2+1:Nat):Int),true,aX (by
    simp (disch:=omega) only[oF,sB,un,AL,dB,wrap64];rw[np (by omega)];rfl)⟩
  ·have go: ∀c:Nat,c<hi→root<c→(oF CC hi first ((root:Int),eA d)=
      if bQ d[first+root]! d[first+c]! <0 then some (.inl ((c:Int),eA (swp d (first+root) (first+c)))) else some (.inr (.inr ((root:Int),(c:Int),true,eA d))))→
     siftDown az hi first root d=(if bQ d[first+root]! d[first+c]! <0 then siftDown az hi first c (swp d (first+root) (first+c)) else d)→
     ((∃x y z,Loop (oF CC hi first) ((root:Int),eA d)=some (.inl (x,y,z,eA (siftDown az hi first root d))))∨
     (∃x y z,Loop (oF CC hi first) ((root:Int),eA d)=some (.inr (x,y,z,eA (siftDown az hi first root d))))):=by
    intro c hc hrc e1 e2
    rw[e2]
    by_cases h3:bQ d[first+root]! d[first+c]! <0
    ·rw[aj h3] at e1
     rw[aj h3,bO e1]
     exact ih c _ (by omega) (by omega) (by rw[size_swp];omega) (by rw[size_swp];omega)
    ·rw[ai h3] at e1
     rw[ai h3,aX e1]
     exact .inr ⟨_,_,_,rfl⟩
   have e0:=KS hi first root d
   rw[ai h1] at e0
   by_cases U:2*root+2<hi
   ·rw[aj U] at e0
    by_cases h3:bQ d[first+(2*root+1)]! d[first+(2*root+2)]! <0
    ·rw[aj h3] at e0
     refine go (2*root+2) (by omega) (by omega) ?_ e0
     rw[nJ 2 root] at h3
     simp (disch:=omega) only[oF,sB,un,AL,dB,fJ,wrap64]
     rw[ay,ai (by omega),ay,aj (by omega)]
     simp (disch:=omega) only[uJ,ay,cO,gJ,aj,ai,wrap64,dB,fJ,Int.toNat_natCast,Option.bind_some,fG,fI,XE.a9,XE.bp,XE.bh,XE.re,fH,ic,gy,gq,V.aT,V.toInt_int,cond_true,cond_false,nJ 2 root,np]
     by_cases h4:bQ d[first+root]! d[first+(root*2+2)]! <0
     ·simp only[h4,cE];rfl
     ·simp only[h4,fa];rfl
    ·rw[ai h3] at e0
     refine go (2*root+1) (by omega) (by omega) ?_ e0
     rw[nJ 2 root] at h3
     simp (disch:=omega) only[oF,sB,un,AL,dB,fJ,wrap64]
     rw[ay,ai (by omega),ay,aj (by omega)]
     simp (disch:=omega) only[uJ,ay,cO,gJ,aj,ai,wrap64,dB,fJ,Int.toNat_natCast,Option.bind_some,fG,fI,XE.a9,XE.bp,XE.bh,XE.re,fH,ic,gy,gq,V.aT,V.toInt_int,cond_true,cond_false,nJ 2 root,sA]
     by_cases h4:bQ d[first+root]! d[first+(root*2+1)]! <0
     ·simp only[h4,cE];rfl
     ·simp only[h4,fa];rfl
   ·rw[ai U] at e0
    refine go (2*root+1) (by omega) (by omega) ?_ e0
    simp (disch:=omega) only[oF,sB,un,AL,dB,fJ,wrap64]
    rw[ay,ai (by omega),ay,ai (by omega)]
    simp (disch:=omega) only[uJ,ay,cO,gJ,aj,ai,wrap64,dB,fJ,Int.toNat_natCast,Option.bind_some,fG,fI,XE.a9,XE.bp,XE.bh,XE.re,fH,ic,gy,gq,V.aT,V.toInt_int,cond_true,cond_false,nJ 2 root]
    by_cases h4:bQ d[first+root]! d[first+(root*2+1)]! <0
    ·simp only[h4,cE];rfl
    ·simp only[h4,fa];rfl
theorem Sj {lo hi first:Nat} {d:Array XE} (hl:lo<1152921504606846976) (hb:first+hi≤d.size) (hs:d.size<1152921504606846976):
  CC Ab [.int .i64 (lo:Int),.int .i64 (hi:Int),.int .i64 (first:Int),.list aa (eA d)]=some [.list aa (eA (siftDown az hi first lo d))]:=by
 refine adp ?_
 unfold R9
 rcases adA hi first _ lo d (bW _) hl hb hs with ⟨x,y,z,h⟩|⟨x,y,z,h⟩
 ·rw[h];rfl
 ·rw[h];rfl
theorem Sk {hi first:Nat}: ∀(k:Nat) (d:Array XE),k<1152921504606846976→first+hi≤d.size→d.size<1152921504606846976→
  ∃x y,Loop (Fl CC first 0 hi) ((k:Int)-1,eA d)=some (x,y,eA (heapBuild az hi first k d))
 | 0,d,hk,hb,hs=>⟨-1,false,aX (by
   simp (disch:=omega) only[Fl,AP,un,ay,ai]
   rfl)⟩
 | k+1,d,hk,hb,hs=>by
  obtain ⟨x,y,ih⟩:=Sk (hi:=hi) (first:=first) k (siftDown az hi first k d) (by omega) (by rw[AN _ _ _ _ _ (bW _)];omega) (by rw[AN _ _ _ _ _ (bW _)];omega)
  refine ⟨x,y,(bO ?_).trans ih⟩
  simp (disch:=omega) only[Fl,AP,un,ay,aj,uI,Sj,Option.bind_some,V.aT,V.j4,wrap64]
theorem Sl {first:Nat}: ∀(k:Nat) (d:Array XE),k<1152921504606846976→first+k≤d.size→d.size<1152921504606846976→
  ∃x y,Loop (Fm CC first 0) ((k:Int)-1,eA d)=some (x,y,eA (heapPop az first k d))
 | 0,d,hk,hb,hs=>⟨-1,false,aX (by
   simp (disch:=omega) only[Fm,AQ,un,ay,ai]
   rfl)⟩
 | k+1,d,hk,hb,hs=>by
  obtain ⟨x,y,ih⟩:=Sl (first:=first) k (siftDown az k first 0 (swp d first (first+k))) (by omega) (by rw[AN _ _ _ _ _ (bW _),size_swp];omega) (by rw[AN _ _ _ _ _ (bW _),size_swp];omega)
  refine ⟨x,y,(bO ?_).trans ih⟩
  have gG:=Sj (lo:=0) (hi:=k) (first:=first) (d:=swp d first (first+k)) (by omega) (by rw[size_swp];omega) (by rw[size_swp];omega)
  unfold swp at gG⊢
  rw[show ((0:Nat):Int)=0 from rfl] at gG
  simp (disch:=omega) only[Fm,AQ,un,uI,ay,cO,gJ,aj,ai,wrap64,dB,fJ,Int.toNat_natCast,Option.bind_some,fG,fI,XE.a9,XE.bp,XE.bh,XE.re,fH,ic,gy,gq,V.aT,V.toInt_int,cond_true,cond_false]
  rw[gG]
  simp (disch:=omega) only[Option.bind_some,V.aT,V.j4,wrap64]
theorem adB {a b:Nat} {d:Array XE} (eW:a<b) (hb:b≤d.size) (hs:d.size<1152921504606846976):
  CC z9 [.int .i64 (a:Int),.int .i64 (b:Int),.list aa (eA d)]=some [.list aa (eA (heapSort az d a b))]:=by
 refine adt ?_
 unfold Sd
 obtain ⟨x,y,h1⟩:=Sk (hi:=b-a) (first:=a) ((b-a-1)/2+1) d (by omega) (by omega) hs
 obtain ⟨x2,y2,U⟩:=Sl (first:=a) (b-a) (heapBuild az (b-a) a ((b-a-1)/2+1) d) (by omega) (by rw[KQ];omega) (by rw[KQ];omega)
 have e1:((((b-a-1)/2+1:Nat):Int)-1)=Int.tdiv (((b-a:Nat):Int)-1) 2:=by
  rw[Int.tdiv_eq_ediv_of_nonneg (by omega)]
  omega
 rw[e1] at h1
 simp (disch:=omega) only[mn,wrap64]
 rw[h1]
 simp only[Option.bind_some,un]
 rw[U]
 rfl
theorem adC: ∀(n i j:Nat) (d:Array XE),j-i≤n→j<d.size→d.size<1152921504606846976→
  ∃x y z,Loop (AR CC) ((i:Int),(j:Int),eA d)=some (x,y,z,eA (reverseLoop i j d)):=by
 intro n
 induction n with
 | zero=>
  intro i j d hn hj hs
  rw[reverseLoop,ai (by omega)]
  exact ⟨(i:Int),(j:Int),false,aX (by
   simp (disch:=omega) only[AR,xx,un,sA,cond_false])⟩
 | succ n ih=>
  intro i j d hn hj hs
  rw[reverseLoop]
  by_cases h:i<j
  ·rw[aj h]
   obtain ⟨x,y,z,U⟩:=ih (i+1) (j-1) (swp d i j) (by omega) (by rw[size_swp];omega) (by rw[size_swp];omega)
   refine ⟨x,y,z,(bO ?_).trans U⟩
   simp (disch:=omega) only[AR,xx,un,ay,cO,gJ,aj,ai,wrap64,dB,fJ,Int.toNat_natCast,Option.bind_some,fG,fI,XE.a9,XE.bp,XE.bh,XE.re,fH,ic,gy,gq,V.aT,V.toInt_int,cond_true,cond_false,ka]
   rfl
  ·rw[ai h]
   exact ⟨(i:Int),(j:Int),false,aX (by
    simp (disch:=omega) only[AR,xx,un,sA,cond_false])⟩
theorem adD {a b:Nat} {d:Array XE} (eW:a<b) (hb:b≤d.size) (hs:d.size<1152921504606846976):
  CC Eu [.int .i64 (a:Int),.int .i64 (b:Int),.list aa (eA d)]=some [.list aa (eA (reverseRange d a b))]:=by
 refine adx ?_
 unfold Sg
 obtain ⟨x,y,z,h⟩:=adC _ a (b-1) d (bW _) (by omega) hs
 simp (disch:=omega) only[ka,wrap64]
 rw[h]
 rfl
end Go.AM.SX
set_option maxRecDepth 100000
namespace Go.AM
open Go.Proofs
noncomputable abbrev pD:Code:=cL Try.prog (ax.aZ 118)
noncomputable def AS (C:ag) (a j:Int) (ak:List V) (i:Int) {β:Type} (kn:Int→Option β) (kr:(Int × Bool)→Option β):Option β:=
 bif decide ((i:Int)≤j) then
  bif (decide (0≤i))&&(decide (i<(ak.length:Int))) then
  (ak[(i:Int).toNat]?).bind fun x5=>
  bif (decide (0≤a))&&(decide (a<(ak.length:Int))) then
   (ak[(a:Int).toNat]?).bind fun x6=>
   (C bf [.int .i64 ((x5.cell 0).toInt),.int .i64 ((x5.cell 1).toInt),.list aa ((x5.cell 2).toList),.int .i64 ((x6.cell 0).toInt),.int .i64 ((x6.cell 1).toInt),.list aa ((x6.cell 2).toList)]).bind fun r7=>
   bif decide ((((V.nth r7 0).toInt):Int)<0) then
   kn (IntKind.wrap .i64 (i+1))
   else
   kr (i,decide ((((V.nth r7 0).toInt):Int)<0))
  else none
  else none
 else
  kr (i,false)
noncomputable def AT (C:ag) (a j:Int) (ak:List V):(Int)→Option ((Int) ⊕ (Int × Bool)):=fun i=>AS C a j ak i (fun y=>some (.inl y)) (fun r=>some (.inr r))
noncomputable def xy (C:ag) (a i:Int) (ak:List V) (j:Int) {β:Type} (kn:Int→Option β) (kr:(Int × Bool)→Option β):Option β:=
 bif decide ((i:Int)≤j) then
  bif (decide (0≤j))&&(decide (j<(ak.length:Int))) then
  (ak[(j:Int).toNat]?).bind fun lC=>
  bif (decide (0≤a))&&(decide (a<(ak.length:Int))) then
   (ak[(a:Int).toNat]?).bind fun ez=>
   (C bf [.int .i64 ((lC.cell 0).toInt),.int .i64 ((lC.cell 1).toInt),.list aa ((lC.cell 2).toList),.int .i64 ((ez.cell 0).toInt),.int .i64 ((ez.cell 1).toInt),.list aa ((ez.cell 2).toList)]).bind fun gr=>
   bif !(decide ((((V.nth gr 0).toInt):Int)<0)) then
   kn (IntKind.wrap .i64 (j-1))
   else
   kr (j,!(decide ((((V.nth gr 0).toInt):Int)<0)))
  else none
  else none
 else
  kr (j,false)
noncomputable def xz (C:ag) (a i:Int) (ak:List V):(Int)→Option ((Int) ⊕ (Int × Bool)):=fun j=>xy C a i ak j (fun y=>some (.inl y)) (fun r=>some (.inr r))
noncomputable def AU (C:ag) (a j:Int) (ak:List V) (i:Int) {β:Type} (kn:Int→Option β) (kr:(Int × Bool)→Option β):Option β:=
 bif decide ((i:Int)≤j) then
  bif (decide (0≤i))&&(decide (i<(ak.length:Int))) then
  (ak[(i:Int).toNat]?).bind fun jC=>
  bif (decide (0≤a))&&(decide (a<(ak.length:Int))) then
   (ak[(a:Int).toNat]?).bind fun oB=>
   (C bf [.int .i64 ((jC.cell 0).toInt),.int .i64 ((jC.cell 1).toInt),.list aa ((jC.cell 2).toList),.int .i64 ((oB.cell 0).toInt),.int .i64 ((oB.cell 1).toInt),.list aa ((oB.cell 2).toList)]).bind fun AE=>
   bif decide ((((V.nth AE 0).toInt):Int)<0) then
   kn (IntKind.wrap .i64 (i+1))
   else
   kr (i,decide ((((V.nth AE 0).toInt):Int)<0))
  else none
  else none
 else
  kr (i,false)
noncomputable def AV (C:ag) (a j:Int) (ak:List V):(Int)→Option ((Int) ⊕ (Int × Bool)):=fun i=>AU C a j ak i (fun y=>some (.inl y)) (fun r=>some (.inr r))
noncomputable def xA (C:ag) (a i:Int) (ak:List V) (j:Int) {β:Type} (kn:Int→Option β) (kr:(Int × Bool)→Option β):Option β:=
 bif decide ((i:Int)≤j) then
  bif (decide (0≤j))&&(decide (j<(ak.length:Int))) then
  (ak[(j:Int).toNat]?).bind fun uK=>
  bif (decide (0≤a))&&(decide (a<(ak.length:Int))) then
   (ak[(a:Int).toNat]?).bind fun uL=>
   (C bf [.int .i64 ((uK.cell 0).toInt),.int .i64 ((uK.cell 1).toInt),.list aa ((uK.cell 2).toList),.int .i64 ((uL.cell 0).toInt),.int .i64 ((uL.cell 1).toInt),.list aa ((uL.cell 2).toList)]).bind fun Fo=>
   bif !(decide ((((V.nth Fo 0).toInt):Int)<0)) then
   kn (IntKind.wrap .i64 (j-1))
   else
   kr (j,!(decide ((((V.nth Fo 0).toInt):Int)<0)))
  else none
  else none
 else
  kr (j,false)
noncomputable def xB (C:ag) (a i:Int) (ak:List V):(Int)→Option ((Int) ⊕ (Int × Bool)):=fun j=>xA C a i ak j (fun y=>some (.inl y)) (fun r=>some (.inr r))
noncomputable def AW (C:ag) (a i j:Int) (ak:List V) {β:Type} (kn:(Int × Int × (List V))→Option β) (kr:(Int × Int × Bool × (List V))→Option β):Option β:=
 (Loop (AV C a j ak) i).bind (un fun (lD:Int) (Qs:Bool)=>
  (Loop (xB C a lD ak) j).bind (un fun (oG:Int) (ZG:Bool)=>
   bif decide ((lD:Int)>oG) then
    kr (lD,oG,decide ((lD:Int)>oG),ak)
   else
    bif (decide (0≤oG))&&(decide (oG<(ak.length:Int))) then
    (ak[(oG:Int).toNat]?).bind fun qP=>
    bif (decide (0≤lD))&&(decide (lD<(ak.length:Int))) then
     (ak[(lD:Int).toNat]?).bind fun KT=>
     bif (decide (0≤lD))&&(decide (lD<(ak.length:Int))) then
     (ak[(lD:Int).toNat]?).bind fun x35=>
     bif (decide (0≤oG))&&(decide (oG<((ak.set ((lD:Int).toNat) (.agg [.int .i64 ((qP.cell 0).toInt),.int .i64 ((qP.cell 1).toInt),.list aa ((qP.cell 2).toList)])).length:Int))) then
      ((ak.set ((lD:Int).toNat) (.agg [.int .i64 ((qP.cell 0).toInt),.int .i64 ((qP.cell 1).toInt),.list aa ((qP.cell 2).toList)]))[(oG:Int).toNat]?).bind fun x36=>
      kn (IntKind.wrap .i64 (lD+1),IntKind.wrap .i64 (oG-1),(ak.set ((lD:Int).toNat) (.agg [.int .i64 ((qP.cell 0).toInt),.int .i64 ((qP.cell 1).toInt),.list aa ((qP.cell 2).toList)])).set ((oG:Int).toNat) (.agg [.int .i64 ((KT.cell 0).toInt),.int .i64 ((KT.cell 1).toInt),.list aa ((KT.cell 2).toList)]))
     else none
     else none
    else none
    else none))
noncomputable def xC (C:ag) (a:Int):(Int × Int × (List V))→Option ((Int × Int × (List V)) ⊕ (Int × Int × Bool × (List V))):=un fun i=>un fun j ak=>AW C a i j ak (fun y=>some (.inl y)) (fun r=>some (.inr r))
noncomputable def Sm (C:ag):cD:=fun β n ds k=>
 bif Nat.beq n 49 then ca JQ [false,true,false,false] [[1,0,3,0,4]] (@AS C) ds k else
 bif Nat.beq n 81 then ca JR [false,false,true,false] [[1,2,0,0,4]] (@xy C) ds k else
 bif Nat.beq n 209 then ca JS [false,true,false,false] [[1,0,3,0,4]] (@AU C) ds k else
 bif Nat.beq n 241 then ca JT [false,false,true,false] [[1,2,0,0,4]] (@xA C) ds k else
 bif Nat.beq n 210 then ca JU [false,true,true,true] [[1,0,0,0,0]] (@AW C) ds k else
 none
abbrev AX (C:ag) (b:cA):Prop:=cB Try.prog ax C (Sm C) 118 (cQ Try.prog (ax.aZ 118)) (ax.sin 118).ba.length b
theorem adE (C:ag):AX C (.loop (av [1,1,1,0,0,0] pD)):=
 cg JQ [false,true,false,false] [[1,0,3,0,4]] (@AS C) (by kernel_rfl) (bm (bs:=[]) (by kernel_rfl) aw) (fun ds=>by kernel_rfl) (fun i x=>by kernel_rfl) (fun i x β k=>by kernel_rfl) (fun β ds k=>by kernel_rfl)
theorem adF (C:ag):AX C (.loop (av [1,1,1,1,0,0,0] pD)):=
 cg JR [false,false,true,false] [[1,2,0,0,4]] (@xy C) (by kernel_rfl) (bm (bs:=[]) (by kernel_rfl) aw) (fun ds=>by kernel_rfl) (fun i x=>by kernel_rfl) (fun i x β k=>by kernel_rfl) (fun β ds k=>by kernel_rfl)
theorem adG (C:ag):AX C (.loop (av [1,1,1,1,1,1,1,1,1,0,0,0,0,0,0,0] pD)):=
 cg JS [false,true,false,false] [[1,0,3,0,4]] (@AU C) (by kernel_rfl) (bm (bs:=[]) (by kernel_rfl) aw) (fun ds=>by kernel_rfl) (fun i x=>by kernel_rfl) (fun i x β k=>by kernel_rfl) (fun β ds k=>by kernel_rfl)
theorem adH (C:ag):AX C (.loop (av [1,1,1,1,1,1,1,1,1,0,0,0,0,1,0,0,0] pD)):=
 cg JT [false,false,true,false] [[1,2,0,0,4]] (@xA C) (by kernel_rfl) (bm (bs:=[]) (by kernel_rfl) aw) (fun ds=>by kernel_rfl) (fun i x=>by kernel_rfl) (fun i x β k=>by kernel_rfl) (fun β ds k=>by kernel_rfl)
theorem adI (C:ag):AX C (.loop (av [1,1,1,1,1,1,1,1,1,0,0,0] pD)):=
 cg JU [false,true,true,true] [[1,0,0,0,0]] (@AW C) (by kernel_rfl) (bm (bs:=[.loop (av [1,1,1,1,1,1,1,1,1,0,0,0,0,0,0,0] pD),.loop (av [1,1,1,1,1,1,1,1,1,0,0,0,0,1,0,0,0] pD)]) (by kernel_rfl) (bD (adG C) (bD (adH C) aw))) (fun ds=>by kernel_rfl) (fun i x=>by kernel_rfl) (fun i x β k=>by kernel_rfl) (fun β ds k=>by kernel_rfl)
noncomputable def Sn (C:ag) (a b' pivot:Int) (ak:List V):Option (List V):=
 bif (decide (0≤pivot))&&(decide (pivot<(ak.length:Int))) then
  (ak[(pivot:Int).toNat]?).bind fun x1=>
  bif (decide (0≤a))&&(decide (a<(ak.length:Int))) then
  (ak[(a:Int).toNat]?).bind fun x2=>
  bif (decide (0≤a))&&(decide (a<(ak.length:Int))) then
   (ak[(a:Int).toNat]?).bind fun x3=>
   bif (decide (0≤pivot))&&(decide (pivot<((ak.set ((a:Int).toNat) (.agg [.int .i64 ((x1.cell 0).toInt),.int .i64 ((x1.cell 1).toInt),.list aa ((x1.cell 2).toList)])).length:Int))) then
   ((ak.set ((a:Int).toNat) (.agg [.int .i64 ((x1.cell 0).toInt),.int .i64 ((x1.cell 1).toInt),.list aa ((x1.cell 2).toList)]))[(pivot:Int).toNat]?).bind fun x4=>
   (Loop (AT C a (IntKind.wrap .i64 (b'-1)) ((ak.set ((a:Int).toNat) (.agg [.int .i64 ((x1.cell 0).toInt),.int .i64 ((x1.cell 1).toInt),.list aa ((x1.cell 2).toList)])).set ((pivot:Int).toNat) (.agg [.int .i64 ((x2.cell 0).toInt),.int .i64 ((x2.cell 1).toInt),.list aa ((x2.cell 2).toList)]))) (IntKind.wrap .i64 (a+1))).bind (un fun (eQ:Int) (se:Bool)=>
    (Loop (xz C a eQ ((ak.set ((a:Int).toNat) (.agg [.int .i64 ((x1.cell 0).toInt),.int .i64 ((x1.cell 1).toInt),.list aa ((x1.cell 2).toList)])).set ((pivot:Int).toNat) (.agg [.int .i64 ((x2.cell 0).toInt),.int .i64 ((x2.cell 1).toInt),.list aa ((x2.cell 2).toList)]))) (IntKind.wrap .i64 (b'-1))).bind (un fun (eg:Int) (sf:Bool)=>
     bif decide ((eQ:Int)>eg) then
      bif (decide (0≤a))&&(decide (a<(((ak.set ((a:Int).toNat) (.agg [.int .i64 ((x1.cell 0).toInt),.int .i64 ((x1.cell 1).toInt),.list aa ((x1.cell 2).toList)])).set ((pivot:Int).toNat) (.agg [.int .i64 ((x2.cell 0).toInt),.int .i64 ((x2.cell 1).toInt),.list aa ((x2.cell 2).toList)])).length:Int))) then
      (((ak.set ((a:Int).toNat) (.agg [.int .i64 ((x1.cell 0).toInt),.int .i64 ((x1.cell 1).toInt),.list aa ((x1.cell 2).toList)])).set ((pivot:Int).toNat) (.agg [.int .i64 ((x2.cell 0).toInt),.int .i64 ((x2.cell 1).toInt),.list aa ((x2.cell 2).toList)]))[(a:Int).toNat]?).bind fun fK=>
      bif (decide (0≤eg))&&(decide (eg<(((ak.set ((a:Int).toNat) (.agg [.int .i64 ((x1.cell 0).toInt),.int .i64 ((x1.cell 1).toInt),.list aa ((x1.cell 2).toList)])).set ((pivot:Int).toNat) (.agg [.int .i64 ((x2.cell 0).toInt),.int .i64 ((x2.cell 1).toInt),.list aa ((x2.cell 2).toList)])).length:Int))) then
       (((ak.set ((a:Int).toNat) (.agg [.int .i64 ((x1.cell 0).toInt),.int .i64 ((x1.cell 1).toInt),.list aa ((x1.cell 2).toList)])).set ((pivot:Int).toNat) (.agg [.int .i64 ((x2.cell 0).toInt),.int .i64 ((x2.cell 1).toInt),.list aa ((x2.cell 2).toList)]))[(eg:Int).toNat]?).bind fun e7=>
       bif (decide (0≤eg))&&(decide (eg<(((ak.set ((a:Int).toNat) (.agg [.int .i64 ((x1.cell 0).toInt),.int .i64 ((x1.cell 1).toInt),.list aa ((x1.cell 2).toList)])).set ((pivot:Int).toNat) (.agg [.int .i64 ((x2.cell 0).toInt),.int .i64 ((x2.cell 1).toInt),.list aa ((x2.cell 2).toList)])).length:Int))) then
       (((ak.set ((a:Int).toNat) (.agg [.int .i64 ((x1.cell 0).toInt),.int .i64 ((x1.cell 1).toInt),.list aa ((x1.cell 2).toList)])).set ((pivot:Int).toNat) (.agg [.int .i64 ((x2.cell 0).toInt),.int .i64 ((x2.cell 1).toInt),.list aa ((x2.cell 2).toList)]))[(eg:Int).toNat]?).bind fun qM=>
       bif (decide (0≤a))&&(decide (a<((((ak.set ((a:Int).toNat) (.agg [.int .i64 ((x1.cell 0).toInt),.int .i64 ((x1.cell 1).toInt),.list aa ((x1.cell 2).toList)])).set ((pivot:Int).toNat) (.agg [.int .i64 ((x2.cell 0).toInt),.int .i64 ((x2.cell 1).toInt),.list aa ((x2.cell 2).toList)])).set ((eg:Int).toNat) (.agg [.int .i64 ((fK.cell 0).toInt),.int .i64 ((fK.cell 1).toInt),.list aa ((fK.cell 2).toList)])).length:Int))) then
        ((((ak.set ((a:Int).toNat) (.agg [.int .i64 ((x1.cell 0).toInt),.int .i64 ((x1.cell 1).toInt),.list aa ((x1.cell 2).toList)])).set ((pivot:Int).toNat) (.agg [.int .i64 ((x2.cell 0).toInt),.int .i64 ((x2.cell 1).toInt),.list aa ((x2.cell 2).toList)])).set ((eg:Int).toNat) (.agg [.int .i64 ((fK.cell 0).toInt),.int .i64 ((fK.cell 1).toInt),.list aa ((fK.cell 2).toList)]))[(a:Int).toNat]?).bind fun lA=>
        some [.int .i64 eg,.bool true,.list aa ((((ak.set ((a:Int).toNat) (.agg [.int .i64 ((x1.cell 0).toInt),.int .i64 ((x1.cell 1).toInt),.list aa ((x1.cell 2).toList)])).set ((pivot:Int).toNat) (.agg [.int .i64 ((x2.cell 0).toInt),.int .i64 ((x2.cell 1).toInt),.list aa ((x2.cell 2).toList)])).set ((eg:Int).toNat) (.agg [.int .i64 ((fK.cell 0).toInt),.int .i64 ((fK.cell 1).toInt),.list aa ((fK.cell 2).toList)])).set ((a:Int).toNat) (.agg [.int .i64 ((e7.cell 0).toInt),.int .i64 ((e7.cell 1).toInt),.list aa ((e7.cell 2).toList)]))]
       else none
       else none
      else none
      else none
     else
      bif (decide (0≤eg))&&(decide (eg<(((ak.set ((a:Int).toNat) (.agg [.int .i64 ((x1.cell 0).toInt),.int .i64 ((x1.cell 1).toInt),.list aa ((x1.cell 2).toList)])).set ((pivot:Int).toNat) (.agg [.int .i64 ((x2.cell 0).toInt),.int .i64 ((x2.cell 1).toInt),.list aa ((x2.cell 2).toList)])).length:Int))) then
      (((ak.set ((a:Int).toNat) (.agg [.int .i64 ((x1.cell 0).toInt),.int .i64 ((x1.cell 1).toInt),.list aa ((x1.cell 2).toList)])).set ((pivot:Int).toNat) (.agg [.int .i64 ((x2.cell 0).toInt),.int .i64 ((x2.cell 1).toInt),.list aa ((x2.cell 2).toList)]))[(eg:Int).toNat]?).bind fun pC=>
      bif (decide (0≤eQ))&&(decide (eQ<(((ak.set ((a:Int).toNat) (.agg [.int .i64 ((x1.cell 0).toInt),.int .i64 ((x1.cell 1).toInt),.list aa ((x1.cell 2).toList)])).set ((pivot:Int).toNat) (.agg [.int .i64 ((x2.cell 0).toInt),.int .i64 ((x2.cell 1).toInt),.list aa ((x2.cell 2).toList)])).length:Int))) then
       (((ak.set ((a:Int).toNat) (.agg [.int .i64 ((x1.cell 0).toInt),.int .i64 ((x1.cell 1).toInt),.list aa ((x1.cell 2).toList)])).set ((pivot:Int).toNat) (.agg [.int .i64 ((x2.cell 0).toInt),.int .i64 ((x2.cell 1).toInt),.list aa ((x2.cell 2).toList)]))[(eQ:Int).toNat]?).bind fun uM=>
       bif (decide (0≤eQ))&&(decide (eQ<(((ak.set ((a:Int).toNat) (.agg [.int .i64 ((x1.cell 0).toInt),.int .i64 ((x1.cell 1).toInt),.list aa ((x1.cell 2).toList)])).set ((pivot:Int).toNat) (.agg [.int .i64 ((x2.cell 0).toInt),.int .i64 ((x2.cell 1).toInt),.list aa ((x2.cell 2).toList)])).length:Int))) then
       (((ak.set ((a:Int).toNat) (.agg [.int .i64 ((x1.cell 0).toInt),.int .i64 ((x1.cell 1).toInt),.list aa ((x1.cell 2).toList)])).set ((pivot:Int).toNat) (.agg [.int .i64 ((x2.cell 0).toInt),.int .i64 ((x2.cell 1).toInt),.list aa ((x2.cell 2).toList)]))[(eQ:Int).toNat]?).bind fun Fp=>
       bif (decide (0≤eg))&&(decide (eg<((((ak.set ((a:Int).toNat) (.agg [.int .i64 ((x1.cell 0).toInt),.int .i64 ((x1.cell 1).toInt),.list aa ((x1.cell 2).toList)])).set ((pivot:Int).toNat) (.agg [.int .i64 ((x2.cell 0).toInt),.int .i64 ((x2.cell 1).toInt),.list aa ((x2.cell 2).toList)])).set ((eQ:Int).toNat) (.agg [.int .i64 ((pC.cell 0).toInt),.int .i64 ((pC.cell 1).toInt),.list aa ((pC.cell 2).toList)])).length:Int))) then
        ((((ak.set ((a:Int).toNat) (.agg [.int .i64 ((x1.cell 0).toInt),.int .i64 ((x1.cell 1).toInt),.list aa ((x1.cell 2).toList)])).set ((pivot:Int).toNat) (.agg [.int .i64 ((x2.cell 0).toInt),.int .i64 ((x2.cell 1).toInt),.list aa ((x2.cell 2).toList)])).set ((eQ:Int).toNat) (.agg [.int .i64 ((pC.cell 0).toInt),.int .i64 ((pC.cell 1).toInt),.list aa ((pC.cell 2).toList)]))[(eg:Int).toNat]?).bind fun x22=>
        (Loop (xC C a) (IntKind.wrap .i64 (eQ+1),IntKind.wrap .i64 (eg-1),(((ak.set ((a:Int).toNat) (.agg [.int .i64 ((x1.cell 0).toInt),.int .i64 ((x1.cell 1).toInt),.list aa ((x1.cell 2).toList)])).set ((pivot:Int).toNat) (.agg [.int .i64 ((x2.cell 0).toInt),.int .i64 ((x2.cell 1).toInt),.list aa ((x2.cell 2).toList)])).set ((eQ:Int).toNat) (.agg [.int .i64 ((pC.cell 0).toInt),.int .i64 ((pC.cell 1).toInt),.list aa ((pC.cell 2).toList)])).set ((eg:Int).toNat) (.agg [.int .i64 ((uM.cell 0).toInt),.int .i64 ((uM.cell 1).toInt),.list aa ((uM.cell 2).toList)]))).bind (un fun (aag:Int)=>un fun (pE:Int)=>un fun (Qw:Bool) (jE:List V)=>
         bif (decide (0≤a))&&(decide (a<(jE.length:Int))) then
         (jE[(a:Int).toNat]?).bind fun mq=>
         bif (decide (0≤pE))&&(decide (pE<(jE.length:Int))) then
          (jE[(pE:Int).toNat]?).bind fun uN=>
          bif (decide (0≤pE))&&(decide (pE<(jE.length:Int))) then
          (jE[(pE:Int).toNat]?).bind fun x43=>
          bif (decide (0≤a))&&(decide (a<((jE.set ((pE:Int).toNat) (.agg [.int .i64 ((mq.cell 0).toInt),.int .i64 ((mq.cell 1).toInt),.list aa ((mq.cell 2).toList)])).length:Int))) then
           ((jE.set ((pE:Int).toNat) (.agg [.int .i64 ((mq.cell 0).toInt),.int .i64 ((mq.cell 1).toInt),.list aa ((mq.cell 2).toList)]))[(a:Int).toNat]?).bind fun x44=>
           some [.int .i64 pE,.bool false,.list aa ((jE.set ((pE:Int).toNat) (.agg [.int .i64 ((mq.cell 0).toInt),.int .i64 ((mq.cell 1).toInt),.list aa ((mq.cell 2).toList)])).set ((a:Int).toNat) (.agg [.int .i64 ((uN.cell 0).toInt),.int .i64 ((uN.cell 1).toInt),.list aa ((uN.cell 2).toList)]))]
          else none
          else none
         else none
         else none)
       else none
       else none
      else none
      else none))
   else none
  else none
  else none
 else none
theorem adJ {a b' pivot:Int} {ak:List V} {r:Option (List V)} (h:Sn CC a b' pivot ak=r):CC m9 [.int .i64 a,.int .i64 b',.int .i64 pivot,.list aa ak]=r:=
 bn (key:=118) (L:=Sm CC) (bs:=[.loop (av [1,1,1,0,0,0] pD),.loop (av [1,1,1,1,0,0,0] pD),.loop (av [1,1,1,1,1,1,1,1,1,0,0,0] pD)]) (by kernel_rfl) (bD (adE CC) (bD (adF CC) (bD (adI CC) aw))) (bc (by kernel_rfl) h)
noncomputable abbrev xD:Code:=cL Try.prog (ax.aZ 117)
noncomputable def AY (C:ag) (a j:Int) (ak:List V) (i:Int) {β:Type} (kn:Int→Option β) (kr:(Int × Bool)→Option β):Option β:=
 bif decide ((i:Int)≤j) then
  bif (decide (0≤a))&&(decide (a<(ak.length:Int))) then
  (ak[(a:Int).toNat]?).bind fun x5=>
  bif (decide (0≤i))&&(decide (i<(ak.length:Int))) then
   (ak[(i:Int).toNat]?).bind fun x6=>
   (C bf [.int .i64 ((x5.cell 0).toInt),.int .i64 ((x5.cell 1).toInt),.list aa ((x5.cell 2).toList),.int .i64 ((x6.cell 0).toInt),.int .i64 ((x6.cell 1).toInt),.list aa ((x6.cell 2).toList)]).bind fun r7=>
   bif !(decide ((((V.nth r7 0).toInt):Int)<0)) then
   kn (IntKind.wrap .i64 (i+1))
   else
   kr (i,!(decide ((((V.nth r7 0).toInt):Int)<0)))
  else none
  else none
 else
  kr (i,false)
noncomputable def AZ (C:ag) (a j:Int) (ak:List V):(Int)→Option ((Int) ⊕ (Int × Bool)):=fun i=>AY C a j ak i (fun y=>some (.inl y)) (fun r=>some (.inr r))
noncomputable def xE (C:ag) (a i:Int) (ak:List V) (j:Int) {β:Type} (kn:Int→Option β) (kr:(Int × Bool)→Option β):Option β:=
 bif decide ((i:Int)≤j) then
  bif (decide (0≤a))&&(decide (a<(ak.length:Int))) then
  (ak[(a:Int).toNat]?).bind fun lC=>
  bif (decide (0≤j))&&(decide (j<(ak.length:Int))) then
   (ak[(j:Int).toNat]?).bind fun ez=>
   (C bf [.int .i64 ((lC.cell 0).toInt),.int .i64 ((lC.cell 1).toInt),.list aa ((lC.cell 2).toList),.int .i64 ((ez.cell 0).toInt),.int .i64 ((ez.cell 1).toInt),.list aa ((ez.cell 2).toList)]).bind fun gr=>
   bif decide ((((V.nth gr 0).toInt):Int)<0) then
   kn (IntKind.wrap .i64 (j-1))
   else
   kr (j,decide ((((V.nth gr 0).toInt):Int)<0))
  else none
  else none
 else
  kr (j,false)
noncomputable def xF (C:ag) (a i:Int) (ak:List V):(Int)→Option ((Int) ⊕ (Int × Bool)):=fun j=>xE C a i ak j (fun y=>some (.inl y)) (fun r=>some (.inr r))
noncomputable def A0 (C:ag) (a i j:Int) (ak:List V) {β:Type} (kn:(Int × Int × (List V))→Option β) (kr:(Int × Int × Bool × (List V))→Option β):Option β:=
 (Loop (AZ C a j ak) i).bind (un fun (eQ:Int) (se:Bool)=>
  (Loop (xF C a eQ ak) j).bind (un fun (eg:Int) (sf:Bool)=>
   bif decide ((eQ:Int)>eg) then
    kr (eQ,eg,decide ((eQ:Int)>eg),ak)
   else
    bif (decide (0≤eg))&&(decide (eg<(ak.length:Int))) then
    (ak[(eg:Int).toNat]?).bind fun fK=>
    bif (decide (0≤eQ))&&(decide (eQ<(ak.length:Int))) then
     (ak[(eQ:Int).toNat]?).bind fun e7=>
     bif (decide (0≤eQ))&&(decide (eQ<(ak.length:Int))) then
     (ak[(eQ:Int).toNat]?).bind fun qM=>
     bif (decide (0≤eg))&&(decide (eg<((ak.set ((eQ:Int).toNat) (.agg [.int .i64 ((fK.cell 0).toInt),.int .i64 ((fK.cell 1).toInt),.list aa ((fK.cell 2).toList)])).length:Int))) then
      ((ak.set ((eQ:Int).toNat) (.agg [.int .i64 ((fK.cell 0).toInt),.int .i64 ((fK.cell 1).toInt),.list aa ((fK.cell 2).toList)]))[(eg:Int).toNat]?).bind fun lA=>
      kn (IntKind.wrap .i64 (eQ+1),IntKind.wrap .i64 (eg-1),(ak.set ((eQ:Int).toNat) (.agg [.int .i64 ((fK.cell 0).toInt),.int .i64 ((fK.cell 1).toInt),.list aa ((fK.cell 2).toList)])).set ((eg:Int).toNat) (.agg [.int .i64 ((e7.cell 0).toInt),.int .i64 ((e7.cell 1).toInt),.list aa ((e7.cell 2).toList)]))
     else none
     else none
    else none
    else none))
noncomputable def xG (C:ag) (a:Int):(Int × Int × (List V))→Option ((Int × Int × (List V)) ⊕ (Int × Int × Bool × (List V))):=un fun i=>un fun j ak=>A0 C a i j ak (fun y=>some (.inl y)) (fun r=>some (.inr r))
noncomputable def So (C:ag):cD:=fun β n ds k=>
 bif Nat.beq n 49 then ca JN [false,true,false,false] [[1,0,3,0,4]] (@AY C) ds k else
 bif Nat.beq n 81 then ca JO [false,false,true,false] [[1,2,0,0,4]] (@xE C) ds k else
 bif Nat.beq n 50 then ca JP [false,true,true,true] [[1,0,0,0,0]] (@A0 C) ds k else
 none
abbrev KU (C:ag) (b:cA):Prop:=cB Try.prog ax C (So C) 117 (cQ Try.prog (ax.aZ 117)) (ax.sin 117).ba.length b
theorem adK (C:ag):KU C (.loop (av [1,1,1,0,0,0,0,0,0,0] xD)):=
 cg JN [false,true,false,false] [[1,0,3,0,4]] (@AY C) (by kernel_rfl) (bm (bs:=[]) (by kernel_rfl) aw) (fun ds=>by kernel_rfl) (fun i x=>by kernel_rfl) (fun i x β k=>by kernel_rfl) (fun β ds k=>by kernel_rfl)
theorem adL (C:ag):KU C (.loop (av [1,1,1,0,0,0,0,1,0,0,0] xD)):=
 cg JO [false,false,true,false] [[1,2,0,0,4]] (@xE C) (by kernel_rfl) (bm (bs:=[]) (by kernel_rfl) aw) (fun ds=>by kernel_rfl) (fun i x=>by kernel_rfl) (fun i x β k=>by kernel_rfl) (fun β ds k=>by kernel_rfl)
theorem adM (C:ag):KU C (.loop (av [1,1,1,0,0,0] xD)):=
 cg JP [false,true,true,true] [[1,0,0,0,0]] (@A0 C) (by kernel_rfl) (bm (bs:=[.loop (av [1,1,1,0,0,0,0,0,0,0] xD),.loop (av [1,1,1,0,0,0,0,1,0,0,0] xD)]) (by kernel_rfl) (bD (adK C) (bD (adL C) aw))) (fun ds=>by kernel_rfl) (fun i x=>by kernel_rfl) (fun i x β k=>by kernel_rfl) (fun β ds k=>by kernel_rfl)
noncomputable def Sp (C:ag) (a b' pivot:Int) (ak:List V):Option (List V):=
 bif (decide (0≤pivot))&&(decide (pivot<(ak.length:Int))) then
  (ak[(pivot:Int).toNat]?).bind fun x1=>
  bif (decide (0≤a))&&(decide (a<(ak.length:Int))) then
  (ak[(a:Int).toNat]?).bind fun x2=>
  bif (decide (0≤a))&&(decide (a<(ak.length:Int))) then
   (ak[(a:Int).toNat]?).bind fun x3=>
   bif (decide (0≤pivot))&&(decide (pivot<((ak.set ((a:Int).toNat) (.agg [.int .i64 ((x1.cell 0).toInt),.int .i64 ((x1.cell 1).toInt),.list aa ((x1.cell 2).toList)])).length:Int))) then
   ((ak.set ((a:Int).toNat) (.agg [.int .i64 ((x1.cell 0).toInt),.int .i64 ((x1.cell 1).toInt),.list aa ((x1.cell 2).toList)]))[(pivot:Int).toNat]?).bind fun x4=>
   (Loop (xG C a) (IntKind.wrap .i64 (a+1),IntKind.wrap .i64 (b'-1),(ak.set ((a:Int).toNat) (.agg [.int .i64 ((x1.cell 0).toInt),.int .i64 ((x1.cell 1).toInt),.list aa ((x1.cell 2).toList)])).set ((pivot:Int).toNat) (.agg [.int .i64 ((x2.cell 0).toInt),.int .i64 ((x2.cell 1).toInt),.list aa ((x2.cell 2).toList)]))).bind (un fun (adN:Int)=>un fun (aiH:Int)=>un fun (ES:Bool) (adO:List V)=>
    some [.int .i64 adN,.list aa adO])
   else none
  else none
  else none
 else none
theorem adP {a b' pivot:Int} {ak:List V} {r:Option (List V)} (h:Sp CC a b' pivot ak=r):CC ue [.int .i64 a,.int .i64 b',.int .i64 pivot,.list aa ak]=r:=
 bn (key:=117) (L:=So CC) (bs:=[.loop (av [1,1,1,0,0,0] xD)]) (by kernel_rfl) (bD (adM CC) aw) (bc (by kernel_rfl) h)
noncomputable abbrev nw:Code:=cL Try.prog (ax.aZ 116)
noncomputable def A1 (C:ag) (a b' j:Int) (ak:List V) (i:Int) {β:Type} (kn:Int→Option β) (kr:(Int × Bool)→Option β):Option β:=
 bif decide ((i:Int)<b') then
  bif (decide (0≤i))&&(decide (i<(ak.length:Int))) then
  (ak[(i:Int).toNat]?).bind fun x1=>
  bif (decide (0≤(IntKind.wrap .i64 (i-1))))&&(decide ((IntKind.wrap .i64 (i-1))<(ak.length:Int))) then
   (ak[(IntKind.wrap .i64 (i-1):Int).toNat]?).bind fun x2=>
   (C bf [.int .i64 ((x1.cell 0).toInt),.int .i64 ((x1.cell 1).toInt),.list aa ((x1.cell 2).toList),.int .i64 ((x2.cell 0).toInt),.int .i64 ((x2.cell 1).toInt),.list aa ((x2.cell 2).toList)]).bind fun r3=>
   bif !(decide ((((V.nth r3 0).toInt):Int)<0)) then
   kn (IntKind.wrap .i64 (i+1))
   else
   kr (i,!(decide ((((V.nth r3 0).toInt):Int)<0)))
  else none
  else none
 else
  kr (i,false)
noncomputable def A3 (C:ag) (a b' j:Int) (ak:List V):(Int)→Option ((Int) ⊕ (Int × Bool)):=fun i=>A1 C a b' j ak i (fun y=>some (.inl y)) (fun r=>some (.inr r))
noncomputable def A4 (C:ag) (a b' i j j':Int) (ak:List V) {β:Type} (kn:(Int × (List V))→Option β) (kr:(Int × (List V))→Option β):Option β:=
 bif decide ((j':Int)≥1) then
  bif (decide (0≤j'))&&(decide (j'<(ak.length:Int))) then
  (ak[(j':Int).toNat]?).bind fun lC=>
  bif (decide (0≤(IntKind.wrap .i64 (j'-1))))&&(decide ((IntKind.wrap .i64 (j'-1))<(ak.length:Int))) then
   (ak[(IntKind.wrap .i64 (j'-1):Int).toNat]?).bind fun ez=>
   (C bf [.int .i64 ((lC.cell 0).toInt),.int .i64 ((lC.cell 1).toInt),.list aa ((lC.cell 2).toList),.int .i64 ((ez.cell 0).toInt),.int .i64 ((ez.cell 1).toInt),.list aa ((ez.cell 2).toList)]).bind fun gr=>
   bif !(decide ((((V.nth gr 0).toInt):Int)<0)) then
   kr (j',ak)
   else
   bif (decide (0≤(IntKind.wrap .i64 (j'-1))))&&(decide ((IntKind.wrap .i64 (j'-1))<(ak.length:Int))) then
    (ak[(IntKind.wrap .i64 (j'-1):Int).toNat]?).bind fun iM=>
    bif (decide (0≤j'))&&(decide (j'<(ak.length:Int))) then
    (ak[(j':Int).toNat]?).bind fun nt=>
    bif (decide (0≤j'))&&(decide (j'<(ak.length:Int))) then
     (ak[(j':Int).toNat]?).bind fun fK=>
     bif (decide (0≤(IntKind.wrap .i64 (j'-1))))&&(decide ((IntKind.wrap .i64 (j'-1))<((ak.set ((j':Int).toNat) (.agg [.int .i64 ((iM.cell 0).toInt),.int .i64 ((iM.cell 1).toInt),.list aa ((iM.cell 2).toList)])).length:Int))) then
     ((ak.set ((j':Int).toNat) (.agg [.int .i64 ((iM.cell 0).toInt),.int .i64 ((iM.cell 1).toInt),.list aa ((iM.cell 2).toList)]))[(IntKind.wrap .i64 (j'-1):Int).toNat]?).bind fun e7=>
     kn (IntKind.wrap .i64 (j'-1),(ak.set ((j':Int).toNat) (.agg [.int .i64 ((iM.cell 0).toInt),.int .i64 ((iM.cell 1).toInt),.list aa ((iM.cell 2).toList)])).set ((IntKind.wrap .i64 (j'-1):Int).toNat) (.agg [.int .i64 ((nt.cell 0).toInt),.int .i64 ((nt.cell 1).toInt),.list aa ((nt.cell 2).toList)]))
     else none
    else none
    else none
   else none
  else none
  else none
 else
  kr (j',ak)
noncomputable def A5 (C:ag) (a b' i j:Int):(Int × (List V))→Option ((Int × (List V)) ⊕ (Int × (List V))):=un fun j' ak=>A4 C a b' i j j' ak (fun y=>some (.inl y)) (fun r=>some (.inr r))
noncomputable def Fq (C:ag) (a b' i j:Int) (t65:Bool) (ak:List V) {β:Type} (kr:(List V)→Option β):Option β:=
 bif t65 then
  (Loop (A5 C a b' i j) (IntKind.wrap .i64 (i-1),ak)).bind (un fun (aiI:Int) (adQ:List V)=>
   kr adQ)
 else
  kr ak
noncomputable def A6 (C:ag) (a b' i j j':Int) (ak:List V) {β:Type} (kn:(Int × (List V))→Option β) (kr:(Int × (List V))→Option β):Option β:=
 bif decide ((j':Int)<b') then
  bif (decide (0≤j'))&&(decide (j'<(ak.length:Int))) then
  (ak[(j':Int).toNat]?).bind fun uM=>
  bif (decide (0≤(IntKind.wrap .i64 (j'-1))))&&(decide ((IntKind.wrap .i64 (j'-1))<(ak.length:Int))) then
   (ak[(IntKind.wrap .i64 (j'-1):Int).toNat]?).bind fun Fp=>
   (C bf [.int .i64 ((uM.cell 0).toInt),.int .i64 ((uM.cell 1).toInt),.list aa ((uM.cell 2).toList),.int .i64 ((Fp.cell 0).toInt),.int .i64 ((Fp.cell 1).toInt),.list aa ((Fp.cell 2).toList)]).bind fun kb=>
   bif !(decide ((((V.nth kb 0).toInt):Int)<0)) then
   kr (j',ak)
   else
   bif (decide (0≤(IntKind.wrap .i64 (j'-1))))&&(decide ((IntKind.wrap .i64 (j'-1))<(ak.length:Int))) then
    (ak[(IntKind.wrap .i64 (j'-1):Int).toNat]?).bind fun jC=>
    bif (decide (0≤j'))&&(decide (j'<(ak.length:Int))) then
    (ak[(j':Int).toNat]?).bind fun oB=>
    bif (decide (0≤j'))&&(decide (j'<(ak.length:Int))) then
     (ak[(j':Int).toNat]?).bind fun x25=>
     bif (decide (0≤(IntKind.wrap .i64 (j'-1))))&&(decide ((IntKind.wrap .i64 (j'-1))<((ak.set ((j':Int).toNat) (.agg [.int .i64 ((jC.cell 0).toInt),.int .i64 ((jC.cell 1).toInt),.list aa ((jC.cell 2).toList)])).length:Int))) then
     ((ak.set ((j':Int).toNat) (.agg [.int .i64 ((jC.cell 0).toInt),.int .i64 ((jC.cell 1).toInt),.list aa ((jC.cell 2).toList)]))[(IntKind.wrap .i64 (j'-1):Int).toNat]?).bind fun su=>
     kn (IntKind.wrap .i64 (j'+1),(ak.set ((j':Int).toNat) (.agg [.int .i64 ((jC.cell 0).toInt),.int .i64 ((jC.cell 1).toInt),.list aa ((jC.cell 2).toList)])).set ((IntKind.wrap .i64 (j'-1):Int).toNat) (.agg [.int .i64 ((oB.cell 0).toInt),.int .i64 ((oB.cell 1).toInt),.list aa ((oB.cell 2).toList)]))
     else none
    else none
    else none
   else none
  else none
  else none
 else
  kr (j',ak)
noncomputable def A7 (C:ag) (a b' i j:Int):(Int × (List V))→Option ((Int × (List V)) ⊕ (Int × (List V))):=un fun j' ak=>A6 C a b' i j j' ak (fun y=>some (.inl y)) (fun r=>some (.inr r))
noncomputable def A8 (C:ag) (a b' i j:Int) (ak:List V) {β:Type} (kn:(Int × Int × (List V))→Option β) (kr:((Bool × (List V)) ⊕ (Int × Int × Bool × (List V)))→Option β):Option β:=
 bif decide ((j:Int)<5) then
  (Loop (A3 C a b' j ak) i).bind (un fun (e8:Int) (pw:Bool)=>
   bif (e8:Int)==b' then
   kr (.inl (true,ak))
   else
   bif decide (((IntKind.wrap .i64 (b'-a)):Int)<50) then
    kr (.inl (false,ak))
   else
    bif (decide (0≤(IntKind.wrap .i64 (e8-1))))&&(decide ((IntKind.wrap .i64 (e8-1))<(ak.length:Int))) then
    (ak[(IntKind.wrap .i64 (e8-1):Int).toNat]?).bind fun x6=>
    bif (decide (0≤e8))&&(decide (e8<(ak.length:Int))) then
     (ak[(e8:Int).toNat]?).bind fun x7=>
     bif (decide (0≤e8))&&(decide (e8<(ak.length:Int))) then
     (ak[(e8:Int).toNat]?).bind fun x8=>
     bif (decide (0≤(IntKind.wrap .i64 (e8-1))))&&(decide ((IntKind.wrap .i64 (e8-1))<((ak.set ((e8:Int).toNat) (.agg [.int .i64 ((x6.cell 0).toInt),.int .i64 ((x6.cell 1).toInt),.list aa ((x6.cell 2).toList)])).length:Int))) then
      ((ak.set ((e8:Int).toNat) (.agg [.int .i64 ((x6.cell 0).toInt),.int .i64 ((x6.cell 1).toInt),.list aa ((x6.cell 2).toList)]))[(IntKind.wrap .i64 (e8-1):Int).toNat]?).bind fun x9=>
      Fq C a b' e8 j (decide (((IntKind.wrap .i64 (e8-a)):Int)≥2)) ((ak.set ((e8:Int).toNat) (.agg [.int .i64 ((x6.cell 0).toInt),.int .i64 ((x6.cell 1).toInt),.list aa ((x6.cell 2).toList)])).set ((IntKind.wrap .i64 (e8-1):Int).toNat) (.agg [.int .i64 ((x7.cell 0).toInt),.int .i64 ((x7.cell 1).toInt),.list aa ((x7.cell 2).toList)])) (fun (Sq:List V)=>
       bif decide (((IntKind.wrap .i64 (b'-e8)):Int)≥2) then
       (Loop (A7 C a b' e8 j) (IntKind.wrap .i64 (e8+1),Sq)).bind (un fun (aiJ:Int) (adR:List V)=>
        kn (e8,IntKind.wrap .i64 (j+1),adR))
       else
       kn (e8,IntKind.wrap .i64 (j+1),Sq))
     else none
     else none
    else none
    else none)
 else
  kr (.inr (i,j,decide ((j:Int)<5),ak))
noncomputable def sD (C:ag) (a b':Int):(Int × Int × (List V))→Option ((Int × Int × (List V)) ⊕ ((Bool × (List V)) ⊕ (Int × Int × Bool × (List V)))):=un fun i=>un fun j ak=>A8 C a b' i j ak (fun y=>some (.inl y)) (fun r=>some (.inr r))
noncomputable def Sr (C:ag):cD:=fun β n ds k=>
 bif Nat.beq n 81 then ca JI [false,false,true,false,false] [[1,2,0,4,0,5]] (@A1 C) ds k else
 bif Nat.beq n 225 then ca JJ [false,false,false,false,true,true] [[1,2,3,4,0,0]] (@A4 C) ds k else
 bif Nat.beq n 1055 then iJ JK [[1,2,3,4,0]] (@Fq C) ds k else
 bif Nat.beq n 321 then ca JL [false,false,false,false,true,true] [[1,2,3,4,0,0]] (@A6 C) ds k else
 bif Nat.beq n 49 then ca JM [false,false,true,true,true] [[0,0],[1,2,0,0,0,0]] (@A8 C) ds k else
 none
abbrev A9 (C:ag) (b:cA):Prop:=cB Try.prog ax C (Sr C) 116 (cQ Try.prog (ax.aZ 116)) (ax.sin 116).ba.length b
theorem adS (C:ag):A9 C (.loop (av [1,1,0,1,0,0,1,0,0,0,0,0] nw)):=
 cg JI [false,false,true,false,false] [[1,2,0,4,0,5]] (@A1 C) (by kernel_rfl) (bm (bs:=[]) (by kernel_rfl) aw) (fun ds=>by kernel_rfl) (fun i x=>by kernel_rfl) (fun i x β k=>by kernel_rfl) (fun β ds k=>by kernel_rfl)
theorem adT (C:ag):A9 C (.loop (av [1,1,0,1,0,0,1,0,0,1,1,1,1,0,1,0,1,0,0] nw)):=
 cg JJ [false,false,false,false,true,true] [[1,2,3,4,0,0]] (@A4 C) (by kernel_rfl) (bm (bs:=[]) (by kernel_rfl) aw) (fun ds=>by kernel_rfl) (fun i x=>by kernel_rfl) (fun i x β k=>by kernel_rfl) (fun β ds k=>by kernel_rfl)
theorem adU (C:ag):A9 C (.cond 65 (av [1,1,0,1,0,0,1,0,0,1,1,1,1,0,1,0] nw) (av [1,1,0,1,0,0,1,0,0,1,1,1,1,0,1,1] nw)):=
 jb JK [[1,2,3,4,0]] (@Fq C) (by kernel_rfl) (bm (bs:=[.loop (av [1,1,0,1,0,0,1,0,0,1,1,1,1,0,1,0,1,0,0] nw)]) (by kernel_rfl) (bD (adT C) aw)) (bm (bs:=[]) (by kernel_rfl) aw) (fun ds=>by kernel_rfl) (fun i β k=>by kernel_rfl) (fun β ds k=>by kernel_rfl)
theorem adV (C:ag):A9 C (.loop (av [1,1,0,1,0,0,1,0,0,1,1,1,1,1,1,0,1,0,0] nw)):=
 cg JL [false,false,false,false,true,true] [[1,2,3,4,0,0]] (@A6 C) (by kernel_rfl) (bm (bs:=[]) (by kernel_rfl) aw) (fun ds=>by kernel_rfl) (fun i x=>by kernel_rfl) (fun i x β k=>by kernel_rfl) (fun β ds k=>by kernel_rfl)
theorem adW (C:ag):A9 C (.loop (av [1,1,0,1,0,0] nw)):=
 cg JM [false,false,true,true,true] [[0,0],[1,2,0,0,0,0]] (@A8 C) (by kernel_rfl) (bm (bs:=[.loop (av [1,1,0,1,0,0,1,0,0,0,0,0] nw),.cond 65 (av [1,1,0,1,0,0,1,0,0,1,1,1,1,0,1,0] nw) (av [1,1,0,1,0,0,1,0,0,1,1,1,1,0,1,1] nw),.loop (av [1,1,0,1,0,0,1,0,0,1,1,1,1,1,1,0,1,0,0] nw)]) (by kernel_rfl) (bD (adS C) (bD (adU C) (bD (adV C) aw)))) (fun ds=>by kernel_rfl) (fun i x=>by kernel_rfl) (fun i x β k=>by kernel_rfl) (fun β ds k=>by kernel_rfl)
noncomputable def Ss (C:ag) (a b':Int) (ak:List V):Option (List V):=
 (Loop (sD C a b') (IntKind.wrap .i64 (a+1),0,ak)).bind (b9 (un fun (Kc:Bool) (adX:List V)=>
  some [.bool Kc,.list aa adX]) (un fun (aiK:Int)=>un fun (aiL:Int)=>un fun (Qt:Bool) (adY:List V)=>
  some [.bool false,.list aa adY]))
theorem adZ {a b':Int} {ak:List V} {r:Option (List V)} (h:Ss CC a b' ak=r):CC Ev [.int .i64 a,.int .i64 b',.list aa ak]=r:=
 bn (key:=116) (L:=Sr CC) (bs:=[.loop (av [1,1,0,1,0,0] nw)]) (by kernel_rfl) (bD (adW CC) aw) (bc (by kernel_rfl) h)
end Go.AM
set_option maxRecDepth 100000
set_option maxHeartbeats 4000000
namespace Go.AM.SX
open Go.Proofs Go.Sort
theorem xH (p:XE→Bool) (d:Array XE) (j i:Nat):scanUp p d j i=if i≤j then (if p d[i]! =true then scanUp p d j (i+1) else i) else i:=by
 conv=>lhs;rw[scanUp]
 by_cases h:i≤j
 ·rw[aj h];simp only[h,rf,mD]
 ·rw[ai h,ai (by simp[h])]
theorem KV (p:XE→Bool) (d:Array XE) (i j:Nat):scanDown p d i (j+1)=if i≤j+1 then (if p d[j+1]! =true then scanDown p d i j else j+1) else j+1:=by
 conv=>lhs;rw[scanDown]
 by_cases h:i≤j+1
 ·rw[aj h];simp only[h,rf,mD]
 ·rw[ai h,ai (by simp[h])]
theorem Fs (d:Array XE) (b i:Nat):scanSorted az d b i=if i<b then (if bQ d[i]! d[i-1]! <0 then i else scanSorted az d b (i+1)) else i:=by
 conv=>lhs;rw[scanSorted]
 by_cases h:i<b
 ·rw[aj h];simp only[h,rf,mD,qO]
  by_cases U:bQ d[i]! d[i-1]! <0
  ·rw[ai (pR U),aj U]
  ·rw[aj U,ai U]
 ·rw[ai h,ai (by simp[h])]
theorem Su (j:Nat) (d:Array XE):shiftDown az (j+1) d=if bQ d[j+1]! d[j]! <0 then shiftDown az j (swp d (j+1) j) else d:=by
 conv=>lhs;rw[shiftDown]
 simp only[qO]
 by_cases U:bQ d[j+1]! d[j]! <0
 ·rw[ai (pR U),aj U]
 ·rw[aj U,ai U]
theorem Ft (b j:Nat) (d:Array XE):shiftUp az b j d=if j<b then (if bQ d[j]! d[j-1]! <0 then shiftUp az b (j+1) (swp d j (j-1)) else d) else d:=by
 conv=>lhs;rw[shiftUp]
 simp only[qO]
 by_cases h:j<b
 ·rw[aj h,aj h]
  by_cases U:bQ d[j]! d[j-1]! <0
  ·rw[ai (pR U),aj U]
  ·rw[aj U,ai U]
 ·rw[ai h,ai h]
theorem ad0 {a:Nat}: ∀(n i j:Nat) (d:Array XE),j+1-i≤n→(partLoop az a i j d).2.size=d.size∧(partLoop az a i j d).1≤j:=by
 intro n
 induction n with
 | zero=>
  intro i j d hn
  have h1:=scanUp_ge (fun x=>az x d[a]!) d j i
  have U:=scanDown_le (fun x=> !az x d[a]!) d (scanUp (fun x=>az x d[a]!) d j i) j
  rw[partLoop_eq,aj (by omega)]
  exact ⟨rfl,U⟩
 | succ n ih=>
  intro i j d hn
  rw[partLoop_eq]
  have h1:=scanUp_ge (fun x=>az x d[a]!) d j i
  have U:=scanDown_le (fun x=> !az x d[a]!) d (scanUp (fun x=>az x d[a]!) d j i) j
  split
  ·exact ⟨rfl,U⟩
  ·obtain ⟨h3,h4⟩:=ih (scanUp (fun x=>az x d[a]!) d j i+1) (scanDown (fun x=> !az x d[a]!) d (scanUp (fun x=>az x d[a]!) d j i) j-1) (swp d (scanUp (fun x=>az x d[a]!) d j i) (scanDown (fun x=> !az x d[a]!) d (scanUp (fun x=>az x d[a]!) d j i) j)) (by omega)
   exact ⟨by rw[h3,size_swp],by omega⟩
theorem kf {β:Type} {d:Array XE} {i:Nat} {x y:Option β} (h:i<d.size):(bif (decide (0≤(i:Int)))&&(decide ((i:Int)<((eA d).length:Int))) then x else y)=x:=by
 rw[fG,cO,ay,aj (by omega),ay,aj (by omega)]
theorem Fu {β:Type} {d:Array XE} {i k:Nat} {v:V} {x y:Option β} (h:i<d.size):(bif (decide (0≤(i:Int)))&&(decide ((i:Int)<(((eA d).set k v).length:Int))) then x else y)=x:=by
 rw[nH,fG,cO,ay,aj (by omega),ay,aj (by omega)]
theorem kg {β:Type} {d:Array XE} {i:Nat} {f:V→Option β} (h:i<d.size):((eA d)[(i:Int).toNat]?).bind f=f (d[i]!).enc:=by
 rw[Int.toNat_natCast,fI h];rfl
theorem Fv {β:Type} {d:Array XE} {i k:Nat} {v:V} {x:Option β} (h:i<d.size):(((eA d).set k v)[(i:Int).toNat]?).bind (fun _=>x)=x:=by
 rw[Int.toNat_natCast,bB (by rw[nH,fG];exact h)];rfl
theorem qQ {β:Type} {d:Array XE} {i:Nat} {f:V→Option β} (h:i<d.size):((eA d)[i]?).bind f=f (d[i]!).enc:=by
 rw[fI h];rfl
theorem KW {β:Type} {d:Array XE} {i k:Nat} {v:V} {x:Option β} (h:i<d.size):(((eA d).set k v)[i]?).bind (fun _=>x)=x:=by
 rw[bB (by rw[nH,fG];exact h)];rfl
theorem ad1 {a j:Nat} {d:Array XE} (ha:a<d.size) (hj:j<d.size) (hs:d.size<1152921504606846976): ∀(n i:Nat),j+1-i=n→i≤d.size→
  ∃t,Loop (AT CC a j (eA d)) (i:Int)=some (((scanUp (fun x=>az x d[a]!) d j i:Nat):Int),t):=by
 intro n
 induction n with
 | zero=>
  intro i hn hi
  rw[xH,ai (by omega)]
  exact ⟨false,aX (by simp (disch:=omega) only[AT,AS,ay,ai])⟩
 | succ n ih=>
  intro i hn hi
  obtain ⟨t,h⟩:=ih (i+1) (by omega) (by omega)
  rw[xH,aj (by omega)]
  have e:AT CC a j (eA d) (i:Int)=if bQ d[i]! d[a]! <0 then some (.inl ((i+1:Nat):Int)) else some (.inr ((i:Int),decide (bQ d[i]! d[a]! <0))):=by
   simp (disch:=omega) only[AT,AS,ay,cO,gJ,aj,ai,wrap64,dB,fJ,Int.toNat_natCast,Option.bind_some,fG,fI,XE.a9,XE.bp,XE.bh,XE.re,fH,ic,gy,gq,V.aT,V.toInt_int,cond_true,cond_false]
  simp only[sC]
  by_cases U:bQ d[i]! d[a]! <0
  ·rw[aj U] at e
   rw[aj U]
   exact ⟨t,(bO e).trans h⟩
  ·rw[ai U] at e
   rw[ai U]
   exact ⟨_,aX e⟩
theorem Sv {a j:Nat} {d:Array XE} (ha:a<d.size) (hj:j<d.size) (hs:d.size<1152921504606846976): ∀(n i:Nat),j+1-i=n→i≤d.size→
  ∃t,Loop (AV CC a j (eA d)) (i:Int)=some (((scanUp (fun x=>az x d[a]!) d j i:Nat):Int),t):=by
 intro n
 induction n with
 | zero=>
  intro i hn hi
  rw[xH,ai (by omega)]
  exact ⟨false,aX (by simp (disch:=omega) only[AV,AU,ay,ai])⟩
 | succ n ih=>
  intro i hn hi
  obtain ⟨t,h⟩:=ih (i+1) (by omega) (by omega)
  rw[xH,aj (by omega)]
  have e:AV CC a j (eA d) (i:Int)=if bQ d[i]! d[a]! <0 then some (.inl ((i+1:Nat):Int)) else some (.inr ((i:Int),decide (bQ d[i]! d[a]! <0))):=by
   simp (disch:=omega) only[AV,AU,ay,cO,gJ,aj,ai,wrap64,dB,fJ,Int.toNat_natCast,Option.bind_some,fG,fI,XE.a9,XE.bp,XE.bh,XE.re,fH,ic,gy,gq,V.aT,V.toInt_int,cond_true,cond_false]
  simp only[sC]
  by_cases U:bQ d[i]! d[a]! <0
  ·rw[aj U] at e
   rw[aj U]
   exact ⟨t,(bO e).trans h⟩
  ·rw[ai U] at e
   rw[ai U]
   exact ⟨_,aX e⟩
theorem Sw {a i:Nat} {d:Array XE} (ha:a<d.size) (hi:1≤i) (hs:d.size<1152921504606846976): ∀(j:Nat),j<d.size→
  ∃t,Loop (xz CC a i (eA d)) (j:Int)=some (((scanDown (fun x=> !az x d[a]!) d i j:Nat):Int),t)
 | 0,hj=>⟨false,aX (by simp (disch:=omega) only[xz,xy,ay,ai];rfl)⟩
 | j+1,hj=>by
  obtain ⟨t,h⟩:=Sw ha hi hs j (by omega)
  rw[KV]
  by_cases h1:i≤j+1
  ·rw[aj h1]
   have e:xz CC a i (eA d) ((j+1:Nat):Int)=if bQ d[j+1]! d[a]! <0 then some (.inr (((j+1:Nat):Int),!decide (bQ d[j+1]! d[a]! <0))) else some (.inl (j:Int)):=by
    simp (disch:=omega) only[xz,xy,ay,cO,gJ,aj,ai,wrap64,dB,fJ,Int.toNat_natCast,Option.bind_some,fG,fI,XE.a9,XE.bp,XE.bh,XE.re,fH,ic,gy,gq,V.aT,V.toInt_int,cond_true,cond_false,uI]
   simp only[qO]
   by_cases U:bQ d[j+1]! d[a]! <0
   ·rw[aj U] at e
    rw[ai (pR U)]
    exact ⟨_,aX e⟩
   ·rw[ai U] at e
    rw[aj U]
    exact ⟨t,(bO e).trans h⟩
  ·rw[ai h1]
   exact ⟨false,aX (by simp (disch:=omega) only[xz,xy,ay,ai])⟩
theorem KX {a i:Nat} {d:Array XE} (ha:a<d.size) (hi:1≤i) (hs:d.size<1152921504606846976): ∀(j:Nat),j<d.size→
  ∃t,Loop (xB CC a i (eA d)) (j:Int)=some (((scanDown (fun x=> !az x d[a]!) d i j:Nat):Int),t)
 | 0,hj=>⟨false,aX (by simp (disch:=omega) only[xB,xA,ay,ai];rfl)⟩
 | j+1,hj=>by
  obtain ⟨t,h⟩:=KX ha hi hs j (by omega)
  rw[KV]
  by_cases h1:i≤j+1
  ·rw[aj h1]
   have e:xB CC a i (eA d) ((j+1:Nat):Int)=if bQ d[j+1]! d[a]! <0 then some (.inr (((j+1:Nat):Int),!decide (bQ d[j+1]! d[a]! <0))) else some (.inl (j:Int)):=by
    simp (disch:=omega) only[xB,xA,ay,cO,gJ,aj,ai,wrap64,dB,fJ,Int.toNat_natCast,Option.bind_some,fG,fI,XE.a9,XE.bp,XE.bh,XE.re,fH,ic,gy,gq,V.aT,V.toInt_int,cond_true,cond_false,uI]
   simp only[qO]
   by_cases U:bQ d[j+1]! d[a]! <0
   ·rw[aj U] at e
    rw[ai (pR U)]
    exact ⟨_,aX e⟩
   ·rw[ai U] at e
    rw[aj U]
    exact ⟨t,(bO e).trans h⟩
  ·rw[ai h1]
   exact ⟨false,aX (by simp (disch:=omega) only[xB,xA,ay,ai])⟩
theorem Sy {a j:Nat} {d:Array XE} (ha:a<d.size) (hj:j<d.size) (hs:d.size<1152921504606846976): ∀(n i:Nat),j+1-i=n→i≤d.size→
  ∃t,Loop (AZ CC a j (eA d)) (i:Int)=some (((scanUp (fun x=> !az d[a]! x) d j i:Nat):Int),t):=by
 intro n
 induction n with
 | zero=>
  intro i hn hi
  rw[xH,ai (by omega)]
  exact ⟨false,aX (by simp (disch:=omega) only[AZ,AY,ay,ai])⟩
 | succ n ih=>
  intro i hn hi
  obtain ⟨t,h⟩:=ih (i+1) (by omega) (by omega)
  rw[xH,aj (by omega)]
  have e:AZ CC a j (eA d) (i:Int)=if bQ d[a]! d[i]! <0 then some (.inr ((i:Int),!decide (bQ d[a]! d[i]! <0))) else some (.inl ((i+1:Nat):Int)):=by
   simp (disch:=omega) only[AZ,AY,ay,cO,gJ,aj,ai,wrap64,dB,fJ,Int.toNat_natCast,Option.bind_some,fG,fI,XE.a9,XE.bp,XE.bh,XE.re,fH,ic,gy,gq,V.aT,V.toInt_int,cond_true,cond_false]
  simp only[qO]
  by_cases U:bQ d[a]! d[i]! <0
  ·rw[aj U] at e
   rw[ai (pR U)]
   exact ⟨_,aX e⟩
  ·rw[ai U] at e
   rw[aj U]
   exact ⟨t,(bO e).trans h⟩
theorem KY {a i:Nat} {d:Array XE} (ha:a<d.size) (hi:1≤i) (hs:d.size<1152921504606846976): ∀(j:Nat),j<d.size→
  ∃t,Loop (xF CC a i (eA d)) (j:Int)=some (((scanDown (fun x=>az d[a]! x) d i j:Nat):Int),t)
 | 0,hj=>⟨false,aX (by simp (disch:=omega) only[xF,xE,ay,ai];rfl)⟩
 | j+1,hj=>by
  obtain ⟨t,h⟩:=KY ha hi hs j (by omega)
  rw[KV]
  by_cases h1:i≤j+1
  ·rw[aj h1]
   have e:xF CC a i (eA d) ((j+1:Nat):Int)=if bQ d[a]! d[j+1]! <0 then some (.inl (j:Int)) else some (.inr (((j+1:Nat):Int),decide (bQ d[a]! d[j+1]! <0))):=by
    simp (disch:=omega) only[xF,xE,ay,cO,gJ,aj,ai,wrap64,dB,fJ,Int.toNat_natCast,Option.bind_some,fG,fI,XE.a9,XE.bp,XE.bh,XE.re,fH,ic,gy,gq,V.aT,V.toInt_int,cond_true,cond_false,uI]
   simp only[sC]
   by_cases U:bQ d[a]! d[j+1]! <0
   ·rw[aj U] at e
    rw[aj U]
    exact ⟨t,(bO e).trans h⟩
   ·rw[ai U] at e
    rw[ai U]
    exact ⟨_,aX e⟩
  ·rw[ai h1]
   exact ⟨false,aX (by simp (disch:=omega) only[xF,xE,ay,ai])⟩
theorem ad2 {a:Nat}: ∀(n i j:Nat) (d:Array XE),j+1-i≤n→1≤i→i≤d.size→a<d.size→j<d.size→d.size<1152921504606846976→
  ∃x z,Loop (xC CC a) ((i:Int),(j:Int),eA d)=some (x,(((partLoop az a i j d).1:Nat):Int),z,eA (partLoop az a i j d).2):=by
 intro n
 induction n with
 | zero=>
  intro i j d hn h1 U ha hj hs
  obtain ⟨t3,e3⟩:=Sv (a:=a) ha hj hs _ i rfl U
  have g1:=scanUp_ge (fun x=>az x d[a]!) d j i
  have g2:=scanDown_le (fun x=> !az x d[a]!) d (scanUp (fun x=>az x d[a]!) d j i) j
  obtain ⟨t4,e4⟩:=KX (a:=a) (i:=scanUp (fun x=>az x d[a]!) d j i) ha (by omega) hs j hj
  rw[partLoop_eq,aj (by omega)]
  refine ⟨((scanUp (fun x=>az x d[a]!) d j i:Nat):Int),true,aX ?_⟩
  simp only[xC,AW,un]
  rw[e3]
  simp only[Option.bind_some,un]
  rw[e4]
  simp (disch:=omega) only[Option.bind_some,un,np,cond_true]
 | succ n ih=>
  intro i j d hn h1 U ha hj hs
  obtain ⟨t3,e3⟩:=Sv (a:=a) ha hj hs _ i rfl U
  have g1:=scanUp_ge (fun x=>az x d[a]!) d j i
  have g2:=scanDown_le (fun x=> !az x d[a]!) d (scanUp (fun x=>az x d[a]!) d j i) j
  obtain ⟨t4,e4⟩:=KX (a:=a) (i:=scanUp (fun x=>az x d[a]!) d j i) ha (by omega) hs j hj
  rw[partLoop_eq]
  have f:xC CC a ((i:Int),(j:Int),eA d)=xC CC a ((i:Int),(j:Int),eA d):=rfl
  conv at f=>rhs;simp only[xC,AW,un];rw[e3];simp only[Option.bind_some,un];rw[e4];simp only[Option.bind_some,un]
  generalize gF:scanUp (fun x=>az x d[a]!) d j i=i2 at*
  generalize fR:scanDown (fun x=> !az x d[a]!) d i2 j=j2 at*
  by_cases h:i2>j2
  ·rw[aj h]
   refine ⟨(i2:Int),true,aX (f.trans ?_)⟩
   simp (disch:=omega) only[Option.bind_some,np,cond_true]
  ·rw[ai h]
   obtain ⟨x,z,e⟩:=ih (i2+1) (j2-1) (swp d i2 j2) (by omega) (by omega) (by rw[size_swp];omega) (by rw[size_swp];omega) (by rw[size_swp];omega) (by rw[size_swp];omega)
   refine ⟨x,z,(bO (f.trans ?_)).trans e⟩
   simp (disch:=omega) only[ay,cO,gJ,aj,ai,wrap64,dB,fJ,Int.toNat_natCast,Option.bind_some,fG,fI,XE.a9,XE.bp,XE.bh,XE.re,fH,ic,gy,gq,V.aT,V.toInt_int,cond_true,cond_false,ka]
   rfl
theorem ad3 (d:Array XE) (a b pivot:Nat):partition az d a b pivot=
  if scanUp (fun x=>az x (swp d a pivot)[a]!) (swp d a pivot) (b-1) (a+1)>scanDown (fun x=> !az x (swp d a pivot)[a]!) (swp d a pivot) (scanUp (fun x=>az x (swp d a pivot)[a]!) (swp d a pivot) (b-1) (a+1)) (b-1) then
   (scanDown (fun x=> !az x (swp d a pivot)[a]!) (swp d a pivot) (scanUp (fun x=>az x (swp d a pivot)[a]!) (swp d a pivot) (b-1) (a+1)) (b-1),true,swp (swp d a pivot) (scanDown (fun x=> !az x (swp d a pivot)[a]!) (swp d a pivot) (scanUp (fun x=>az x (swp d a pivot)[a]!) (swp d a pivot) (b-1) (a+1)) (b-1)) a)
  else
   ((partLoop az a (scanUp (fun x=>az x (swp d a pivot)[a]!) (swp d a pivot) (b-1) (a+1)+1) (scanDown (fun x=> !az x (swp d a pivot)[a]!) (swp d a pivot) (scanUp (fun x=>az x (swp d a pivot)[a]!) (swp d a pivot) (b-1) (a+1)) (b-1)-1) (swp (swp d a pivot) (scanUp (fun x=>az x (swp d a pivot)[a]!) (swp d a pivot) (b-1) (a+1)) (scanDown (fun x=> !az x (swp d a pivot)[a]!) (swp d a pivot) (scanUp (fun x=>az x (swp d a pivot)[a]!) (swp d a pivot) (b-1) (a+1)) (b-1)))).1,false,
    swp (partLoop az a (scanUp (fun x=>az x (swp d a pivot)[a]!) (swp d a pivot) (b-1) (a+1)+1) (scanDown (fun x=> !az x (swp d a pivot)[a]!) (swp d a pivot) (scanUp (fun x=>az x (swp d a pivot)[a]!) (swp d a pivot) (b-1) (a+1)) (b-1)-1) (swp (swp d a pivot) (scanUp (fun x=>az x (swp d a pivot)[a]!) (swp d a pivot) (b-1) (a+1)) (scanDown (fun x=> !az x (swp d a pivot)[a]!) (swp d a pivot) (scanUp (fun x=>az x (swp d a pivot)[a]!) (swp d a pivot) (b-1) (a+1)) (b-1)))).2
    (partLoop az a (scanUp (fun x=>az x (swp d a pivot)[a]!) (swp d a pivot) (b-1) (a+1)+1) (scanDown (fun x=> !az x (swp d a pivot)[a]!) (swp d a pivot) (scanUp (fun x=>az x (swp d a pivot)[a]!) (swp d a pivot) (b-1) (a+1)) (b-1)-1) (swp (swp d a pivot) (scanUp (fun x=>az x (swp d a pivot)[a]!) (swp d a pivot) (b-1) (a+1)) (scanDown (fun x=> !az x (swp d a pivot)[a]!) (swp d a pivot) (scanUp (fun x=>az x (swp d a pivot)[a]!) (swp d a pivot) (b-1) (a+1)) (b-1)))).1 a):=rfl
theorem xI (d:Array XE) (i j:Nat):eA ((d.setIfInBounds i d[j]!).setIfInBounds j d[i]!)=eA (swp d i j):=rfl
theorem ad4 {a b pivot:Nat} {d:Array XE} (hp:pivot<b) (eW:a<b) (hb:b≤d.size) (hs:d.size<1152921504606846976):
  CC m9 [.int .i64 (a:Int),.int .i64 (b:Int),.int .i64 (pivot:Int),.list aa (eA d)]=
   some [.int .i64 ((partition az d a b pivot).1:Int),.bool (partition az d a b pivot).2.1,.list aa (eA (partition az d a b pivot).2.2)]:=by
 refine adJ ?_
 unfold Sn
 have z1:(swp d a pivot).size=d.size:=size_swp ..
 obtain ⟨t1,e1⟩:=ad1 (a:=a) (j:=b-1) (d:=swp d a pivot) (by omega) (by omega) (by omega) _ (a+1) rfl (by omega)
 have g1:=scanUp_ge (fun x=>az x (swp d a pivot)[a]!) (swp d a pivot) (b-1) (a+1)
 have g2:=scanDown_le (fun x=> !az x (swp d a pivot)[a]!) (swp d a pivot) (scanUp (fun x=>az x (swp d a pivot)[a]!) (swp d a pivot) (b-1) (a+1)) (b-1)
 obtain ⟨t2,e2⟩:=Sw (a:=a) (i:=scanUp (fun x=>az x (swp d a pivot)[a]!) (swp d a pivot) (b-1) (a+1)) (d:=swp d a pivot) (by omega) (by omega) (by omega) (b-1) (by omega)
 have e0:=ad3 d a b pivot
 rw[kf (i:=pivot) (by omega),kg (by omega),kf (i:=a) (by omega),kg (by omega),kf (i:=a) (by omega),kg (by omega),Fu (i:=pivot) (by omega),Fv (by omega)]
 simp only[XE.a9,XE.bp,XE.bh,XE.re,Int.toNat_natCast,fH,xI]
 simp (disch:=omega) only[ka,dB,wrap64]
 rw[e1]
 simp only[Option.bind_some,un]
 rw[e2]
 simp only[Option.bind_some,un]
 generalize gF:scanUp (fun x=>az x (swp d a pivot)[a]!) (swp d a pivot) (b-1) (a+1)=i2 at*
 generalize fR:scanDown (fun x=> !az x (swp d a pivot)[a]!) (swp d a pivot) i2 (b-1)=j2 at*
 generalize swp d a pivot=d1 at*
 by_cases h:i2>j2
 ·rw[aj h] at e0
  rw[e0,ay,aj (by omega)]
  rw[kf (i:=a) (by omega)];(first|rw[kg (by omega)]|rw[qQ (by omega)]);rw[kf (i:=j2) (by omega)];(first|rw[kg (by omega)]|rw[qQ (by omega)]);rw[kf (i:=j2) (by omega)];(first|rw[kg (by omega)]|rw[qQ (by omega)]);rw[Fu (i:=a) (by omega)];(first|rw[Fv (by omega)]|rw[KW (by omega)])
  simp only[XE.a9,XE.bp,XE.bh,XE.re,Int.toNat_natCast,fH,xI]
 ·rw[ai h] at e0
  rw[e0,ay,ai (by omega)]
  have z2:(swp d1 i2 j2).size=d1.size:=size_swp ..
  obtain ⟨x,z,e5⟩:=ad2 (a:=a) _ (i2+1) (j2-1) (swp d1 i2 j2) (bW _) (by omega) (by omega) (by omega) (by omega) (by omega)
  obtain ⟨q1,q2⟩:=ad0 (a:=a) _ (i2+1) (j2-1) (swp d1 i2 j2) (bW _)
  rw[kf (i:=j2) (by omega)];(first|rw[kg (by omega)]|rw[qQ (by omega)]);rw[kf (i:=i2) (by omega)];(first|rw[kg (by omega)]|rw[qQ (by omega)]);rw[kf (i:=i2) (by omega)];(first|rw[kg (by omega)]|rw[qQ (by omega)]);rw[Fu (i:=j2) (by omega)];(first|rw[Fv (by omega)]|rw[KW (by omega)])
  simp only[XE.a9,XE.bp,XE.bh,XE.re,Int.toNat_natCast,fH,xI]
  simp (disch:=omega) only[ka,dB,wrap64]
  rw[e5]
  generalize partLoop az a (i2+1) (j2-1) (swp d1 i2 j2)=r at*
  simp only[Option.bind_some,un]
  rw[kf (i:=a) (by omega)];(first|rw[kg (by omega)]|rw[qQ (by omega)]);rw[kf (i:=r.1) (by omega)];(first|rw[kg (by omega)]|rw[qQ (by omega)]);rw[kf (i:=r.1) (by omega)];(first|rw[kg (by omega)]|rw[qQ (by omega)]);rw[Fu (i:=a) (by omega)];(first|rw[Fv (by omega)]|rw[KW (by omega)])
  simp only[XE.a9,XE.bp,XE.bh,XE.re,Int.toNat_natCast,fH,xI]
theorem ad5 {a:Nat}: ∀(n i j:Nat) (d:Array XE),j+1-i≤n→1≤i→i≤d.size→a<d.size→j<d.size→d.size<1152921504606846976→
  ∃x z,Loop (xG CC a) ((i:Int),(j:Int),eA d)=some ((((partEqLoop az a i j d).1:Nat):Int),x,z,eA (partEqLoop az a i j d).2):=by
 intro n
 induction n with
 | zero=>
  intro i j d hn h1 U ha hj hs
  obtain ⟨t3,e3⟩:=Sy (a:=a) ha hj hs _ i rfl U
  have g1:=scanUp_ge (fun x=> !az d[a]! x) d j i
  have g2:=scanDown_le (fun x=>az d[a]! x) d (scanUp (fun x=> !az d[a]! x) d j i) j
  obtain ⟨t4,e4⟩:=KY (a:=a) (i:=scanUp (fun x=> !az d[a]! x) d j i) ha (by omega) hs j hj
  rw[partEqLoop_eq,aj (by omega)]
  refine ⟨((scanDown (fun x=>az d[a]! x) d (scanUp (fun x=> !az d[a]! x) d j i) j:Nat):Int),true,aX ?_⟩
  simp only[xG,A0,un]
  rw[e3]
  simp only[Option.bind_some,un]
  rw[e4]
  simp (disch:=omega) only[Option.bind_some,un,np,cond_true]
 | succ n ih=>
  intro i j d hn h1 U ha hj hs
  obtain ⟨t3,e3⟩:=Sy (a:=a) ha hj hs _ i rfl U
  have g1:=scanUp_ge (fun x=> !az d[a]! x) d j i
  have g2:=scanDown_le (fun x=>az d[a]! x) d (scanUp (fun x=> !az d[a]! x) d j i) j
  obtain ⟨t4,e4⟩:=KY (a:=a) (i:=scanUp (fun x=> !az d[a]! x) d j i) ha (by omega) hs j hj
  rw[partEqLoop_eq]
  have f:xG CC a ((i:Int),(j:Int),eA d)=xG CC a ((i:Int),(j:Int),eA d):=rfl
  conv at f=>rhs;simp only[xG,A0,un];rw[e3];simp only[Option.bind_some,un];rw[e4];simp only[Option.bind_some,un]
  generalize gF:scanUp (fun x=> !az d[a]! x) d j i=i2 at*
  generalize fR:scanDown (fun x=>az d[a]! x) d i2 j=j2 at*
  by_cases h:i2>j2
  ·rw[aj h]
   refine ⟨(j2:Int),true,aX (f.trans ?_)⟩
   simp (disch:=omega) only[Option.bind_some,np,cond_true]
  ·rw[ai h]
   obtain ⟨x,z,e⟩:=ih (i2+1) (j2-1) (swp d i2 j2) (by omega) (by omega) (by rw[size_swp];omega) (by rw[size_swp];omega) (by rw[size_swp];omega) (by rw[size_swp];omega)
   refine ⟨x,z,(bO (f.trans ?_)).trans e⟩
   simp (disch:=omega) only[ay,cO,gJ,aj,ai,wrap64,dB,fJ,Int.toNat_natCast,Option.bind_some,fG,fI,XE.a9,XE.bp,XE.bh,XE.re,fH,ic,gy,gq,V.aT,V.toInt_int,cond_true,cond_false,ka]
   rfl
theorem ad6 {a b pivot:Nat} {d:Array XE} (hp:pivot<b) (eW:a<b) (hb:b≤d.size) (hs:d.size<1152921504606846976):
  CC ue [.int .i64 (a:Int),.int .i64 (b:Int),.int .i64 (pivot:Int),.list aa (eA d)]=
   some [.int .i64 ((partitionEqual az d a b pivot).1:Int),.list aa (eA (partitionEqual az d a b pivot).2)]:=by
 refine adP ?_
 unfold Sp
 have z1:(swp d a pivot).size=d.size:=size_swp ..
 obtain ⟨x,z,e⟩:=ad5 (a:=a) _ (a+1) (b-1) (swp d a pivot) (bW _) (by omega) (by omega) (by omega) (by omega) (by omega)
 simp (disch:=omega) only[ay,cO,aj,fG,fI,Int.toNat_natCast,Option.bind_some,XE.a9,XE.bp,XE.bh,XE.re,fH,ic,gy,ka,dB,wrap64,xI]
 rw[e]
 rfl
theorem ad7 {a b j:Nat} {d:Array XE} (hb:b≤d.size) (hs:d.size<1152921504606846976): ∀(n i:Nat),b-i=n→1≤i→i≤b→
  ∃t,Loop (A3 CC a b j (eA d)) (i:Int)=some (((scanSorted az d b i:Nat):Int),t):=by
 intro n
 induction n with
 | zero=>
  intro i hn h1 hi
  rw[Fs,ai (by omega)]
  exact ⟨false,aX (by simp (disch:=omega) only[A3,A1,ay,ai])⟩
 | succ n ih=>
  intro i hn h1 hi
  obtain ⟨t,h⟩:=ih (i+1) (by omega) (by omega) (by omega)
  rw[Fs,aj (by omega)]
  have e:A3 CC a b j (eA d) (i:Int)=if bQ d[i]! d[i-1]! <0 then some (.inr ((i:Int),!decide (bQ d[i]! d[i-1]! <0))) else some (.inl ((i+1:Nat):Int)):=by
   simp (disch:=omega) only[A3,A1,ka,ay,cO,gJ,aj,ai,wrap64,dB,fJ,Int.toNat_natCast,Option.bind_some,fG,fI,XE.a9,XE.bp,XE.bh,XE.re,fH,ic,gy,gq,V.aT,V.toInt_int,cond_true,cond_false]
  by_cases U:bQ d[i]! d[i-1]! <0
  ·rw[aj U] at e⊢
   exact ⟨_,aX e⟩
  ·rw[ai U] at e⊢
   exact ⟨t,(bO e).trans h⟩
theorem Sz: ∀(j:Nat) (d:Array XE),(shiftDown az j d).size=d.size
 | 0,_=>rfl
 | j+1,d=>by
  rw[Su]
  split
  ·rw[Sz j,size_swp]
  ·rfl
theorem ad8 {b:Nat}: ∀(n j:Nat) (d:Array XE),b-j=n→(shiftUp az b j d).size=d.size:=by
 intro n
 induction n with
 | zero=>intro j d h;rw[Ft,ai (by omega)]
 | succ n ih=>
  intro j d h
  rw[Ft,aj (by omega)]
  split
  ·rw[ih _ _ (by omega),size_swp]
  ·rfl
theorem SA {a b i k:Nat}: ∀(j:Nat) (d:Array XE),j<d.size→d.size<1152921504606846976→
  ∃t,Loop (A5 CC a b i k) ((j:Int),eA d)=some (t,eA (shiftDown az j d))
 | 0,d,hj,hs=>⟨(0:Nat),aX (by
   simp (disch:=omega) only[A5,A4,un,ay,ai]
   rfl)⟩
 | j+1,d,hj,hs=>by
  obtain ⟨t,ih⟩:=SA (a:=a) (b:=b) (i:=i) (k:=k) j (swp d (j+1) j) (by rw[size_swp];omega) (by rw[size_swp];omega)
  rw[Su]
  have e:A5 CC a b i k (((j+1:Nat):Int),eA d)=if bQ d[j+1]! d[j]! <0 then some (.inl ((j:Int),eA (swp d (j+1) j))) else some (.inr (((j+1:Nat):Int),eA d)):=by
   simp (disch:=omega) only[A5,A4,un,ay,cO,gJ,aj,ai,wrap64,dB,fJ,Int.toNat_natCast,Option.bind_some,fG,fI,XE.a9,XE.bp,XE.bh,XE.re,fH,ic,gy,gq,V.aT,V.toInt_int,cond_true,cond_false,uI]
   rfl
  by_cases U:bQ d[j+1]! d[j]! <0
  ·rw[aj U] at e⊢
   exact ⟨t,(bO e).trans ih⟩
  ·rw[ai U] at e⊢
   exact ⟨_,aX e⟩
theorem ad9 {a b i k:Nat}: ∀(n j:Nat) (d:Array XE),b-j=n→1≤j→j≤b→b≤d.size→d.size<1152921504606846976→
  ∃t,Loop (A7 CC a b i k) ((j:Int),eA d)=some (t,eA (shiftUp az b j d)):=by
 intro n
 induction n with
 | zero=>
  intro j d hn h1 hj hb hs
  rw[Ft,ai (by omega)]
  exact ⟨(j:Int),aX (by
   simp (disch:=omega) only[A7,A6,un,ay,ai])⟩
 | succ n ih=>
  intro j d hn h1 hj hb hs
  obtain ⟨t,h⟩:=ih (j+1) (swp d j (j-1)) (by omega) (by omega) (by omega) (by rw[size_swp];omega) (by rw[size_swp];omega)
  rw[Ft,aj (by omega)]
  have e:A7 CC a b i k ((j:Int),eA d)=if bQ d[j]! d[j-1]! <0 then some (.inl (((j+1:Nat):Int),eA (swp d j (j-1)))) else some (.inr ((j:Int),eA d)):=by
   simp (disch:=omega) only[A7,A6,un,ka,ay,cO,gJ,aj,ai,wrap64,dB,fJ,Int.toNat_natCast,Option.bind_some,fG,fI,XE.a9,XE.bp,XE.bh,XE.re,fH,ic,gy,gq,V.aT,V.toInt_int,cond_true,cond_false]
   rfl
  by_cases U:bQ d[j]! d[j-1]! <0
  ·rw[aj U] at e⊢
   exact ⟨t,(bO e).trans h⟩
  ·rw[ai U] at e⊢
   exact ⟨_,aX e⟩
theorem aea {d:Array XE} {b:Nat}: ∀(n i:Nat),b-i=n→i≤b→i≤scanSorted az d b i∧scanSorted az d b i≤b:=by
 intro n
 induction n with
 | zero=>intro i hn hi;rw[Fs,ai (by omega)];omega
 | succ n ih=>
  intro i hn hi
  rw[Fs,aj (by omega)]
  obtain ⟨h1,U⟩:=ih (i+1) (by omega) (by omega)
  split<;>omega
theorem aeb {a b:Nat}: ∀(s i:Nat) (d:Array XE),s≤5→a<i→i≤b→b≤d.size→d.size<1152921504606846976→
  (Loop (sD CC a b) ((i:Int),((5-s:Nat):Int),eA d)=some (.inl ((partialIns az a b s i d).2,eA (partialIns az a b s i d).1)))∨
  (∃x y z,(partialIns az a b s i d).2=false∧Loop (sD CC a b) ((i:Int),((5-s:Nat):Int),eA d)=some (.inr (x,y,z,eA (partialIns az a b s i d).1))):=by
 intro s
 induction s with
 | zero=>
  intro i d hs5 hi KZ hb hs
  refine .inr ⟨(i:Int),((5:Nat):Int),false,rfl,aX ?_⟩
  simp (disch:=omega) only[sD,A8,un,sA,cond_false]
  rfl
 | succ s ih=>
  intro i d hs5 hi KZ hb hs
  obtain ⟨t1,e1⟩:=ad7 (a:=a) (j:=5-(s+1)) hb hs _ i rfl (by omega) KZ
  obtain ⟨q1,q2⟩:=aea (d:=d) _ i rfl KZ
  rw[partialIns_succ]
  have f:sD CC a b ((i:Int),((5-(s+1):Nat):Int),eA d)=sD CC a b ((i:Int),((5-(s+1):Nat):Int),eA d):=rfl
  conv at f=>rhs;simp only[sD,A8,un];rw[ay,aj (by omega),e1];simp only[Option.bind_some,un]
  generalize scanSorted az d b i=k at*
  by_cases h1:k=b
  ·rw[aj h1]
   left
   refine aX (f.trans ?_)
   rw[c9,aj (by omega)]
  ·rw[ai h1]
   by_cases U:b-a<50
   ·rw[aj U]
    left
    refine aX (f.trans ?_)
    rw[c9,ai (by omega),wrap64 (by omega) (by omega),ay,aj (by omega)]
   ·rw[ai U]
    have z1:(swp d k (k-1)).size=d.size:=size_swp ..
    have z2:(fixDown az a k (swp d k (k-1))).size=d.size:=by
     unfold fixDown
     split
     ·rw[Sz,z1]
     ·exact z1
    have z3:(fixUp az b k (fixDown az a k (swp d k (k-1)))).size=d.size:=by
     unfold fixUp
     split
     ·rw[ad8 _ _ _ rfl,z2]
     ·exact z2
    obtain ⟨t2,e2⟩:=SA (a:=a) (b:=b) (i:=k) (k:=5-(s+1)) (k-1) (swp d k (k-1)) (by omega) (by omega)
    obtain ⟨t4,e4⟩:=ad9 (a:=a) (b:=b) (i:=k) (k:=5-(s+1)) _ (k+1) (fixDown az a k (swp d k (k-1))) rfl (by omega) (by omega) (by omega) (by omega)
    have e5:sD CC a b ((i:Int),((5-(s+1):Nat):Int),eA d)=some (.inl ((k:Int),((5-s:Nat):Int),eA (fixUp az b k (fixDown az a k (swp d k (k-1)))))):=by
     refine f.trans ?_
     rw[c9,ai (by omega),wrap64 (by omega) (by omega),ay,ai (by omega)]
     simp (disch:=omega) only[ay,cO,aj,fG,fI,Int.toNat_natCast,Option.bind_some,XE.a9,XE.bp,XE.bh,XE.re,fH,ic,gy,ka,dB,mn,wrap64,xI,Fq]
     rw[show 5-(s+1)+1=5-s by omega]
     unfold fixDown at e4⊢
     unfold fixUp
     have c1:(((k-a:Nat):Int)≥2)=(k-a≥2):=propext (by omega)
     have c2:(((b-k:Nat):Int)≥2)=(b-k≥2):=propext (by omega)
     simp only[c1,c2]
     by_cases g1:k-a≥2
     ·by_cases g2:b-k≥2
      ·simp only[g1,g2,cE,e2,Option.bind_some,un] at e4⊢
       rw[e4]
       rfl
      ·simp only[g1,g2,cE,fa,e2,Option.bind_some,un]
     ·by_cases g2:b-k≥2
      ·simp only[g1,g2,cE,fa] at e4⊢
       rw[e4]
       rfl
      ·exact absurd (show b-k≥2 by omega) g2
    rw[bO e5]
    exact ih k _ (by omega) (by omega) (by omega) (by omega) (by omega)
theorem SB {a b:Nat} {d:Array XE} (eW:a<b) (hb:b≤d.size) (hs:d.size<1152921504606846976):
  CC Ev [.int .i64 (a:Int),.int .i64 (b:Int),.list aa (eA d)]=
   some [.bool (partialInsertionSort az d a b).2,.list aa (eA (partialInsertionSort az d a b).1)]:=by
 refine adZ ?_
 unfold Ss
 simp (disch:=omega) only[dB,wrap64]
 rcases aeb (a:=a) (b:=b) 5 (a+1) d (bW _) (by omega) (by omega) hb hs with h|⟨x,y,z,h0,h⟩
 ·rw[show ((5-5:Nat):Int)=0 from rfl] at h
  rw[h]
  rfl
 ·rw[show ((5-5:Nat):Int)=0 from rfl] at h
  rw[h]
  unfold partialInsertionSort
  rw[h0]
  rfl
end Go.AM.SX
set_option maxRecDepth 100000
namespace Go.AM
open Go.Proofs
noncomputable abbrev sE:Code:=cL Try.prog (ax.aZ 114)
noncomputable def Ba (C:ag) (data:List V) (i j k':Int) (t36:Bool) (gO:Int) {β:Type} (kr:(Int × Int × Int × Int)→Option β):Option β:=
 bif t36 then
  (C wL [.list aa data,.int .i64 i,.int .i64 gO]).bind fun r1=>
  (C wL [.list aa data,.int .i64 j,.int .i64 ((V.nth (r1.drop 1) 0).toInt)]).bind fun r2=>
  (C wL [.list aa data,.int .i64 k',.int .i64 ((V.nth (r2.drop 1) 0).toInt)]).bind fun r3=>
  kr ((V.nth r1 0).toInt,(V.nth r2 0).toInt,(V.nth r3 0).toInt,(V.nth (r3.drop 1) 0).toInt)
 else
  kr (i,j,k',gO)
noncomputable def Bb (C:ag) (data:List V) (l i j k':Int) (t34:Bool) (gO:Int) {β:Type} (kr:(Int × Int)→Option β):Option β:=
 bif t34 then
  Ba C data i j k' (decide ((l:Int)≥50)) gO (un fun (e8:Int)=>un fun (j_5:Int)=>un fun (k_6:Int) (aec:Int)=>
   (C Ac [.list aa data,.int .i64 e8,.int .i64 j_5,.int .i64 k_6,.int .i64 aec]).bind fun r8=>
   kr ((V.nth r8 0).toInt,(V.nth (r8.drop 1) 0).toInt))
 else
  kr (j,gO)
noncomputable def SC (C:ag):cD:=fun β n ds k=>
 bif Nat.beq n 591 then iJ JF [[1,0,0,0,0]] (@Ba C) ds k else
 bif Nat.beq n 559 then iJ JG [[0,0]] (@Bb C) ds k else
 none
abbrev SD (C:ag) (b:cA):Prop:=cB Try.prog ax C (SC C) 114 (cQ Try.prog (ax.aZ 114)) (ax.sin 114).ba.length b
theorem aed (C:ag):SD C (.cond 36 (av [1,1,1,1,1,1,0,1,0,0,1,0] sE) (av [1,1,1,1,1,1,0,1,0,0,1,1] sE)):=
 jb JF [[1,0,0,0,0]] (@Ba C) (by kernel_rfl) (bm (bs:=[]) (by kernel_rfl) aw) (bm (bs:=[]) (by kernel_rfl) aw) (fun ds=>by kernel_rfl) (fun i β k=>by kernel_rfl) (fun β ds k=>by kernel_rfl)
theorem aee (C:ag):SD C (.cond 34 (av [1,1,1,1,1,1,0,1,0] sE) (av [1,1,1,1,1,1,0,1,1] sE)):=
 jb JG [[0,0]] (@Bb C) (by kernel_rfl) (bm (bs:=[.cond 36 (av [1,1,1,1,1,1,0,1,0,0,1,0] sE) (av [1,1,1,1,1,1,0,1,0,0,1,1] sE)]) (by kernel_rfl) (bD (aed C) aw)) (bm (bs:=[]) (by kernel_rfl) aw) (fun ds=>by kernel_rfl) (fun i β k=>by kernel_rfl) (fun β ds k=>by kernel_rfl)
noncomputable def K0 (C:ag) (data:List V) (a b':Int):Option (List V):=
 Bb C data (IntKind.wrap .i64 (b'-a)) (IntKind.wrap .i64 (a+(IntKind.wrap .i64 (1*(IntKind.wrap .i64 (Int.tdiv (IntKind.wrap .i64 (b'-a)) 4)))))) (IntKind.wrap .i64 (a+(IntKind.wrap .i64 (2*(IntKind.wrap .i64 (Int.tdiv (IntKind.wrap .i64 (b'-a)) 4)))))) (IntKind.wrap .i64 (a+(IntKind.wrap .i64 (3*(IntKind.wrap .i64 (Int.tdiv (IntKind.wrap .i64 (b'-a)) 4)))))) (decide (((IntKind.wrap .i64 (b'-a)):Int)≥8)) 0 (un fun (K1:Int) (SE:Int)=>
  bif (SE:Int)==0 then
   some [.int .i64 K1,.int .i64 1]
  else
   bif (SE:Int)==12 then
   some [.int .i64 K1,.int .i64 2]
   else
   some [.int .i64 K1,.int .i64 0])
theorem SF {data:List V} {a b':Int} {r:Option (List V)} (h:K0 CC data a b'=r):CC Aa [.list aa data,.int .i64 a,.int .i64 b']=r:=
 bn (key:=114) (L:=SC CC) (bs:=[.cond 34 (av [1,1,1,1,1,1,0,1,0] sE) (av [1,1,1,1,1,1,0,1,1] sE)]) (by kernel_rfl) (bD (aee CC) aw) (bc (by kernel_rfl) h)
noncomputable def SG (C:ag) (data:List V) (a b' c gO:Int):Option (List V):=
 (C wM [.list aa data,.int .i64 a,.int .i64 b',.int .i64 gO]).bind fun r1=>
 (C wM [.list aa data,.int .i64 ((V.nth (r1.drop 1) 0).toInt),.int .i64 c,.int .i64 ((V.nth (r1.drop 2) 0).toInt)]).bind fun r2=>
 (C wM [.list aa data,.int .i64 ((V.nth r1 0).toInt),.int .i64 ((V.nth r2 0).toInt),.int .i64 ((V.nth (r2.drop 2) 0).toInt)]).bind fun r3=>
 some [.int .i64 ((V.nth (r3.drop 1) 0).toInt),.int .i64 ((V.nth (r3.drop 2) 0).toInt)]
theorem aef {data:List V} {a b' c gO:Int} {r:Option (List V)} (h:SG CC data a b' c gO=r):CC Ac [.list aa data,.int .i64 a,.int .i64 b',.int .i64 c,.int .i64 gO]=r:=
 bn (key:=125) (L:=cq) (bs:=[]) (by kernel_rfl) aw (bc (by kernel_rfl) h)
noncomputable def K2 (C:ag) (data:List V) (a b' gO:Int):Option (List V):=
 (idx data b').bind fun x1=>
 (idx data a).bind fun x2=>
 (C bf [.int .i64 ((x1.cell 0).toInt),.int .i64 ((x1.cell 1).toInt),.list aa ((x1.cell 2).toList),.int .i64 ((x2.cell 0).toInt),.int .i64 ((x2.cell 1).toInt),.list aa ((x2.cell 2).toList)]).bind fun r3=>
 bif decide ((((V.nth r3 0).toInt):Int)<0) then
  some [.int .i64 b',.int .i64 a,.int .i64 (IntKind.wrap .i64 (gO+1))]
 else
  some [.int .i64 a,.int .i64 b',.int .i64 gO]
theorem SH {data:List V} {a b' gO:Int} {r:Option (List V)} (h:K2 CC data a b' gO=r):CC wM [.list aa data,.int .i64 a,.int .i64 b',.int .i64 gO]=r:=
 bn (key:=126) (L:=cq) (bs:=[]) (by kernel_rfl) aw (bc (by kernel_rfl) h)
noncomputable def SI (C:ag) (data:List V) (a gO:Int):Option (List V):=
 (C Ac [.list aa data,.int .i64 (IntKind.wrap .i64 (a-1)),.int .i64 a,.int .i64 (IntKind.wrap .i64 (a+1)),.int .i64 gO]).bind fun r1=>
 some [.int .i64 ((V.nth r1 0).toInt),.int .i64 ((V.nth (r1.drop 1) 0).toInt)]
theorem aeg {data:List V} {a gO:Int} {r:Option (List V)} (h:SI CC data a gO=r):CC wL [.list aa data,.int .i64 a,.int .i64 gO]=r:=
 bn (key:=124) (L:=cq) (bs:=[]) (by kernel_rfl) aw (bc (by kernel_rfl) h)
noncomputable abbrev xJ:Code:=cL Try.prog (ax.aZ 113)
noncomputable def Fw (C:ag) (a length xK jF other:Int) (t45:Bool) (ak:List V) (Bc:Int) {β:Type} (kr:(Int)→Option β):Option β:=
 bif t45 then
  kr (IntKind.wrap .i64 (other-length))
 else
  kr other
noncomputable def Bd (C:ag) (a length xK jF:Int) (ak:List V) (Bc:Int) {β:Type} (kn:(Int × (List V) × Int)→Option β) (kr:(Int × Bool × (List V) × Int)→Option β):Option β:=
 bif decide ((jF:Int)≤(IntKind.wrap .i64 ((IntKind.wrap .i64 (a+(IntKind.wrap .i64 (2*(IntKind.wrap .i64 (Int.tdiv length 4))))))+1))) then
  (C Ez [.int .u64 Bc]).bind fun r2=>
  Fw C a length xK jF (IntKind.wrap .i64 (IntKind.wrap .u64 ((BitVec.ofInt (IntKind.bits .u64) ((V.nth r2 0).toInt)&&&BitVec.ofInt (IntKind.bits .u64) (IntKind.wrap .u64 (xK-1))).toNat))) (decide (((IntKind.wrap .i64 (IntKind.wrap .u64 ((BitVec.ofInt (IntKind.bits .u64) ((V.nth r2 0).toInt)&&&BitVec.ofInt (IntKind.bits .u64) (IntKind.wrap .u64 (xK-1))).toNat))):Int)≥length)) ak ((V.nth (r2.drop 1) 0).toInt) (fun (uO:Int)=>
   bif (decide (0≤(IntKind.wrap .i64 (a+uO))))&&(decide ((IntKind.wrap .i64 (a+uO))<(ak.length:Int))) then
   (ak[(IntKind.wrap .i64 (a+uO):Int).toNat]?).bind fun x4=>
   bif (decide (0≤jF))&&(decide (jF<(ak.length:Int))) then
    (ak[(jF:Int).toNat]?).bind fun x5=>
    bif (decide (0≤jF))&&(decide (jF<(ak.length:Int))) then
    (ak[(jF:Int).toNat]?).bind fun x6=>
    bif (decide (0≤(IntKind.wrap .i64 (a+uO))))&&(decide ((IntKind.wrap .i64 (a+uO))<((ak.set ((jF:Int).toNat) (.agg [.int .i64 ((x4.cell 0).toInt),.int .i64 ((x4.cell 1).toInt),.list aa ((x4.cell 2).toList)])).length:Int))) then
     ((ak.set ((jF:Int).toNat) (.agg [.int .i64 ((x4.cell 0).toInt),.int .i64 ((x4.cell 1).toInt),.list aa ((x4.cell 2).toList)]))[(IntKind.wrap .i64 (a+uO):Int).toNat]?).bind fun x7=>
     kn (IntKind.wrap .i64 (jF+1),(ak.set ((jF:Int).toNat) (.agg [.int .i64 ((x4.cell 0).toInt),.int .i64 ((x4.cell 1).toInt),.list aa ((x4.cell 2).toList)])).set ((IntKind.wrap .i64 (a+uO):Int).toNat) (.agg [.int .i64 ((x5.cell 0).toInt),.int .i64 ((x5.cell 1).toInt),.list aa ((x5.cell 2).toList)]),(V.nth (r2.drop 1) 0).toInt)
    else none
    else none
   else none
   else none)
 else
  kr (jF,decide ((jF:Int)≤(IntKind.wrap .i64 ((IntKind.wrap .i64 (a+(IntKind.wrap .i64 (2*(IntKind.wrap .i64 (Int.tdiv length 4))))))+1))),ak,Bc)
noncomputable def Fx (C:ag) (a length xK:Int):(Int × (List V) × Int)→Option ((Int × (List V) × Int) ⊕ (Int × Bool × (List V) × Int)):=un fun jF=>un fun ak Bc=>Bd C a length xK jF ak Bc (fun y=>some (.inl y)) (fun r=>some (.inr r))
noncomputable def SJ (C:ag):cD:=fun β n ds k=>
 bif Nat.beq n 735 then iJ JD [[1,2,3,4,0,7,8]] (@Fw C) ds k else
 bif Nat.beq n 81 then ca JE [false,false,false,true,true,true] [[1,2,3,0,0,0,0]] (@Bd C) ds k else
 none
abbrev SK (C:ag) (b:cA):Prop:=cB Try.prog ax C (SJ C) 113 (cQ Try.prog (ax.aZ 113)) (ax.sin 113).ba.length b
theorem aeh (C:ag):SK C (.cond 45 (av [1,1,0,1,1,1,0,0,1,0,0,1,0,1,0] xJ) (av [1,1,0,1,1,1,0,0,1,0,0,1,0,1,1] xJ)):=
 jb JD [[1,2,3,4,0,7,8]] (@Fw C) (by kernel_rfl) (bm (bs:=[]) (by kernel_rfl) aw) (bm (bs:=[]) (by kernel_rfl) aw) (fun ds=>by kernel_rfl) (fun i β k=>by kernel_rfl) (fun β ds k=>by kernel_rfl)
theorem aei (C:ag):SK C (.loop (av [1,1,0,1,1,1,0,0] xJ)):=
 cg JE [false,false,false,true,true,true] [[1,2,3,0,0,0,0]] (@Bd C) (by kernel_rfl) (bm (bs:=[.cond 45 (av [1,1,0,1,1,1,0,0,1,0,0,1,0,1,0] xJ) (av [1,1,0,1,1,1,0,0,1,0,0,1,0,1,1] xJ)]) (by kernel_rfl) (bD (aeh C) aw)) (fun ds=>by kernel_rfl) (fun i x=>by kernel_rfl) (fun i x β k=>by kernel_rfl) (fun β ds k=>by kernel_rfl)
noncomputable def SL (C:ag) (a b':Int) (ak:List V):Option (List V):=
 bif decide (((IntKind.wrap .i64 (b'-a)):Int)≥8) then
  (C Ey [.int .i64 (IntKind.wrap .i64 (b'-a))]).bind fun r1=>
  (Loop (Fx C a (IntKind.wrap .i64 (b'-a)) ((V.nth r1 0).toInt)) (IntKind.wrap .i64 ((IntKind.wrap .i64 (a+(IntKind.wrap .i64 (2*(IntKind.wrap .i64 (Int.tdiv (IntKind.wrap .i64 (b'-a)) 4))))))-1),ak,IntKind.wrap .u64 (IntKind.wrap .i64 (b'-a)))).bind (un fun (aiM:Int)=>un fun (se:Bool)=>un fun (oE:List V) (aiN:Int)=>
   some [.list aa oE])
 else
  some [.list aa ak]
theorem aej {a b':Int} {ak:List V} {r:Option (List V)} (h:SL CC a b' ak=r):CC Et [.int .i64 a,.int .i64 b',.list aa ak]=r:=
 bn (key:=113) (L:=SJ CC) (bs:=[.loop (av [1,1,0,1,1,1,0,0] xJ)]) (by kernel_rfl) (bD (aei CC) aw) (bc (by kernel_rfl) h)
noncomputable def SM (C:ag) (iN:Int):Option (List V):=
 some [.int .u64 (IntKind.wrap .u64 ((BitVec.ofInt (IntKind.bits .u64) (IntKind.wrap .u64 ((BitVec.ofInt (IntKind.bits .u64) (IntKind.wrap .u64 ((BitVec.ofInt (IntKind.bits .u64) iN ^^^ BitVec.ofInt (IntKind.bits .u64) (IntKind.wrap .u64 (iN*2^(min (13:Int).toNat (IntKind.bits .u64))))).toNat)) ^^^ BitVec.ofInt (IntKind.bits .u64) (Int.fdiv (IntKind.wrap .u64 ((BitVec.ofInt (IntKind.bits .u64) iN ^^^ BitVec.ofInt (IntKind.bits .u64) (IntKind.wrap .u64 (iN*2^(min (13:Int).toNat (IntKind.bits .u64))))).toNat)) (2^(min (7:Int).toNat (IntKind.bits .u64))))).toNat)) ^^^ BitVec.ofInt (IntKind.bits .u64) (IntKind.wrap .u64 ((IntKind.wrap .u64 ((BitVec.ofInt (IntKind.bits .u64) (IntKind.wrap .u64 ((BitVec.ofInt (IntKind.bits .u64) iN ^^^ BitVec.ofInt (IntKind.bits .u64) (IntKind.wrap .u64 (iN*2^(min (13:Int).toNat (IntKind.bits .u64))))).toNat)) ^^^ BitVec.ofInt (IntKind.bits .u64) (Int.fdiv (IntKind.wrap .u64 ((BitVec.ofInt (IntKind.bits .u64) iN ^^^ BitVec.ofInt (IntKind.bits .u64) (IntKind.wrap .u64 (iN*2^(min (13:Int).toNat (IntKind.bits .u64))))).toNat)) (2^(min (7:Int).toNat (IntKind.bits .u64))))).toNat))*2^(min (17:Int).toNat (IntKind.bits .u64))))).toNat)),.int .u64 (IntKind.wrap .u64 ((BitVec.ofInt (IntKind.bits .u64) (IntKind.wrap .u64 ((BitVec.ofInt (IntKind.bits .u64) (IntKind.wrap .u64 ((BitVec.ofInt (IntKind.bits .u64) iN ^^^ BitVec.ofInt (IntKind.bits .u64) (IntKind.wrap .u64 (iN*2^(min (13:Int).toNat (IntKind.bits .u64))))).toNat)) ^^^ BitVec.ofInt (IntKind.bits .u64) (Int.fdiv (IntKind.wrap .u64 ((BitVec.ofInt (IntKind.bits .u64) iN ^^^ BitVec.ofInt (IntKind.bits .u64) (IntKind.wrap .u64 (iN*2^(min (13:Int).toNat (IntKind.bits .u64))))).toNat)) (2^(min (7:Int).toNat (IntKind.bits .u64))))).toNat)) ^^^ BitVec.ofInt (IntKind.bits .u64) (IntKind.wrap .u64 ((IntKind.wrap .u64 ((BitVec.ofInt (IntKind.bits .u64) (IntKind.wrap .u64 ((BitVec.ofInt (IntKind.bits .u64) iN ^^^ BitVec.ofInt (IntKind.bits .u64) (IntKind.wrap .u64 (iN*2^(min (13:Int).toNat (IntKind.bits .u64))))).toNat)) ^^^ BitVec.ofInt (IntKind.bits .u64) (Int.fdiv (IntKind.wrap .u64 ((BitVec.ofInt (IntKind.bits .u64) iN ^^^ BitVec.ofInt (IntKind.bits .u64) (IntKind.wrap .u64 (iN*2^(min (13:Int).toNat (IntKind.bits .u64))))).toNat)) (2^(min (7:Int).toNat (IntKind.bits .u64))))).toNat))*2^(min (17:Int).toNat (IntKind.bits .u64))))).toNat))]
theorem aek {iN:Int} {r:Option (List V)} (h:SM CC iN=r):CC Ez [.int .u64 iN]=r:=
 bn (key:=123) (L:=cq) (bs:=[]) (by kernel_rfl) aw (bc (by kernel_rfl) h)
noncomputable def SN (C:ag) (length:Int):Option (List V):=
 (C z7 [.int .u64 (IntKind.wrap .u64 length)]).bind fun r1=>
 bif decide (0≤((V.nth r1 0).toInt)) then
  some [.int .u64 (IntKind.wrap .u64 (1*2^(min ((V.nth r1 0).toInt).toNat (IntKind.bits .u64))))]
 else none
theorem ael {length:Int} {r:Option (List V)} (h:SN CC length=r):CC Ey [.int .i64 length]=r:=
 bn (key:=122) (L:=cq) (bs:=[]) (by kernel_rfl) aw (bc (by kernel_rfl) h)
noncomputable def SO (C:ag) (x:Int):Option (List V):=
 (C Ew [.int .u64 x]).bind fun r1=>
 some [.int .i64 ((V.nth r1 0).toInt)]
theorem aem {x:Int} {r:Option (List V)} (h:SO CC x=r):CC z7 [.int .u64 x]=r:=
 bn (key:=110) (L:=cq) (bs:=[]) (by kernel_rfl) aw (bc (by kernel_rfl) h)
noncomputable abbrev sF:Code:=cL Try.prog (ax.aZ 120)
noncomputable def uP (C:ag) (x n:Int) (t4:Bool) {β:Type} (kr:(Int × Int)→Option β):Option β:=
 bif t4 then
  kr (Int.fdiv x (2^(min (32:Int).toNat (IntKind.bits .u64))),32)
 else
  kr (x,n)
noncomputable def uQ (C:ag) (x n:Int) (t8:Bool) {β:Type} (kr:(Int × Int)→Option β):Option β:=
 bif t8 then
  kr (Int.fdiv x (2^(min (16:Int).toNat (IntKind.bits .u64))),IntKind.wrap .i64 (n+16))
 else
  kr (x,n)
noncomputable def SP (C:ag):cD:=fun β n ds k=>
 bif Nat.beq n 79 then iJ JV [[0,0]] (@uP C) ds k else
 bif Nat.beq n 143 then iJ JW [[0,0]] (@uQ C) ds k else
 none
abbrev SQ (C:ag) (b:cA):Prop:=cB Try.prog ax C (SP C) 120 (cQ Try.prog (ax.aZ 120)) (ax.sin 120).ba.length b
theorem aen (C:ag):SQ C (.cond 4 (av [1,0,1,0] sF) (av [1,0,1,1] sF)):=
 jb JV [[0,0]] (@uP C) (by kernel_rfl) (bm (bs:=[]) (by kernel_rfl) aw) (bm (bs:=[]) (by kernel_rfl) aw) (fun ds=>by kernel_rfl) (fun i β k=>by kernel_rfl) (fun β ds k=>by kernel_rfl)
theorem aeo (C:ag):SQ C (.cond 8 (av [1,1,0,1,0] sF) (av [1,1,0,1,1] sF)):=
 jb JW [[0,0]] (@uQ C) (by kernel_rfl) (bm (bs:=[]) (by kernel_rfl) aw) (bm (bs:=[]) (by kernel_rfl) aw) (fun ds=>by kernel_rfl) (fun i β k=>by kernel_rfl) (fun β ds k=>by kernel_rfl)
noncomputable def aep (C:ag) (x:Int):Option (List V):=
 uP C x 0 (decide ((x:Int)≥4294967296)) (un fun (hZ:Int) (Be:Int)=>
  uQ C hZ Be (decide ((hZ:Int)≥65536)) (un fun (Bf:Int) (SR:Int)=>
   bif decide ((Bf:Int)≥256) then
    (bif decide (0≤(IntKind.wrap .u8 (Int.fdiv Bf (2^(min (8:Int).toNat (IntKind.bits .u64)))))) then (([0,1,2,2,3,3,3,3,4,4,4,4,4,4,4,4,5,5,5,5,5,5,5,5,5,5,5,5,5,5,5,5,6,6,6,6,6,6,6,6,6,6,6,6,6,6,6,6,6,6,6,6,6,6,6,6,6,6,6,6,6,6,6,6,7,7,7,7,7,7,7,7,7,7,7,7,7,7,7,7,7,7,7,7,7,7,7,7,7,7,7,7,7,7,7,7,7,7,7,7,7,7,7,7,7,7,7,7,7,7,7,7,7,7,7,7,7,7,7,7,7,7,7,7,7,7,7,7,8,8,8,8,8,8,8,8,8,8,8,8,8,8,8,8,8,8,8,8,8,8,8,8,8,8,8,8,8,8,8,8,8,8,8,8,8,8,8,8,8,8,8,8,8,8,8,8,8,8,8,8,8,8,8,8,8,8,8,8,8,8,8,8,8,8,8,8,8,8,8,8,8,8,8,8,8,8,8,8,8,8,8,8,8,8,8,8,8,8,8,8,8,8,8,8,8,8,8,8,8,8,8,8,8,8,8,8,8,8,8,8,8,8,8,8,8,8,8,8,8,8,8,8,8,8,8,8]:List UInt8)[(IntKind.wrap .u8 (Int.fdiv Bf (2^(min (8:Int).toNat (IntKind.bits .u64)))):Int).toNat]?).map fun b=>V.int .u8 b.toNat else none).bind fun x5=>
    some [.int .i64 (IntKind.wrap .i64 ((IntKind.wrap .i64 (SR+8))+(IntKind.wrap .i64 x5.toInt)))]
   else
    (bif decide (0≤(IntKind.wrap .u8 Bf)) then (([0,1,2,2,3,3,3,3,4,4,4,4,4,4,4,4,5,5,5,5,5,5,5,5,5,5,5,5,5,5,5,5,6,6,6,6,6,6,6,6,6,6,6,6,6,6,6,6,6,6,6,6,6,6,6,6,6,6,6,6,6,6,6,6,7,7,7,7,7,7,7,7,7,7,7,7,7,7,7,7,7,7,7,7,7,7,7,7,7,7,7,7,7,7,7,7,7,7,7,7,7,7,7,7,7,7,7,7,7,7,7,7,7,7,7,7,7,7,7,7,7,7,7,7,7,7,7,7,8,8,8,8,8,8,8,8,8,8,8,8,8,8,8,8,8,8,8,8,8,8,8,8,8,8,8,8,8,8,8,8,8,8,8,8,8,8,8,8,8,8,8,8,8,8,8,8,8,8,8,8,8,8,8,8,8,8,8,8,8,8,8,8,8,8,8,8,8,8,8,8,8,8,8,8,8,8,8,8,8,8,8,8,8,8,8,8,8,8,8,8,8,8,8,8,8,8,8,8,8,8,8,8,8,8,8,8,8,8,8,8,8,8,8,8,8,8,8,8,8,8,8,8,8,8,8,8]:List UInt8)[(IntKind.wrap .u8 Bf:Int).toNat]?).map fun b=>V.int .u8 b.toNat else none).bind fun x6=>
    some [.int .i64 (IntKind.wrap .i64 (SR+(IntKind.wrap .i64 x6.toInt)))]))
theorem SS {x:Int} {r:Option (List V)} (h:aep CC x=r):CC Ew [.int .u64 x]=r:=
 bn (key:=120) (L:=SP CC) (bs:=[.cond 4 (av [1,0,1,0] sF) (av [1,0,1,1] sF),.cond 8 (av [1,1,0,1,0] sF) (av [1,1,0,1,1] sF)]) (by kernel_rfl) (bD (aen CC) (bD (aeo CC) aw)) (bc (by kernel_rfl) h)
noncomputable abbrev lE:Code:=cL Try.prog (ax.aZ 109)
noncomputable def xL (C:ag) (a b' je:Int) (eB eR:Bool) (length:Int) (t39:Bool) (ak:List V) {β:Type} (kr:(Int × (List V))→Option β):Option β:=
 bif t39 then
  (C Et [.int .i64 a,.int .i64 b',.list aa ak]).bind fun r3=>
  kr (IntKind.wrap .i64 (je-1),(V.nth r3 0).toList)
 else
  kr (je,ak)
noncomputable def xM (C:ag) (a b' je:Int) (eB eR:Bool) (length pivot hint:Int) (t56:Bool) (ak:List V) {β:Type} (kr:(Int × Int × (List V))→Option β):Option β:=
 bif t56 then
  (C Eu [.int .i64 a,.int .i64 b',.list aa ak]).bind fun r7=>
  kr (IntKind.wrap .i64 ((IntKind.wrap .i64 (b'-1))-(IntKind.wrap .i64 (pivot-a))),1,(V.nth r7 0).toList)
 else
  kr (pivot,hint,ak)
noncomputable def mr (C:ag) (a b' je:Int) (eB eR:Bool) (length pivot:Int) (t75:Bool) (ak:List V) {β:Type} (kr:((Bool × (List V)) ⊕ (List V))→Option β):Option β:=
 bif t75 then
  (C Ev [.int .i64 a,.int .i64 b',.list aa ak]).bind fun eH=>
  bif (V.nth eH 0).toBool then
  kr (.inl ((V.nth eH 0).toBool,(V.nth (eH.drop 1) 0).toList))
  else
  kr (.inr ((V.nth (eH.drop 1) 0).toList))
 else
  kr (.inr ak)
noncomputable def pF (C:ag) (a b' je:Int) (eB eR:Bool) (ak:List V) {β:Type} (kn:(Int × Int × Int × Bool × Bool × (List V))→Option β) (kr:(List V)→Option β):Option β:=
 bif decide (((IntKind.wrap .i64 (b'-a)):Int)≤12) then
  (C z8 [.int .i64 a,.int .i64 b',.list aa ak]).bind fun r1=>
  kr ((V.nth r1 0).toList)
 else
  bif (je:Int)==0 then
  (C z9 [.int .i64 a,.int .i64 b',.list aa ak]).bind fun r2=>
  kr ((V.nth r2 0).toList)
  else
  xL C a b' je eB eR (IntKind.wrap .i64 (b'-a)) (!eB) ak (un fun (cC:Int) (Bg:List V)=>
   (C Aa [.list aa Bg,.int .i64 a,.int .i64 b']).bind fun r6=>
   xM C a b' cC eB eR (IntKind.wrap .i64 (b'-a)) ((V.nth r6 0).toInt) ((V.nth (r6.drop 1) 0).toInt) ((((V.nth (r6.drop 1) 0).toInt):Int)==2) Bg (un fun (dC:Int)=>un fun (K3:Int) (oE:List V)=>
    bif eB then
     bif eR then
     mr C a b' cC eB eR (IntKind.wrap .i64 (b'-a)) dC ((K3:Int)==1) oE (b9 (un fun (J7:Bool) (KR:List V)=>
      kr KR) (fun (uR:List V)=>
      bif decide ((a:Int)>0) then
       bif (decide (0≤(IntKind.wrap .i64 (a-1))))&&(decide ((IntKind.wrap .i64 (a-1))<(uR.length:Int))) then
       (uR[(IntKind.wrap .i64 (a-1):Int).toNat]?).bind fun fK=>
       bif (decide (0≤dC))&&(decide (dC<(uR.length:Int))) then
        (uR[(dC:Int).toNat]?).bind fun e7=>
        (C bf [.int .i64 ((fK.cell 0).toInt),.int .i64 ((fK.cell 1).toInt),.list aa ((fK.cell 2).toList),.int .i64 ((e7.cell 0).toInt),.int .i64 ((e7.cell 1).toInt),.list aa ((e7.cell 2).toList)]).bind fun dA=>
        bif !(decide ((((V.nth dA 0).toInt):Int)<0)) then
        (C ue [.int .i64 a,.int .i64 b',.int .i64 dC,.list aa uR]).bind fun jG=>
        kn ((V.nth jG 0).toInt,b',cC,eB,eR,(V.nth (jG.drop 1) 0).toList)
        else
        (C m9 [.int .i64 a,.int .i64 b',.int .i64 dC,.list aa uR]).bind fun ef=>
        bif decide (((IntKind.wrap .i64 (((V.nth ef 0).toInt)-a)):Int)<(IntKind.wrap .i64 (b'-((V.nth ef 0).toInt)))) then
         (C gm [.int .i64 a,.int .i64 ((V.nth ef 0).toInt),.int .i64 cC,.list aa ((V.nth (ef.drop 2) 0).toList)]).bind fun ia=>
         kn (IntKind.wrap .i64 (((V.nth ef 0).toInt)+1),b',cC,decide (((IntKind.wrap .i64 (((V.nth ef 0).toInt)-a)):Int)≥(IntKind.wrap .i64 (Int.tdiv (IntKind.wrap .i64 (b'-a)) 8))),(V.nth (ef.drop 1) 0).toBool,(V.nth ia 0).toList)
        else
         (C gm [.int .i64 (IntKind.wrap .i64 (((V.nth ef 0).toInt)+1)),.int .i64 b',.int .i64 cC,.list aa ((V.nth (ef.drop 2) 0).toList)]).bind fun oH=>
         kn (a,(V.nth ef 0).toInt,cC,decide (((IntKind.wrap .i64 (b'-((V.nth ef 0).toInt))):Int)≥(IntKind.wrap .i64 (Int.tdiv (IntKind.wrap .i64 (b'-a)) 8))),(V.nth (ef.drop 1) 0).toBool,(V.nth oH 0).toList)
       else none
       else none
      else
       (C m9 [.int .i64 a,.int .i64 b',.int .i64 dC,.list aa uR]).bind fun kb=>
       bif decide (((IntKind.wrap .i64 (((V.nth kb 0).toInt)-a)):Int)<(IntKind.wrap .i64 (b'-((V.nth kb 0).toInt)))) then
       (C gm [.int .i64 a,.int .i64 ((V.nth kb 0).toInt),.int .i64 cC,.list aa ((V.nth (kb.drop 2) 0).toList)]).bind fun r23=>
       kn (IntKind.wrap .i64 (((V.nth kb 0).toInt)+1),b',cC,decide (((IntKind.wrap .i64 (((V.nth kb 0).toInt)-a)):Int)≥(IntKind.wrap .i64 (Int.tdiv (IntKind.wrap .i64 (b'-a)) 8))),(V.nth (kb.drop 1) 0).toBool,(V.nth r23 0).toList)
       else
       (C gm [.int .i64 (IntKind.wrap .i64 (((V.nth kb 0).toInt)+1)),.int .i64 b',.int .i64 cC,.list aa ((V.nth (kb.drop 2) 0).toList)]).bind fun Ku=>
       kn (a,(V.nth kb 0).toInt,cC,decide (((IntKind.wrap .i64 (b'-((V.nth kb 0).toInt))):Int)≥(IntKind.wrap .i64 (Int.tdiv (IntKind.wrap .i64 (b'-a)) 8))),(V.nth (kb.drop 1) 0).toBool,(V.nth Ku 0).toList)))
     else
     mr C a b' cC eB eR (IntKind.wrap .i64 (b'-a)) dC false oE (b9 (un fun (ZF:Bool) (aeq:List V)=>
      kr aeq) (fun (qN:List V)=>
      bif decide ((a:Int)>0) then
       bif (decide (0≤(IntKind.wrap .i64 (a-1))))&&(decide ((IntKind.wrap .i64 (a-1))<(qN.length:Int))) then
       (qN[(IntKind.wrap .i64 (a-1):Int).toNat]?).bind fun uK=>
       bif (decide (0≤dC))&&(decide (dC<(qN.length:Int))) then
        (qN[(dC:Int).toNat]?).bind fun uL=>
        (C bf [.int .i64 ((uK.cell 0).toInt),.int .i64 ((uK.cell 1).toInt),.list aa ((uK.cell 2).toList),.int .i64 ((uL.cell 0).toInt),.int .i64 ((uL.cell 1).toInt),.list aa ((uL.cell 2).toList)]).bind fun Fo=>
        bif !(decide ((((V.nth Fo 0).toInt):Int)<0)) then
        (C ue [.int .i64 a,.int .i64 b',.int .i64 dC,.list aa qN]).bind fun SU=>
        kn ((V.nth SU 0).toInt,b',cC,eB,eR,(V.nth (SU.drop 1) 0).toList)
        else
        (C m9 [.int .i64 a,.int .i64 b',.int .i64 dC,.list aa qN]).bind fun ny=>
        bif decide (((IntKind.wrap .i64 (((V.nth ny 0).toInt)-a)):Int)<(IntKind.wrap .i64 (b'-((V.nth ny 0).toInt)))) then
         (C gm [.int .i64 a,.int .i64 ((V.nth ny 0).toInt),.int .i64 cC,.list aa ((V.nth (ny.drop 2) 0).toList)]).bind fun r33=>
         kn (IntKind.wrap .i64 (((V.nth ny 0).toInt)+1),b',cC,decide (((IntKind.wrap .i64 (((V.nth ny 0).toInt)-a)):Int)≥(IntKind.wrap .i64 (Int.tdiv (IntKind.wrap .i64 (b'-a)) 8))),(V.nth (ny.drop 1) 0).toBool,(V.nth r33 0).toList)
        else
         (C gm [.int .i64 (IntKind.wrap .i64 (((V.nth ny 0).toInt)+1)),.int .i64 b',.int .i64 cC,.list aa ((V.nth (ny.drop 2) 0).toList)]).bind fun r34=>
         kn (a,(V.nth ny 0).toInt,cC,decide (((IntKind.wrap .i64 (b'-((V.nth ny 0).toInt))):Int)≥(IntKind.wrap .i64 (Int.tdiv (IntKind.wrap .i64 (b'-a)) 8))),(V.nth (ny.drop 1) 0).toBool,(V.nth r34 0).toList)
       else none
       else none
      else
       (C m9 [.int .i64 a,.int .i64 b',.int .i64 dC,.list aa qN]).bind fun nz=>
       bif decide (((IntKind.wrap .i64 (((V.nth nz 0).toInt)-a)):Int)<(IntKind.wrap .i64 (b'-((V.nth nz 0).toInt)))) then
       (C gm [.int .i64 a,.int .i64 ((V.nth nz 0).toInt),.int .i64 cC,.list aa ((V.nth (nz.drop 2) 0).toList)]).bind fun r36=>
       kn (IntKind.wrap .i64 (((V.nth nz 0).toInt)+1),b',cC,decide (((IntKind.wrap .i64 (((V.nth nz 0).toInt)-a)):Int)≥(IntKind.wrap .i64 (Int.tdiv (IntKind.wrap .i64 (b'-a)) 8))),(V.nth (nz.drop 1) 0).toBool,(V.nth r36 0).toList)
       else
       (C gm [.int .i64 (IntKind.wrap .i64 (((V.nth nz 0).toInt)+1)),.int .i64 b',.int .i64 cC,.list aa ((V.nth (nz.drop 2) 0).toList)]).bind fun r37=>
       kn (a,(V.nth nz 0).toInt,cC,decide (((IntKind.wrap .i64 (b'-((V.nth nz 0).toInt))):Int)≥(IntKind.wrap .i64 (Int.tdiv (IntKind.wrap .i64 (b'-a)) 8))),(V.nth (nz.drop 1) 0).toBool,(V.nth r37 0).toList)))
    else
     mr C a b' cC eB eR (IntKind.wrap .i64 (b'-a)) dC false oE (b9 (un fun (Qv:Bool) (aer:List V)=>
      kr aer) (fun (jE:List V)=>
      bif decide ((a:Int)>0) then
      bif (decide (0≤(IntKind.wrap .i64 (a-1))))&&(decide ((IntKind.wrap .i64 (a-1))<(jE.length:Int))) then
       (jE[(IntKind.wrap .i64 (a-1):Int).toNat]?).bind fun mq=>
       bif (decide (0≤dC))&&(decide (dC<(jE.length:Int))) then
       (jE[(dC:Int).toNat]?).bind fun uN=>
       (C bf [.int .i64 ((mq.cell 0).toInt),.int .i64 ((mq.cell 1).toInt),.list aa ((mq.cell 2).toList),.int .i64 ((uN.cell 0).toInt),.int .i64 ((uN.cell 1).toInt),.list aa ((uN.cell 2).toList)]).bind fun r43=>
       bif !(decide ((((V.nth r43 0).toInt):Int)<0)) then
        (C ue [.int .i64 a,.int .i64 b',.int .i64 dC,.list aa jE]).bind fun SV=>
        kn ((V.nth SV 0).toInt,b',cC,eB,eR,(V.nth (SV.drop 1) 0).toList)
       else
        (C m9 [.int .i64 a,.int .i64 b',.int .i64 dC,.list aa jE]).bind fun nA=>
        bif decide (((IntKind.wrap .i64 (((V.nth nA 0).toInt)-a)):Int)<(IntKind.wrap .i64 (b'-((V.nth nA 0).toInt)))) then
        (C gm [.int .i64 a,.int .i64 ((V.nth nA 0).toInt),.int .i64 cC,.list aa ((V.nth (nA.drop 2) 0).toList)]).bind fun r46=>
        kn (IntKind.wrap .i64 (((V.nth nA 0).toInt)+1),b',cC,decide (((IntKind.wrap .i64 (((V.nth nA 0).toInt)-a)):Int)≥(IntKind.wrap .i64 (Int.tdiv (IntKind.wrap .i64 (b'-a)) 8))),(V.nth (nA.drop 1) 0).toBool,(V.nth r46 0).toList)
        else
        (C gm [.int .i64 (IntKind.wrap .i64 (((V.nth nA 0).toInt)+1)),.int .i64 b',.int .i64 cC,.list aa ((V.nth (nA.drop 2) 0).toList)]).bind fun r47=>
        kn (a,(V.nth nA 0).toInt,cC,decide (((IntKind.wrap .i64 (b'-((V.nth nA 0).toInt))):Int)≥(IntKind.wrap .i64 (Int.tdiv (IntKind.wrap .i64 (b'-a)) 8))),(V.nth (nA.drop 1) 0).toBool,(V.nth r47 0).toList)
       else none
      else none
      else
      (C m9 [.int .i64 a,.int .i64 b',.int .i64 dC,.list aa jE]).bind fun nB=>
      bif decide (((IntKind.wrap .i64 (((V.nth nB 0).toInt)-a)):Int)<(IntKind.wrap .i64 (b'-((V.nth nB 0).toInt)))) then
       (C gm [.int .i64 a,.int .i64 ((V.nth nB 0).toInt),.int .i64 cC,.list aa ((V.nth (nB.drop 2) 0).toList)]).bind fun r49=>
       kn (IntKind.wrap .i64 (((V.nth nB 0).toInt)+1),b',cC,decide (((IntKind.wrap .i64 (((V.nth nB 0).toInt)-a)):Int)≥(IntKind.wrap .i64 (Int.tdiv (IntKind.wrap .i64 (b'-a)) 8))),(V.nth (nB.drop 1) 0).toBool,(V.nth r49 0).toList)
      else
       (C gm [.int .i64 (IntKind.wrap .i64 (((V.nth nB 0).toInt)+1)),.int .i64 b',.int .i64 cC,.list aa ((V.nth (nB.drop 2) 0).toList)]).bind fun r50=>
       kn (a,(V.nth nB 0).toInt,cC,decide (((IntKind.wrap .i64 (b'-((V.nth nB 0).toInt))):Int)≥(IntKind.wrap .i64 (Int.tdiv (IntKind.wrap .i64 (b'-a)) 8))),(V.nth (nB.drop 1) 0).toBool,(V.nth r50 0).toList)))))
noncomputable def SW (C:ag):(Int × Int × Int × Bool × Bool × (List V))→Option ((Int × Int × Int × Bool × Bool × (List V)) ⊕ (List V)):=un fun a=>un fun b'=>un fun je=>un fun eB=>un fun eR ak=>pF C a b' je eB eR ak (fun y=>some (.inl y)) (fun r=>some (.inr r))
noncomputable def SY (C:ag):cD:=fun β n ds k=>
 bif Nat.beq n 639 then iJ Jv [[1,2,0,4,5,6,0]] (@xL C) ds k else
 bif Nat.beq n 911 then iJ Jw [[1,2,3,4,5,6,0,0,0]] (@xM C) ds k else
 bif Nat.beq n 1215 then iJ Jx [[1,2,3,4,5,6,7,0,0],[1,2,3,4,5,6,7,0]] (@mr C) ds k else
 bif Nat.beq n 33 then ca Jy [true,true,true,true,true,true] [[0]] (@pF C) ds k else
 none
abbrev Fy (C:ag) (b:cA):Prop:=cB Try.prog ax C (SY C) 109 (cQ Try.prog (ax.aZ 109)) (ax.sin 109).ba.length b
theorem aes (C:ag):Fy C (.cond 39 (av [1,1,0,0,0,1,1,1,0,1,0] lE) (av [1,1,0,0,0,1,1,1,0,1,1] lE)):=
 jb Jv [[1,2,0,4,5,6,0]] (@xL C) (by kernel_rfl) (bm (bs:=[]) (by kernel_rfl) aw) (bm (bs:=[]) (by kernel_rfl) aw) (fun ds=>by kernel_rfl) (fun i β k=>by kernel_rfl) (fun β ds k=>by kernel_rfl)
theorem aet (C:ag):Fy C (.cond 56 (av [1,1,0,0,0,1,1,1,1,1,0,1,0] lE) (av [1,1,0,0,0,1,1,1,1,1,0,1,1] lE)):=
 jb Jw [[1,2,3,4,5,6,0,0,0]] (@xM C) (by kernel_rfl) (bm (bs:=[]) (by kernel_rfl) aw) (bm (bs:=[]) (by kernel_rfl) aw) (fun ds=>by kernel_rfl) (fun i β k=>by kernel_rfl) (fun β ds k=>by kernel_rfl)
theorem aeu (C:ag):Fy C (.cond 75 (av [1,1,0,0,0,1,1,1,1,1,1,0,1,0] lE) (av [1,1,0,0,0,1,1,1,1,1,1,0,1,1] lE)):=
 jb Jx [[1,2,3,4,5,6,7,0,0],[1,2,3,4,5,6,7,0]] (@mr C) (by kernel_rfl) (bm (bs:=[]) (by kernel_rfl) aw) (bm (bs:=[]) (by kernel_rfl) aw) (fun ds=>by kernel_rfl) (fun i β k=>by kernel_rfl) (fun β ds k=>by kernel_rfl)
theorem aev (C:ag):Fy C (.loop (av [1,1,0,0] lE)):=
 cg Jy [true,true,true,true,true,true] [[0]] (@pF C) (by kernel_rfl) (bm (bs:=[.cond 39 (av [1,1,0,0,0,1,1,1,0,1,0] lE) (av [1,1,0,0,0,1,1,1,0,1,1] lE),.cond 56 (av [1,1,0,0,0,1,1,1,1,1,0,1,0] lE) (av [1,1,0,0,0,1,1,1,1,1,0,1,1] lE),.cond 75 (av [1,1,0,0,0,1,1,1,1,1,1,0,1,0] lE) (av [1,1,0,0,0,1,1,1,1,1,1,0,1,1] lE)]) (by kernel_rfl) (bD (aes C) (bD (aet C) (bD (aeu C) aw)))) (fun ds=>by kernel_rfl) (fun i x=>by kernel_rfl) (fun i x β k=>by kernel_rfl) (fun β ds k=>by kernel_rfl)
noncomputable def SZ (C:ag) (a b' je:Int) (ak:List V):Option (List V):=
 (Loop (SW C) (a,b',je,true,true,ak)).bind (fun (aew:List V)=>
  some [.list aa aew])
theorem aex {a b' je:Int} {ak:List V} {r:Option (List V)} (h:SZ CC a b' je ak=r):CC gm [.int .i64 a,.int .i64 b',.int .i64 je,.list aa ak]=r:=
 bn (key:=109) (L:=SY CC) (bs:=[.loop (av [1,1,0,0] lE)]) (by kernel_rfl) (bD (aev CC) aw) (bc (by kernel_rfl) h)
noncomputable def S0 (C:ag) (xs:List V):Option (List V):=
 (C z7 [.int .u64 (IntKind.wrap .u64 (xs.length:Int))]).bind fun r1=>
 (C gm [.int .i64 0,.int .i64 (xs.length:Int),.int .i64 ((V.nth r1 0).toInt),.list aa xs]).bind fun r2=>
 some [.list aa ((V.nth r2 0).toList)]
theorem aey {xs:List V} {r:Option (List V)} (h:S0 CC xs=r):CC z6 [.list aa xs]=r:=
 bn (key:=105) (L:=cq) (bs:=[]) (by kernel_rfl) aw (bc (by kernel_rfl) h)
end Go.AM
set_option maxRecDepth 100000
set_option maxHeartbeats 4000000
namespace Go.AM.SX
open Go.Proofs Go.Sort
theorem aez (a b:XE):bQ a b<0↔a.lt b:=Iff.rfl
theorem S3 (a b:XE):(az a b=true)=(a.lt b):=by rw[sC];rfl
theorem Fz (a b:XE):(az a b=false)= ¬(a.lt b):=by rw[←S3];simp
theorem xN:SWO az where
 irrefl x:=by rw[Fz];exact XE.lt_irrefl x
 trans x y z:=by simp only[S3];exact XE.lt_trans
 ntrans x y z:=by simp only[Fz];exact XE.adi
def FA:List UInt8:=([0,1,2,2,3,3,3,3,4,4,4,4,4,4,4,4,5,5,5,5,5,5,5,5,5,5,5,5,5,5,5,5,6,6,6,6,6,6,6,6,6,6,6,6,6,6,6,6,6,6,6,6,6,6,6,6,6,6,6,6,6,6,6,6,7,7,7,7,7,7,7,7,7,7,7,7,7,7,7,7,7,7,7,7,7,7,7,7,7,7,7,7,7,7,7,7,7,7,7,7,7,7,7,7,7,7,7,7,7,7,7,7,7,7,7,7,7,7,7,7,7,7,7,7,7,7,7,7,8,8,8,8,8,8,8,8,8,8,8,8,8,8,8,8,8,8,8,8,8,8,8,8,8,8,8,8,8,8,8,8,8,8,8,8,8,8,8,8,8,8,8,8,8,8,8,8,8,8,8,8,8,8,8,8,8,8,8,8,8,8,8,8,8,8,8,8,8,8,8,8,8,8,8,8,8,8,8,8,8,8,8,8,8,8,8,8,8,8,8,8,8,8,8,8,8,8,8,8,8,8,8,8,8,8,8,8,8,8,8,8,8,8,8,8,8,8,8,8,8,8,8,8,8,8,8,8]:List UInt8)
theorem aeA:(List.range 256).all (fun y=>match FA[y]? with|some b=>decide (b.toNat≤8)&&(Nat.beq y 0||(decide (1≤b.toNat)&&decide (2^(b.toNat-1)≤y)))|none=>false)=true:=by decide+kernel
theorem S4 {y:Nat} (h:y<256): ∃b,FA[y]? =some b∧b.toNat≤8∧(0<y→1≤b.toNat∧2^(b.toNat-1)≤y):=by
 have:=fb.1 aeA y (List.mem_range.2 h)
 cases hb:FA[y]? with
 | none=>rw[hb] at this;cases this
 | some b=>
  rw[hb] at this
  simp only[aK,Bool.or_eq_true,dR] at this
  refine ⟨b,rfl,this.1,fun hy=> ?_⟩
  rcases this.2 with U|U
  ·have:=yi U;omega
  ·exact U
theorem K4 {y t k:Nat} (h:2^(t-1)≤y/2^k) (ht:1≤t):2^(t+k-1)≤y:=by
 have e:t+k-1=(t-1)+k:=by omega
 rw[e,Nat.pow_add]
 exact lH (dp _ h) (Nat.div_mul_le_self _ _)
noncomputable def xO (y n:Int):Option (List V):=
(bif decide ((y:Int)≥256) then
    (bif decide (0≤(IntKind.wrap .u8 (Int.fdiv y (2^(min (8:Int).toNat (IntKind.bits .u64)))))) then (([0,1,2,2,3,3,3,3,4,4,4,4,4,4,4,4,5,5,5,5,5,5,5,5,5,5,5,5,5,5,5,5,6,6,6,6,6,6,6,6,6,6,6,6,6,6,6,6,6,6,6,6,6,6,6,6,6,6,6,6,6,6,6,6,7,7,7,7,7,7,7,7,7,7,7,7,7,7,7,7,7,7,7,7,7,7,7,7,7,7,7,7,7,7,7,7,7,7,7,7,7,7,7,7,7,7,7,7,7,7,7,7,7,7,7,7,7,7,7,7,7,7,7,7,7,7,7,7,8,8,8,8,8,8,8,8,8,8,8,8,8,8,8,8,8,8,8,8,8,8,8,8,8,8,8,8,8,8,8,8,8,8,8,8,8,8,8,8,8,8,8,8,8,8,8,8,8,8,8,8,8,8,8,8,8,8,8,8,8,8,8,8,8,8,8,8,8,8,8,8,8,8,8,8,8,8,8,8,8,8,8,8,8,8,8,8,8,8,8,8,8,8,8,8,8,8,8,8,8,8,8,8,8,8,8,8,8,8,8,8,8,8,8,8,8,8,8,8,8,8,8,8,8,8,8,8]:List UInt8)[(IntKind.wrap .u8 (Int.fdiv y (2^(min (8:Int).toNat (IntKind.bits .u64)))):Int).toNat]?).map fun b=>V.int .u8 b.toNat else none).bind fun x5=>
    some [V.int .i64 (IntKind.wrap .i64 ((IntKind.wrap .i64 (n+8))+(IntKind.wrap .i64 x5.toInt)))]
   else
    (bif decide (0≤(IntKind.wrap .u8 y)) then (([0,1,2,2,3,3,3,3,4,4,4,4,4,4,4,4,5,5,5,5,5,5,5,5,5,5,5,5,5,5,5,5,6,6,6,6,6,6,6,6,6,6,6,6,6,6,6,6,6,6,6,6,6,6,6,6,6,6,6,6,6,6,6,6,7,7,7,7,7,7,7,7,7,7,7,7,7,7,7,7,7,7,7,7,7,7,7,7,7,7,7,7,7,7,7,7,7,7,7,7,7,7,7,7,7,7,7,7,7,7,7,7,7,7,7,7,7,7,7,7,7,7,7,7,7,7,7,7,8,8,8,8,8,8,8,8,8,8,8,8,8,8,8,8,8,8,8,8,8,8,8,8,8,8,8,8,8,8,8,8,8,8,8,8,8,8,8,8,8,8,8,8,8,8,8,8,8,8,8,8,8,8,8,8,8,8,8,8,8,8,8,8,8,8,8,8,8,8,8,8,8,8,8,8,8,8,8,8,8,8,8,8,8,8,8,8,8,8,8,8,8,8,8,8,8,8,8,8,8,8,8,8,8,8,8,8,8,8,8,8,8,8,8,8,8,8,8,8,8,8,8,8,8,8,8,8]:List UInt8)[(IntKind.wrap .u8 y:Int).toNat]?).map fun b=>V.int .u8 b.toNat else none).bind fun x6=>
    some [V.int .i64 (IntKind.wrap .i64 (n+(IntKind.wrap .i64 x6.toInt)))])
theorem aeB {x:Nat} (h:x<2^64): ∃L:Nat,CC Ew [.int .u64 (x:Int)]=some [.int .i64 (L:Int)]∧L≤64∧(0<x→1≤L∧2^(L-1)≤x):=by
 have last: ∀y n:Nat,y<65536→n≤48→∃t:Nat,
   xO (y:Int) (n:Int)=some [V.int .i64 ((n+t:Nat):Int)]∧t≤16∧(0<y→1≤t∧2^(t-1)≤y):=by
  intro y n hy hn
  unfold xO
  rw[show ([0,1,2,2,3,3,3,3,4,4,4,4,4,4,4,4,5,5,5,5,5,5,5,5,5,5,5,5,5,5,5,5,6,6,6,6,6,6,6,6,6,6,6,6,6,6,6,6,6,6,6,6,6,6,6,6,6,6,6,6,6,6,6,6,7,7,7,7,7,7,7,7,7,7,7,7,7,7,7,7,7,7,7,7,7,7,7,7,7,7,7,7,7,7,7,7,7,7,7,7,7,7,7,7,7,7,7,7,7,7,7,7,7,7,7,7,7,7,7,7,7,7,7,7,7,7,7,7,8,8,8,8,8,8,8,8,8,8,8,8,8,8,8,8,8,8,8,8,8,8,8,8,8,8,8,8,8,8,8,8,8,8,8,8,8,8,8,8,8,8,8,8,8,8,8,8,8,8,8,8,8,8,8,8,8,8,8,8,8,8,8,8,8,8,8,8,8,8,8,8,8,8,8,8,8,8,8,8,8,8,8,8,8,8,8,8,8,8,8,8,8,8,8,8,8,8,8,8,8,8,8,8,8,8,8,8,8,8,8,8,8,8,8,8,8,8,8,8,8,8,8,8,8,8,8,8]:List UInt8)=FA from rfl]
  by_cases h1:y≥256
  ·have e:Int.fdiv (y:Int) (2^(min (8:Int).toNat (IntKind.bits .u64)))=((y/2^8:Nat):Int):=J4 (m:=8) (by omega)
   obtain ⟨b,hb,b1,b2⟩:=S4 (y:=y/2^8) (by omega)
   refine ⟨b.toNat+8,?_,by omega,fun _=> ?_⟩
   ·rw[e,ay,aj (by omega),D1 (by omega) (by omega),ay,aj (by omega),Int.toNat_natCast,hb]
    simp only[Option.map_some,Option.bind_some,V.toInt_int]
    simp (disch:=omega) only[wrap64]
    congr 3
    omega
   ·obtain ⟨b3,b4⟩:=b2 (by omega)
    exact ⟨by omega,K4 b4 b3⟩
  ·obtain ⟨b,hb,b1,b2⟩:=S4 (y:=y) (by omega)
   refine ⟨b.toNat,?_,by omega,b2⟩
   rw[ay,ai (by omega),D1 (by omega) (by omega),ay,aj (by omega),Int.toNat_natCast,hb]
   simp (disch:=omega) only[Option.map_some,Option.bind_some,V.toInt_int,wrap64]
   congr 3
 have mid: ∀y n:Nat,y<4294967296→n≤32→∃t:Nat,∀F:Int→Int→Option (List V),
   (∀y n:Nat,y<65536→n≤48→∃t:Nat,F (y:Int) (n:Int)=some [V.int .i64 ((n+t:Nat):Int)]∧t≤16∧(0<y→1≤t∧2^(t-1)≤y))→
   ∃t:Nat,uQ CC (y:Int) (n:Int) (decide (((y:Int):Int)≥65536)) (un F)=some [V.int .i64 ((n+t:Nat):Int)]∧t≤32∧(0<y→1≤t∧2^(t-1)≤y):=by
  intro y n hy hn
  refine ⟨0,fun F hF=> ?_⟩
  unfold uQ
  by_cases h1:y≥65536
  ·have e:Int.fdiv (y:Int) (2^(min (16:Int).toNat (IntKind.bits .u64)))=((y/2^16:Nat):Int):=J4 (m:=16) (by omega)
   rw[ay,aj (by omega),e,wrap64 (by omega) (by omega)]
   obtain ⟨t,U,h3,h4⟩:=hF (y/2^16) (n+16) (by omega) (by omega)
   refine ⟨t+16,?_,by omega,fun _=> ?_⟩
   ·rw[show ((n:Int)+16)=((n+16:Nat):Int) by omega]
    simp only[un]
    rw[U]
    congr 3
    omega
   ·obtain ⟨b3,b4⟩:=h4 (by omega)
    exact ⟨by omega,K4 b4 b3⟩
  ·rw[ay,ai (by omega)]
   obtain ⟨t,U,h3,h4⟩:=hF y n (by omega) (by omega)
   exact ⟨t,U,by omega,h4⟩
 by_cases h1:x≥4294967296
 ·have e:Int.fdiv (x:Int) (2^(min (32:Int).toNat (IntKind.bits .u64)))=((x/2^32:Nat):Int):=J4 (m:=32) (by omega)
  obtain ⟨_,hm⟩:=mid (x/2^32) 32 (by omega) (by omega)
  obtain ⟨t,U,h3,h4⟩:=hm xO last
  refine ⟨32+t,SS ?_,by omega,fun _=> ?_⟩
  ·show uP CC (x:Int) 0 (decide (((x:Int):Int)≥4294967296)) (un fun (hZ:Int) (Be:Int)=>uQ CC hZ Be (decide ((hZ:Int)≥65536)) (un xO))=_
   unfold uP
   rw[ay,aj (by omega),e]
   exact U
  ·obtain ⟨b3,b4⟩:=h4 (by omega)
   rw[Nat.add_comm 32 t]
   exact ⟨by omega,K4 b4 b3⟩
 ·obtain ⟨_,hm⟩:=mid x 0 (by omega) (by omega)
  obtain ⟨t,U,h3,h4⟩:=hm xO last
  refine ⟨t,SS ?_,by omega,h4⟩
  show uP CC (x:Int) 0 (decide (((x:Int):Int)≥4294967296)) (un fun (hZ:Int) (Be:Int)=>uQ CC hZ Be (decide ((hZ:Int)≥65536)) (un xO))=_
  unfold uP
  rw[ay,ai (by omega)]
  rw[gx] at U
  exact U
theorem S5 {x:Nat} (h:x<2^64): ∃L:Nat,CC z7 [.int .u64 (x:Int)]=some [.int .i64 (L:Int)]∧L≤64∧(0<x→1≤L∧2^(L-1)≤x):=by
 obtain ⟨L,h1,U⟩:=aeB h
 refine ⟨L,aem ?_,U⟩
 unfold SO
 rw[h1]
 rfl
theorem aeC {x:Nat} (h0:0<x) (h:x<1152921504606846976): ∃M:Nat,CC Ey [.int .i64 (x:Int)]=some [.int .u64 (M:Int)]∧1≤M∧M≤2*x:=by
 obtain ⟨L,h1,U,h3⟩:=S5 (x:=x) (by omega)
 obtain ⟨h4,h5⟩:=h3 h0
 have e:2^L=2*2^(L-1):=by
  obtain ⟨k,rfl⟩: ∃k,L=k+1:=⟨L-1,by omega⟩
  rw[Nat.pow_succ];simp only[u5];omega
 have hL:L<64:=by
  by_cases hx:L<64
  ·exact hx
  ·have:2^63≤2^(L-1):=Nat.pow_le_pow_right (by omega) (by omega)
   omega
 refine ⟨2^L,ael ?_,Nat.pos_of_ne_zero (by simp),by omega⟩
 unfold SN
 rw[Al (A:=x) (by omega),h1]
 simp only[Option.bind_some,V.aT,V.toInt_int]
 rw[ay,aj (by omega),Int.toNat_natCast,Zs hL]
theorem aeD (r:Int): ∃R:Nat,CC Ez [.int .u64 r]=some [.int .u64 (R:Int),.int .u64 (R:Int)]∧R<2^64:=by
 have h: ∀n:Int,∃R:Nat,IntKind.wrap .u64 n=(R:Int)∧R<2^64:=fun n=>⟨(IntKind.wrap .u64 n).toNat,by rw[wrap_u64];omega,by rw[wrap_u64];omega⟩
 obtain ⟨R,h1,U⟩:=h _
 exact ⟨R,aek (by unfold SM;rw[h1]),U⟩
theorem FB {d:Array XE} {i:Nat} (h:i<d.size):idx (eA d) (i:Int)=some (d[i]!).enc:=by rw[Iw,fI h]
theorem K5 {d:Array XE} {a b:Nat} {s:Int} (ha:a<d.size) (hb:b<d.size): ∃(x y:Nat) (s':Int),CC wM [.list aa (eA d),.int .i64 (a:Int),.int .i64 (b:Int),.int .i64 s]=some [.int .i64 (x:Int),.int .i64 (y:Int),.int .i64 s']∧(x=a∧y=b∨x=b∧y=a):=by
 by_cases h:bQ d[b]! d[a]! <0
 ·refine ⟨b,a,_,SH (by unfold K2;rw[FB hb,FB ha];simp only[Option.bind_some,XE.a9,XE.bp,XE.bh,gq,V.aT,V.toInt_int];rw[ay,aj h]),.inr ⟨rfl,rfl⟩⟩
 ·refine ⟨a,b,_,SH (by unfold K2;rw[FB hb,FB ha];simp only[Option.bind_some,XE.a9,XE.bp,XE.bh,gq,V.aT,V.toInt_int];rw[ay,ai h]),.inl ⟨rfl,rfl⟩⟩
theorem K6 {d:Array XE} {a b c:Nat} {s:Int} (ha:a<d.size) (hb:b<d.size) (hc:c<d.size): ∃(m:Nat) (s':Int),CC Ac [.list aa (eA d),.int .i64 (a:Int),.int .i64 (b:Int),.int .i64 (c:Int),.int .i64 s]=some [.int .i64 (m:Int),.int .i64 s']∧(m=a∨m=b∨m=c):=by
 obtain ⟨x1,y1,s1,e1,o1⟩:=K5 (s:=s) ha hb
 obtain ⟨x2,y2,s2,e2,o2⟩:=K5 (d:=d) (a:=y1) (b:=c) (s:=s1) (by omega) hc
 obtain ⟨x3,y3,s3,e3,o3⟩:=K5 (d:=d) (a:=x1) (b:=x2) (s:=s2) (by omega) (by omega)
 refine ⟨y3,s3,aef ?_,by omega⟩
 unfold SG
 rw[e1]
 simp only[Option.bind_some,V.aT,V.qD,V.toInt_int,km,iQ]
 rw[e2]
 simp only[Option.bind_some,V.aT,V.qD,V.toInt_int,km,iQ]
 rw[e3]
 rfl
theorem K7 {d:Array XE} {a:Nat} {s:Int} (h1:1≤a) (ha:a+1<d.size) (hs:d.size<1152921504606846976): ∃(m:Nat) (s':Int),CC wL [.list aa (eA d),.int .i64 (a:Int),.int .i64 s]=some [.int .i64 (m:Int),.int .i64 s']∧a≤m+1∧m≤a+1:=by
 obtain ⟨m,s',e,o⟩:=K6 (d:=d) (a:=a-1) (b:=a) (c:=a+1) (s:=s) (by omega) (by omega) (by omega)
 refine ⟨m,s',aeg ?_,by omega,by omega⟩
 unfold SI
 simp (disch:=omega) only[ka,dB,wrap64]
 rw[e]
 rfl
theorem K8 (n:Nat):Int.tdiv (n:Int) 4=((n/4:Nat):Int):=by
 have:=divC n 4
 exact this
theorem mulC (k n:Nat):((k:Nat):Int)*(n:Int)=((k*n:Nat):Int):=(Int.natCast_mul k n).symm
theorem aeE {d:Array XE} {a b:Nat} (eW:a+12<b) (hb:b≤d.size) (hs:d.size<1152921504606846976): ∃(p:Nat) (h:Int),CC Aa [.list aa (eA d),.int .i64 (a:Int),.int .i64 (b:Int)]=some [.int .i64 (p:Int),.int .i64 h]∧a≤p∧p<b:=by
 have fin: ∀(p:Nat) (s:Int),∃h:Int,(bif (s:Int)==0 then some [V.int .i64 (p:Int),V.int .i64 1] else bif (s:Int)==12 then some [V.int .i64 (p:Int),V.int .i64 2] else some [V.int .i64 (p:Int),V.int .i64 0])=some [V.int .i64 (p:Int),V.int .i64 h]:=by
  intro p s
  rw[c9]
  split
  ·exact ⟨1,rfl⟩
  ·rw[c9]
   split
   ·exact ⟨2,rfl⟩
   ·exact ⟨0,rfl⟩
 have e1:IntKind.wrap .i64 ((b:Int)-(a:Int))=((b-a:Nat):Int):=by rw[mn (by omega),wrap64 (by omega) (by omega)]
 have e2:IntKind.wrap .i64 (Int.tdiv ((b-a:Nat):Int) 4)=(((b-a)/4:Nat):Int):=by rw[K8,wrap64 (by omega) (by omega)]
 have e3: ∀k:Nat,k≤3→IntKind.wrap .i64 ((a:Int)+IntKind.wrap .i64 ((k:Int)*(((b-a)/4:Nat):Int)))=((a+k*((b-a)/4):Nat):Int):=by
  intro k hk
  have lZ:k*((b-a)/4)≤3*((b-a)/4):=dp _ hk
  simp (disch:=omega) only[mulC,wrap64,fJ]
 have K9:=e3 1 (by omega)
 have sG:=e3 2 (by omega)
 have La:=e3 3 (by omega)
 rw[show ((1:Nat):Int)=1 from rfl] at K9
 rw[show ((2:Nat):Int)=2 from rfl] at sG
 rw[show ((3:Nat):Int)=3 from rfl] at La
 by_cases h50:b-a≥50
 ·obtain ⟨m1,s1,q1,r1⟩:=K7 (d:=d) (a:=a+1*((b-a)/4)) (s:=0) (by omega) (by omega) hs
  obtain ⟨m2,s2,q2,r2⟩:=K7 (d:=d) (a:=a+2*((b-a)/4)) (s:=s1) (by omega) (by omega) hs
  obtain ⟨m3,s3,q3,r3⟩:=K7 (d:=d) (a:=a+3*((b-a)/4)) (s:=s2) (by omega) (by omega) hs
  obtain ⟨m,s,q,r⟩:=K6 (d:=d) (a:=m1) (b:=m2) (c:=m3) (s:=s3) (by omega) (by omega) (by omega)
  obtain ⟨h,hf⟩:=fin m s
  refine ⟨m,h,SF ?_,by omega,by omega⟩
  unfold K0 Bb Ba
  rw[e1,e2,K9,sG,La,np (by omega),cond_true,np (by omega),cond_true,q1]
  simp only[Option.bind_some,V.aT,V.qD,V.toInt_int,km,iQ]
  rw[q2]
  simp only[Option.bind_some,V.aT,V.qD,V.toInt_int,km,iQ]
  rw[q3]
  simp only[Option.bind_some,V.aT,V.qD,V.toInt_int,km,iQ,un]
  rw[q]
  exact hf
 ·obtain ⟨m,s,q,r⟩:=K6 (d:=d) (a:=a+1*((b-a)/4)) (b:=a+2*((b-a)/4)) (c:=a+3*((b-a)/4)) (s:=0) (by omega) (by omega) (by omega)
  obtain ⟨h,hf⟩:=fin m s
  refine ⟨m,h,SF ?_,by omega,by omega⟩
  unfold K0 Bb Ba
  rw[e1,e2,K9,sG,La,np (by omega),cond_true,sA (by omega),cond_false]
  simp only[un]
  rw[q]
  exact hf
theorem aeF {a b M:Nat} (hM1:1≤M) (hM:M≤2*(b-a)) (h8:8≤b-a) (hB:b<1152921504606846976): ∀(n i:Nat) (d:Array XE) (r:Int),a+2*((b-a)/4)+2-i=n→a≤i→b≤d.size→d.size<1152921504606846976→
  ∃x y z R,Loop (Fx CC a (b-a:Nat) M) ((i:Int),eA d,r)=some (x,y,eA R,z)∧PermIn a b d R:=by
 have e2:IntKind.wrap .i64 (Int.tdiv ((b-a:Nat):Int) 4)=(((b-a)/4:Nat):Int):=by rw[K8,wrap64 (by omega) (by omega)]
 have sG:IntKind.wrap .i64 ((a:Int)+IntKind.wrap .i64 (2*(((b-a)/4:Nat):Int)))=((a+2*((b-a)/4):Nat):Int):=by
  have:=mulC 2 ((b-a)/4)
  rw[show ((2:Nat):Int)=2 from rfl] at this
  rw[this]
  simp (disch:=omega) only[wrap64,fJ]
 intro n
 induction n with
 | zero=>
  intro i d r hn hi hb hs
  refine ⟨(i:Int),false,r,d,aX ?_,permIn_refl _ _ _⟩
  simp only[Fx,Bd,un]
  rw[e2,sG,dB,wrap64 (by omega) (by omega),sA (by omega),cond_false]
 | succ n ih=>
  intro i d r hn hi hb hs
  obtain ⟨R1,q1,q2⟩:=aeD r
  obtain ⟨o,ho,lb⟩: ∃o:Nat,(o=if R1&&&(M-1)≥b-a then (R1&&&(M-1))-(b-a) else R1&&&(M-1))∧o<b-a:=by
   refine ⟨_,rfl,?_⟩
   have:R1&&&(M-1)≤M-1:=Nat.and_le_right
   split<;>omega
  have hand:R1&&&(M-1)≤M-1:=Nat.and_le_right
  have hP:=swp_permIn (α:=XE) d a b i (a+o) hi (by omega) (by omega) (by omega) hb
  obtain ⟨x,y,z,R,e,hR⟩:=ih (i+1) (swp d i (a+o)) (R1:Int) (by omega) (by omega) (by rw[size_swp];exact hb) (by rw[size_swp];exact hs)
  refine ⟨x,y,z,R,(bO ?_).trans e,permIn_trans _ _ _ a b hP hR⟩
  simp only[Fx,Bd,un]
  rw[e2,sG,dB,wrap64 (x:=((a+2*((b-a)/4)+1:Nat):Int)) (by omega) (by omega),np (by omega),cond_true,q1]
  simp only[Option.bind_some,V.aT,V.qD,V.toInt_int,km,iQ]
  have e5:IntKind.wrap .u64 ((M:Int)-1)=((M-1:Nat):Int):=by rw[ka hM1,Al (by omega)]
  rw[e5,u64_and q2 (by omega),wrap64 (x:=((R1&&&(M-1):Nat):Int)) (by omega) (by omega)]
  have fin: ∀k:Int,k=(o:Int)→(bif (decide (0≤(IntKind.wrap .i64 ((a:Int)+k))))&&(decide ((IntKind.wrap .i64 ((a:Int)+k))<((eA d).length:Int))) then
   ((eA d)[(IntKind.wrap .i64 ((a:Int)+k):Int).toNat]?).bind fun x4=>
   bif (decide (0≤(i:Int)))&&(decide ((i:Int)<((eA d).length:Int))) then
    ((eA d)[((i:Int):Int).toNat]?).bind fun x5=>
    bif (decide (0≤(i:Int)))&&(decide ((i:Int)<((eA d).length:Int))) then
    ((eA d)[((i:Int):Int).toNat]?).bind fun x6=>
    bif (decide (0≤(IntKind.wrap .i64 ((a:Int)+k))))&&(decide ((IntKind.wrap .i64 ((a:Int)+k))<(((eA d).set (((i:Int):Int).toNat) (.agg [.int .i64 ((x4.cell 0).toInt),.int .i64 ((x4.cell 1).toInt),.list aa ((x4.cell 2).toList)])).length:Int))) then
     (((eA d).set (((i:Int):Int).toNat) (.agg [.int .i64 ((x4.cell 0).toInt),.int .i64 ((x4.cell 1).toInt),.list aa ((x4.cell 2).toList)]))[(IntKind.wrap .i64 ((a:Int)+k):Int).toNat]?).bind fun x7=>
     some (.inl (IntKind.wrap .i64 ((i:Int)+1),((eA d).set (((i:Int):Int).toNat) (.agg [.int .i64 ((x4.cell 0).toInt),.int .i64 ((x4.cell 1).toInt),.list aa ((x4.cell 2).toList)])).set ((IntKind.wrap .i64 ((a:Int)+k):Int).toNat) (.agg [.int .i64 ((x5.cell 0).toInt),.int .i64 ((x5.cell 1).toInt),.list aa ((x5.cell 2).toList)]),(R1:Int)))
    else none
    else none
   else none
   else none:Option ((Int × List V × Int) ⊕ (Int × Bool × List V × Int)))=some (.inl (((i+1:Nat):Int),eA (swp d i (a+o)),(R1:Int))):=by
   intro k hk
   subst hk
   simp (disch:=omega) only[ay,cO,gJ,aj,ai,wrap64,dB,fJ,Int.toNat_natCast,Option.bind_some,fG,fI,XE.a9,XE.bp,XE.bh,XE.re,fH,ic,gy,gq,V.aT,V.toInt_int,cond_true,cond_false]
   rfl
  unfold Fw
  by_cases h:R1&&&(M-1)≥b-a
  ·rw[aj h] at ho
   rw[np (by omega),cond_true]
   exact fin _ (by rw[mn (by omega),wrap64 (by omega) (by omega)];omega)
  ·rw[ai h] at ho
   rw[sA (by omega),cond_false]
   exact fin _ (by omega)
theorem aeG {a b:Nat} {d:Array XE} (eW:a+12<b) (hb:b≤d.size) (hs:d.size<1152921504606846976): ∃R,CC Et [.int .i64 (a:Int),.int .i64 (b:Int),.list aa (eA d)]=some [.list aa (eA R)]∧PermIn a b d R:=by
 obtain ⟨M,q1,q2,q3⟩:=aeC (x:=b-a) (by omega) (by omega)
 have e1:IntKind.wrap .i64 ((b:Int)-(a:Int))=((b-a:Nat):Int):=by rw[mn (by omega),wrap64 (by omega) (by omega)]
 have e2:IntKind.wrap .i64 (Int.tdiv ((b-a:Nat):Int) 4)=(((b-a)/4:Nat):Int):=by rw[K8,wrap64 (by omega) (by omega)]
 have sG:IntKind.wrap .i64 ((a:Int)+IntKind.wrap .i64 (2*(((b-a)/4:Nat):Int)))=((a+2*((b-a)/4):Nat):Int):=by
  have:=mulC 2 ((b-a)/4)
  rw[show ((2:Nat):Int)=2 from rfl] at this
  rw[this]
  simp (disch:=omega) only[wrap64,fJ]
 obtain ⟨x,y,z,R,e,hR⟩:=aeF (a:=a) (b:=b) (M:=M) q2 q3 (by omega) (by omega) _ (a+2*((b-a)/4)-1) d (IntKind.wrap .u64 ((b-a:Nat):Int)) rfl (by omega) hb hs
 refine ⟨R,aej ?_,hR⟩
 unfold SL
 rw[e1,ay,aj (by omega),q1]
 simp only[Option.bind_some,V.aT,V.toInt_int]
 rw[e2,sG,ka (by omega),wrap64 (x:=((a+2*((b-a)/4)-1:Nat):Int)) (by omega) (by omega),e]
 rfl
noncomputable def sH (C:ag) (a b':Int) (eB eR:Bool) (cC dC:Int) (mo:List V) {β:Type} (kn:(Int × Int × Int × Bool × Bool × (List V))→Option β):Option β:=
      bif decide ((a:Int)>0) then
       bif (decide (0≤(IntKind.wrap .i64 (a-1))))&&(decide ((IntKind.wrap .i64 (a-1))<(mo.length:Int))) then
       (mo[(IntKind.wrap .i64 (a-1):Int).toNat]?).bind fun iM=>
       bif (decide (0≤dC))&&(decide (dC<(mo.length:Int))) then
        (mo[(dC:Int).toNat]?).bind fun nt=>
        (C bf [.int .i64 ((iM.cell 0).toInt),.int .i64 ((iM.cell 1).toInt),.list aa ((iM.cell 2).toList),.int .i64 ((nt.cell 0).toInt),.int .i64 ((nt.cell 1).toInt),.list aa ((nt.cell 2).toList)]).bind fun nu=>
        bif !(decide ((((V.nth nu 0).toInt):Int)<0)) then
        (C ue [.int .i64 a,.int .i64 b',.int .i64 dC,.list aa mo]).bind fun pG=>
        kn ((V.nth pG 0).toInt,b',cC,eB,eR,(V.nth (pG.drop 1) 0).toList)
        else
        (C m9 [.int .i64 a,.int .i64 b',.int .i64 dC,.list aa mo]).bind fun dA=>
        bif decide (((IntKind.wrap .i64 (((V.nth dA 0).toInt)-a)):Int)<(IntKind.wrap .i64 (b'-((V.nth dA 0).toInt)))) then
         (C gm [.int .i64 a,.int .i64 ((V.nth dA 0).toInt),.int .i64 cC,.list aa ((V.nth (dA.drop 2) 0).toList)]).bind fun jG=>
         kn (IntKind.wrap .i64 (((V.nth dA 0).toInt)+1),b',cC,decide (((IntKind.wrap .i64 (((V.nth dA 0).toInt)-a)):Int)≥(IntKind.wrap .i64 (Int.tdiv (IntKind.wrap .i64 (b'-a)) 8))),(V.nth (dA.drop 1) 0).toBool,(V.nth jG 0).toList)
        else
         (C gm [.int .i64 (IntKind.wrap .i64 (((V.nth dA 0).toInt)+1)),.int .i64 b',.int .i64 cC,.list aa ((V.nth (dA.drop 2) 0).toList)]).bind fun ef=>
         kn (a,(V.nth dA 0).toInt,cC,decide (((IntKind.wrap .i64 (b'-((V.nth dA 0).toInt))):Int)≥(IntKind.wrap .i64 (Int.tdiv (IntKind.wrap .i64 (b'-a)) 8))),(V.nth (dA.drop 1) 0).toBool,(V.nth ef 0).toList)
       else none
       else none
      else
       (C m9 [.int .i64 a,.int .i64 b',.int .i64 dC,.list aa mo]).bind fun ia=>
       bif decide (((IntKind.wrap .i64 (((V.nth ia 0).toInt)-a)):Int)<(IntKind.wrap .i64 (b'-((V.nth ia 0).toInt)))) then
       (C gm [.int .i64 a,.int .i64 ((V.nth ia 0).toInt),.int .i64 cC,.list aa ((V.nth (ia.drop 2) 0).toList)]).bind fun oH=>
       kn (IntKind.wrap .i64 (((V.nth ia 0).toInt)+1),b',cC,decide (((IntKind.wrap .i64 (((V.nth ia 0).toInt)-a)):Int)≥(IntKind.wrap .i64 (Int.tdiv (IntKind.wrap .i64 (b'-a)) 8))),(V.nth (ia.drop 1) 0).toBool,(V.nth oH 0).toList)
       else
       (C gm [.int .i64 (IntKind.wrap .i64 (((V.nth ia 0).toInt)+1)),.int .i64 b',.int .i64 cC,.list aa ((V.nth (ia.drop 2) 0).toList)]).bind fun kb=>
       kn (a,(V.nth ia 0).toInt,cC,decide (((IntKind.wrap .i64 (b'-((V.nth ia 0).toInt))):Int)≥(IntKind.wrap .i64 (Int.tdiv (IntKind.wrap .i64 (b'-a)) 8))),(V.nth (ia.drop 1) 0).toBool,(V.nth kb 0).toList)
theorem FC (C:ag) (a b' je:Int) (eB eR:Bool) (ak:List V) {β:Type} (kn:(Int × Int × Int × Bool × Bool × (List V))→Option β) (kr:(List V)→Option β):
  pF C a b' je eB eR ak kn kr=
 bif decide (((IntKind.wrap .i64 (b'-a)):Int)≤12) then
  (C z8 [.int .i64 a,.int .i64 b',.list aa ak]).bind fun r1=>
  kr ((V.nth r1 0).toList)
 else
  bif (je:Int)==0 then
  (C z9 [.int .i64 a,.int .i64 b',.list aa ak]).bind fun r2=>
  kr ((V.nth r2 0).toList)
  else
  xL C a b' je eB eR (IntKind.wrap .i64 (b'-a)) (!eB) ak (un fun (cC:Int) (Bg:List V)=>
   (C Aa [.list aa Bg,.int .i64 a,.int .i64 b']).bind fun r6=>
   xM C a b' cC eB eR (IntKind.wrap .i64 (b'-a)) ((V.nth r6 0).toInt) ((V.nth (r6.drop 1) 0).toInt) ((((V.nth (r6.drop 1) 0).toInt):Int)==2) Bg (un fun (dC:Int)=>un fun (K3:Int) (oE:List V)=>
    bif eB then
     bif eR then
     mr C a b' cC eB eR (IntKind.wrap .i64 (b'-a)) dC ((K3:Int)==1) oE (b9 (un fun (Qq:Bool) (Lb:List V)=>
      kr Lb) (fun (mo:List V)=>sH C a b' eB eR cC dC mo kn))
     else
     mr C a b' cC eB eR (IntKind.wrap .i64 (b'-a)) dC false oE (b9 (un fun (Qu:Bool) (aeH:List V)=>
      kr aeH) (fun (aeI:List V)=>sH C a b' eB eR cC dC aeI kn))
    else
     mr C a b' cC eB eR (IntKind.wrap .i64 (b'-a)) dC false oE (b9 (un fun (ZL:Bool) (aeJ:List V)=>
      kr aeJ) (fun (aeK:List V)=>sH C a b' eB eR cC dC aeK kn)))):=rfl
section
variable {a b:Nat} {lim:Int} {wb wp:Bool}
theorem aeL {d:Array XE} (eW:a+12<b) (hb:b≤d.size) (hs:d.size<1152921504606846976) (len:Int) (t:Bool): ∃(l1:Int) (d1:Array XE),PermIn a b d d1∧∀(β:Type) (kr:(Int × List V)→Option β),xL CC a b lim wb wp len t (eA d) kr=kr (l1,eA d1):=by
 cases t with
 | true=>
  obtain ⟨R,e,hR⟩:=aeG eW hb hs
  refine ⟨IntKind.wrap .i64 (lim-1),R,hR,fun β kr=> ?_⟩
  unfold xL
  rw[cond_true,e]
  rfl
 | false=>exact ⟨lim,d,permIn_refl _ _ _,fun β kr=>rfl⟩
theorem aeM {d:Array XE} (eW:a+12<b) (hb:b≤d.size) (hs:d.size<1152921504606846976) (len h:Int) (t:Bool) {p:Nat} (h1:a≤p) (U:p<b): ∃(p2:Nat) (U:Int) (d1:Array XE),a≤p2∧p2<b∧PermIn a b d d1∧∀(β:Type) (kr:(Int × Int × List V)→Option β),xM CC a b lim wb wp len p h t (eA d) kr=kr ((p2:Int),U,eA d1):=by
 cases t with
 | true=>
  refine ⟨b-1-(p-a),1,reverseRange d a b,by omega,by omega,reverseRange_holds d a b (by omega) hb,fun β kr=> ?_⟩
  unfold xM
  rw[cond_true,adD (by omega) hb hs]
  simp (disch:=omega) only[Option.bind_some,V.aT,V.j4,ka,mn,wrap64]
 | false=>exact ⟨p,h,d,h1,U,permIn_refl _ _ _,fun β kr=>rfl⟩
theorem aeN {d:Array XE} (eW:a+12<b) (hb:b≤d.size) (hs:d.size<1152921504606846976) (hB:Below az a b d) (len p:Int) (t:Bool): ∃d1:Array XE,PermIn a b d d1∧
  ((∀(β:Type) (kr:((Bool × List V) ⊕ List V)→Option β),mr CC a b lim wb wp len p t (eA d) kr=kr (.inr (eA d1)))∨
  (SortedIn az a b d1∧∀(β:Type) (kr:((Bool × List V) ⊕ List V)→Option β),mr CC a b lim wb wp len p t (eA d) kr=kr (.inl (true,eA d1)))):=by
 cases t with
 | true=>
  have hp:=partialInsertionSort_holds (lt:=az) xN d a b (by omega) hb hB
  refine ⟨_,hp.1,?_⟩
  cases h:(partialInsertionSort az d a b).2 with
  | true=>
   refine .inr ⟨hp.2 h,fun β kr=> ?_⟩
   unfold mr
   rw[cond_true,SB (by omega) hb hs,h]
   rfl
  | false=>
   refine .inl fun β kr=> ?_
   unfold mr
   rw[cond_true,SB (by omega) hb hs,h]
   rfl
 | false=>exact ⟨d,permIn_refl _ _ _,.inl fun β kr=>rfl⟩
end
def FD (a b:Nat) (d:Array XE):Prop:= ∀(lim:Int) (wb wp:Bool),∃R,Loop (SW CC) ((a:Int),(b:Int),lim,wb,wp,eA d)=some (eA R)∧PermIn a b d R∧SortedIn az a b R
theorem FD.call {a b:Nat} {d:Array XE} (h:FD a b d) (lim:Int): ∃R,CC gm [.int .i64 (a:Int),.int .i64 (b:Int),.int .i64 lim,.list aa (eA d)]=some [.list aa (eA R)]∧PermIn a b d R∧SortedIn az a b R:=by
 obtain ⟨R,e,h1,U⟩:=h lim true true
 refine ⟨R,aex ?_,h1,U⟩
 unfold SZ
 rw[e]
 rfl
theorem aeO {a b p:Nat} {d:Array XE} (eW:a+12<b) (hb:b≤d.size) (hs:d.size<1152921504606846976) (hB:Below az a b d) (h1:a≤p) (U:p<b)
  (ih: ∀(a2 b2:Nat) (d2:Array XE),b2-a2<b-a→a2≤b2→b2≤d2.size→d2.size<1152921504606846976→Below az a2 b2 d2→FD a2 b2 d2) (wb wp:Bool) (lim:Int):
  ∃(a2 b2:Nat) (uS uT:Bool) (d2:Array XE),b2-a2<b-a∧a2≤b2∧b2≤d2.size∧d2.size<1152921504606846976∧Below az a2 b2 d2∧
   (∀R,PermIn a2 b2 d2 R→SortedIn az a2 b2 R→PermIn a b d R∧SortedIn az a b R)∧
   ∀(β:Type) (kn:(Int × Int × Int × Bool × Bool × (List V))→Option β),sH CC a b wb wp lim p (eA d) kn=kn ((a2:Int),(b2:Int),lim,uS,uT,eA d2):=by
 have part: ∃(a2 b2:Nat) (uS uT:Bool) (d2:Array XE),b2-a2<b-a∧a2≤b2∧b2≤d2.size∧d2.size<1152921504606846976∧Below az a2 b2 d2∧
   (∀R,PermIn a2 b2 d2 R→SortedIn az a2 b2 R→PermIn a b d R∧SortedIn az a b R)∧
   ∀(β:Type) (kn:(Int × Int × Int × Bool × Bool × (List V))→Option β),
    ((CC m9 [.int .i64 (a:Int),.int .i64 (b:Int),.int .i64 (p:Int),.list aa (eA d)]).bind fun dA=>
        bif decide (((IntKind.wrap .i64 (((V.nth dA 0).toInt)-(a:Int))):Int)<(IntKind.wrap .i64 ((b:Int)-((V.nth dA 0).toInt)))) then
         (CC gm [.int .i64 (a:Int),.int .i64 ((V.nth dA 0).toInt),.int .i64 lim,.list aa ((V.nth (dA.drop 2) 0).toList)]).bind fun jG=>
         kn (IntKind.wrap .i64 (((V.nth dA 0).toInt)+1),(b:Int),lim,decide (((IntKind.wrap .i64 (((V.nth dA 0).toInt)-(a:Int))):Int)≥(IntKind.wrap .i64 (Int.tdiv (IntKind.wrap .i64 ((b:Int)-(a:Int))) 8))),(V.nth (dA.drop 1) 0).toBool,(V.nth jG 0).toList)
        else
         (CC gm [.int .i64 (IntKind.wrap .i64 (((V.nth dA 0).toInt)+1)),.int .i64 (b:Int),.int .i64 lim,.list aa ((V.nth (dA.drop 2) 0).toList)]).bind fun ef=>
         kn ((a:Int),(V.nth dA 0).toInt,lim,decide (((IntKind.wrap .i64 ((b:Int)-((V.nth dA 0).toInt))):Int)≥(IntKind.wrap .i64 (Int.tdiv (IntKind.wrap .i64 ((b:Int)-(a:Int))) 8))),(V.nth (dA.drop 1) 0).toBool,(V.nth ef 0).toList))=kn ((a2:Int),(b2:Int),lim,uS,uT,eA d2):=by
  obtain ⟨mid,ap,d4,hx⟩: ∃mid ap d4,partition az d a b p=(mid,ap,d4):=⟨_,_,_,rfl⟩
  obtain ⟨g1,g2,oI,hBa,hBr,aeP,aeQ⟩:=round_part xN (partition_holds az) h1 U hb hB hx
  have hc:=ad4 (a:=a) (b:=b) (pivot:=p) (d:=d) U (by omega) hb hs
  rw[hx] at hc
  by_cases hl:mid-a<b-mid
  ·obtain ⟨L,e,l1,l2⟩:=(ih a mid d4 (by omega) g1 (by rw[oI];omega) (by rw[oI];exact hs) hBa).call lim
   obtain ⟨Lc,Bh⟩:=aeP _ l1 l2
   refine ⟨mid+1,b,decide (((IntKind.wrap .i64 ((mid:Int)-(a:Int))):Int)≥(IntKind.wrap .i64 (Int.tdiv (IntKind.wrap .i64 ((b:Int)-(a:Int))) 8))),ap,L,by omega,by omega,by rw[l1.1,oI];exact hb,by rw[l1.1,oI];exact hs,Lc,Bh,fun β kn=> ?_⟩
   ·rw[hc]
    simp only[Option.bind_some,V.aT,V.qD,V.toInt_int,V.er,V.j4,km,iQ]
    rw[ay,aj (by rw[mn g1,mn (by omega),wrap64 (by omega) (by omega),wrap64 (by omega) (by omega)];omega),e]
    simp only[Option.bind_some,V.aT,V.j4]
    rw[dB,wrap64 (x:=((mid+1:Nat):Int)) (by omega) (by omega)]
  ·obtain ⟨L,e,l1,l2⟩:=(ih (mid+1) b d4 (by omega) (by omega) (by rw[oI];exact hb) (by rw[oI];exact hs) hBr).call lim
   obtain ⟨Lc,Bh⟩:=aeQ _ l1 l2
   refine ⟨a,mid,decide (((IntKind.wrap .i64 ((b:Int)-(mid:Int))):Int)≥(IntKind.wrap .i64 (Int.tdiv (IntKind.wrap .i64 ((b:Int)-(a:Int))) 8))),ap,L,by omega,by omega,by rw[l1.1,oI];omega,by rw[l1.1,oI];exact hs,Lc,Bh,fun β kn=> ?_⟩
   ·rw[hc]
    simp only[Option.bind_some,V.aT,V.qD,V.toInt_int,V.er,V.j4,km,iQ]
    rw[ay,ai (by rw[mn g1,mn (by omega),wrap64 (by omega) (by omega),wrap64 (by omega) (by omega)];omega),dB,wrap64 (x:=((mid+1:Nat):Int)) (by omega) (by omega),e]
    simp only[Option.bind_some,V.aT,V.j4]
 by_cases ha:0<a
 ·by_cases hc:bQ d[a-1]! d[p]! <0
  ·obtain ⟨a2,b2,uS,uT,d2,q1,q2,q3,q4,q5,q6,q7⟩:=part
   refine ⟨a2,b2,uS,uT,d2,q1,q2,q3,q4,q5,q6,fun β kn=> ?_⟩
   rw[←q7 β kn]
   unfold sH
   rw[ay,aj (by omega),ka ha,wrap64 (by omega) (by omega),kf (i:=a-1) (by omega),kg (by omega),kf (i:=p) (by omega),kg (by omega)]
   simp only[XE.a9,XE.bp,XE.bh,gq,Option.bind_some,V.aT,V.toInt_int]
   rw[gJ,ay,aj hc]
  ·obtain ⟨mid,d4,hx⟩: ∃mid d4,partitionEqual az d a b p=(mid,d4):=⟨_,_,rfl⟩
   obtain ⟨g1,GR,oI,hB4,Bh⟩:=round_eq xN (partitionEqual_holds az) ha h1 U hb hB (by rw[Fz,←propext (aez _ _)];exact hc) hx
   have he:=ad6 (a:=a) (b:=b) (pivot:=p) (d:=d) U (by omega) hb hs
   rw[hx] at he
   refine ⟨mid,b,wb,wp,d4,by omega,GR,by rw[oI];exact hb,by rw[oI];exact hs,hB4,Bh,fun β kn=> ?_⟩
   unfold sH
   rw[ay,aj (by omega),ka ha,wrap64 (by omega) (by omega),kf (i:=a-1) (by omega),kg (by omega),kf (i:=p) (by omega),kg (by omega)]
   simp only[XE.a9,XE.bp,XE.bh,gq,Option.bind_some,V.aT,V.toInt_int]
   rw[gJ,ay,ai hc,he]
   rfl
 ·obtain ⟨a2,b2,uS,uT,d2,q1,q2,q3,q4,q5,q6,q7⟩:=part
  refine ⟨a2,b2,uS,uT,d2,q1,q2,q3,q4,q5,q6,fun β kn=> ?_⟩
  rw[←q7 β kn]
  unfold sH
  rw[ay,ai (by omega)]
theorem aeR: ∀(n a b:Nat) (d:Array XE),b-a≤n→a≤b→b≤d.size→d.size<1152921504606846976→Below az a b d→FD a b d:=by
 intro n
 induction n with
 | zero=>
  intro a b d hn eW hb hs hB lim wb wp
  have hi:=insertionSort_holds (lt:=az) xN d a b eW hb
  refine ⟨_,aX ?_,hi⟩
  show pF CC a b lim wb wp (eA d) (fun y=>some (Sum.inl y)) (fun r=>some (Sum.inr r))=_
  rw[FC,ay,aj (by rw[mn eW,wrap64 (by omega) (by omega)];omega),Si hb hs (by omega)]
  rfl
 | succ n ih=>
  intro a b d hn eW hb hs hB lim wb wp
  by_cases h12:b-a≤12
  ·have hi:=insertionSort_holds (lt:=az) xN d a b eW hb
   refine ⟨_,aX ?_,hi⟩
   show pF CC a b lim wb wp (eA d) (fun y=>some (Sum.inl y)) (fun r=>some (Sum.inr r))=_
   rw[FC,ay,aj (by rw[mn eW,wrap64 (by omega) (by omega)];omega),Si hb hs (by omega)]
   rfl
  ·have Bi:a+12<b:=by omega
   have rT: ¬(((IntKind.wrap .i64 ((b:Int)-(a:Int))):Int)≤12):=by rw[mn eW,wrap64 (by omega) (by omega)];omega
   by_cases h0:lim=0
   ·have hi:=heapSort_holds (lt:=az) xN d a b eW hb
    refine ⟨_,aX ?_,hi⟩
    show pF CC a b lim wb wp (eA d) (fun y=>some (Sum.inl y)) (fun r=>some (Sum.inr r))=_
    rw[FC,ay,ai rT,c9,aj h0,adB (by omega) hb hs]
    rfl
   ·obtain ⟨l1,d1,s1,k1⟩:=aeL (lim:=lim) (wb:=wb) (wp:=wp) Bi hb hs (IntKind.wrap .i64 ((b:Int)-(a:Int))) (!wb)
    have b1:b≤d1.size:=by rw[s1.1];exact hb
    have z1:d1.size<1152921504606846976:=by rw[s1.1];exact hs
    obtain ⟨p,h,c1,p1,p2⟩:=aeE Bi b1 z1
    obtain ⟨q,U,d2,q1,q2,s2,k2⟩:=aeM (lim:=l1) (wb:=wb) (wp:=wp) Bi b1 z1 (IntKind.wrap .i64 ((b:Int)-(a:Int))) h (h==2) p1 p2
    have b2:b≤d2.size:=by rw[s2.1];exact b1
    have z2:d2.size<1152921504606846976:=by rw[s2.1];exact z1
    have B2:Below az a b d2:=(hB.perm hb s1).perm b1 s2
    obtain ⟨t,ht⟩: ∃t:Bool,t=(bif wb then (bif wp then (U==1) else false) else false):=⟨_,rfl⟩
    obtain ⟨d3,s3,k3⟩:=aeN (lim:=l1) (wb:=wb) (wp:=wp) Bi b2 z2 B2 (IntKind.wrap .i64 ((b:Int)-(a:Int))) (q:Int) t
    have b3:b≤d3.size:=by rw[s3.1];exact b2
    have z3:d3.size<1152921504606846976:=by rw[s3.1];exact z2
    have B3:Below az a b d3:=B2.perm b2 s3
    have P3:PermIn a b d d3:=permIn_trans _ _ _ a b (permIn_trans _ _ _ a b s1 s2) s3
    have step: ∀(β:Type) (kn:(Int × Int × Int × Bool × Bool × (List V))→Option β) (kr:(List V)→Option β),pF CC a b lim wb wp (eA d) kn kr=
      mr CC a b l1 wb wp (IntKind.wrap .i64 ((b:Int)-(a:Int))) (q:Int) t (eA d2) (b9 (un fun (Qq:Bool) (Lb:List V)=>kr Lb) (fun (mo:List V)=>sH CC a b wb wp l1 q mo kn)):=by
     intro β kn kr
     rw[FC,ay,ai rT,c9,ai h0,k1]
     simp only[un]
     rw[c1]
     simp only[Option.bind_some,V.aT,V.qD,V.toInt_int,km,iQ]
     rw[k2]
     simp only[un]
     rw[ht]
     cases wb
     ·rfl
     ·cases wp
      ·rfl
      ·rfl
    rcases k3 with k3|⟨k3s,k3⟩
    ·obtain ⟨a4,b4,wb4,wp4,d4,r1,r2,r3,r4,r5,r6,r7⟩:=aeO Bi b3 z3 B3 q1 q2 (fun a2 b2 d2 aO h1 U h3 h4=>ih a2 b2 d2 (by omega) h1 U h3 h4) wb wp l1
     obtain ⟨R,e,e1,e2⟩:=ih a4 b4 d4 (by omega) r2 r3 r4 r5 l1 wb4 wp4
     obtain ⟨f1,f2⟩:=r6 R e1 e2
     refine ⟨R,(bO ?_).trans e,permIn_trans _ _ _ a b P3 f1,f2⟩
     show pF CC a b lim wb wp (eA d) (fun y=>some (Sum.inl y)) (fun r=>some (Sum.inr r))=_
     rw[step,k3]
     exact r7 _ (fun y=>some (Sum.inl y))
    ·refine ⟨d3,aX ?_,P3,k3s⟩
     show pF CC a b lim wb wp (eA d) (fun y=>some (Sum.inl y)) (fun r=>some (Sum.inr r))=_
     rw[step,k3]
     rfl
theorem aeS (l:List XE) (hs:l.length<1152921504606846976): ∃R:List XE,CC z6 [.list aa (l.map XE.enc)]=some [.list aa (R.map XE.enc)]∧R.Perm l∧R.Pairwise (fun x y=> ¬y.lt x):=by
 obtain ⟨L,e1,_⟩:=S5 (x:=l.length) (by omega)
 obtain ⟨R,e2,h1,U⟩:=(aeR _ 0 l.toArray.size l.toArray (bW _) (ki _) (bW _) (by simpa using hs) (.inl rfl)).call (L:Int)
 have aU:R.size=l.length:=by rw[h1.1];simp
 refine ⟨R.toList,aey ?_,?_,?_⟩
 ·unfold S0
  rw[aQ,Al (A:=l.length) (by omega),e1]
  simp only[Option.bind_some,V.aT,V.toInt_int]
  have e3:eA l.toArray=l.map XE.enc:=by simp[pB]
  rw[e3,show ((l.toArray.size:Nat):Int)=(l.length:Int) by simp,show ((0:Nat):Int)=0 from rfl] at e2
  rw[e2]
  rfl
 ·have h3:=h1.2.2
  rw[show l.toArray.size=R.size from h1.1.symm,Array.extract_size,h1.1,Array.extract_size] at h3
  exact h3
 ·rw[B1]
  intro i j hi hj tE
  have h3:=U i j (ki _) tE (by simpa[←aU] using hj)
  rw[Fz] at h3
  have dJ:i<R.size:=by simpa using hi
  have gj:j<R.size:=by simpa using hj
  rw[getElem!_pos R i dJ,getElem!_pos R j gj] at h3
  simpa using h3
end Go.AM.SX
set_option maxRecDepth 100000
namespace Go.AM
open Go.Proofs
noncomputable abbrev FE:Code:=cL Try.prog (ax.aZ 106)
noncomputable def xP (C:ag) (Bj uU:Nat) (k' kh:Int) (ss:List V) {β:Type} (kn:(Int × Int × (List V))→Option β) (kr:(Int × Int × Bool × (List V))→Option β):Option β:=
 bif decide ((kh:Int)<(uU:Int)) then
  bif (decide (0≤kh))&&(decide (kh<(uU:Int))) then
  (ss[Bj+((kh:Int).toNat)]?).bind fun x4=>
  bif (decide (0≤(IntKind.wrap .i64 (kh-1))))&&(decide ((IntKind.wrap .i64 (kh-1))<(uU:Int))) then
   (ss[Bj+((IntKind.wrap .i64 (kh-1):Int).toNat)]?).bind fun x5=>
   (C pq [.int .i64 ((x4.cell 0).toInt),.int .i64 ((x4.cell 1).toInt),.list aa ((x4.cell 2).toList),.int .i64 ((x5.cell 0).toInt),.int .i64 ((x5.cell 1).toInt),.list aa ((x5.cell 2).toList)]).bind fun r6=>
   bif !((V.nth r6 0).toBool) then
   bif (decide (0≤kh))&&(decide (kh<(uU:Int))) then
    (ss[Bj+((kh:Int).toNat)]?).bind fun x7=>
    bif (decide (0≤k'))&&(decide (k'<(ss.length:Int))) then
    (ss[(k':Int).toNat]?).bind fun x8=>
    kn (IntKind.wrap .i64 (k'+1),IntKind.wrap .i64 (kh+1),ss.set ((k':Int).toNat) (.agg [.int .i64 ((x7.cell 0).toInt),.int .i64 ((x7.cell 1).toInt),.list aa ((x7.cell 2).toList)]))
    else none
   else none
   else
   kn (k',IntKind.wrap .i64 (kh+1),ss)
  else none
  else none
 else
  kr (k',kh,decide ((kh:Int)<(uU:Int)),ss)
noncomputable def uV (C:ag) (Bj uU:Nat):(Int × Int × (List V))→Option ((Int × Int × (List V)) ⊕ (Int × Int × Bool × (List V))):=un fun k'=>un fun kh ss=>xP C Bj uU k' kh ss (fun y=>some (.inl y)) (fun r=>some (.inr r))
noncomputable def xQ (C:ag) (ss:List V) (k':Int) {β:Type} (kn:Int→Option β) (kr:((List V) ⊕ (Int × Bool))→Option β):Option β:=
 bif decide ((k':Int)<(ss.length:Int)) then
  bif (decide (0≤k'))&&(decide (k'<(ss.length:Int))) then
  (ss[(k':Int).toNat]?).bind fun x1=>
  bif (decide (0≤(IntKind.wrap .i64 (k'-1))))&&(decide ((IntKind.wrap .i64 (k'-1))<(ss.length:Int))) then
   (ss[(IntKind.wrap .i64 (k'-1):Int).toNat]?).bind fun x2=>
   (C pq [.int .i64 ((x1.cell 0).toInt),.int .i64 ((x1.cell 1).toInt),.list aa ((x1.cell 2).toList),.int .i64 ((x2.cell 0).toInt),.int .i64 ((x2.cell 1).toInt),.list aa ((x2.cell 2).toList)]).bind fun r3=>
   bif (V.nth r3 0).toBool then
   bif (decide (0≤k'))&&(decide (k'≤(ss.length:Int))) then
    (Loop (uV C ((k':Int).toNat) (ss.length-((k':Int).toNat))) (k',1,ss)).bind (un fun (mu:Int)=>un fun (aiO:Int)=>un fun (ER:Bool) (qR:List V)=>
     bif (decide (0≤mu))&&(decide (mu≤(qR.length:Int))) then
     bif (decide (0≤mu))&&(decide (mu≤((qR.take ((mu:Int).toNat)++(List.replicate (qR.length-((mu:Int).toNat)) (V.agg [.int .i64 0,.int .i64 0,.list aa ([]:List V)])++qR.drop (((mu:Int).toNat)+(qR.length-((mu:Int).toNat))))).length:Int))) then
      kr (.inl ((qR.take ((mu:Int).toNat)++(List.replicate (qR.length-((mu:Int).toNat)) (V.agg [.int .i64 0,.int .i64 0,.list aa ([]:List V)])++qR.drop (((mu:Int).toNat)+(qR.length-((mu:Int).toNat))))).take ((mu:Int).toNat)))
     else none
     else none)
   else none
   else
   kn (IntKind.wrap .i64 (k'+1))
  else none
  else none
 else
  kr (.inr (k',decide ((k':Int)<(ss.length:Int))))
noncomputable def uW (C:ag) (ss:List V):(Int)→Option ((Int) ⊕ ((List V) ⊕ (Int × Bool))):=fun k'=>xQ C ss k' (fun y=>some (.inl y)) (fun r=>some (.inr r))
noncomputable def S6 (C:ag):cD:=fun β n ds k=>
 bif Nat.beq n 145 then ca Jt [true,false,false,true,true] [[0,2,3,0,0,0]] (@xP C) ds k else
 bif Nat.beq n 65 then ca Ju [true,false] [[0],[0,0,2]] (@xQ C) ds k else
 none
abbrev S7 (C:ag) (b:cA):Prop:=cB Try.prog ax C (S6 C) 106 (cQ Try.prog (ax.aZ 106)) (ax.sin 106).ba.length b
theorem aeT (C:ag):S7 C (.loop (av [1,1,0,1,0,0,1,0,0,1,0,1,0,1,0,0] FE)):=
 cg Jt [true,false,false,true,true] [[0,2,3,0,0,0]] (@xP C) (by kernel_rfl) (bm (bs:=[]) (by kernel_rfl) aw) (fun ds=>by kernel_rfl) (fun i x=>by kernel_rfl) (fun i x β k=>by kernel_rfl) (fun β ds k=>by kernel_rfl)
theorem aeU (C:ag):S7 C (.loop (av [1,1,0,1,0,0] FE)):=
 cg Ju [true,false] [[0],[0,0,2]] (@xQ C) (by kernel_rfl) (bm (bs:=[.loop (av [1,1,0,1,0,0,1,0,0,1,0,1,0,1,0,0] FE)]) (by kernel_rfl) (bD (aeT C) aw)) (fun ds=>by kernel_rfl) (fun i x=>by kernel_rfl) (fun i x β k=>by kernel_rfl) (fun β ds k=>by kernel_rfl)
noncomputable def FF (C:ag) (ss:List V):Option (List V):=
 bif decide (((ss.length:Int):Int)<2) then
  some [V.bool true,.list aa ss]
 else
  (Loop (uW C ss) 1).bind (b9 (fun (aeV:List V)=>
   some [V.bool false,.list aa aeV]) (un fun (aiP:Int) (wW:Bool)=>
   some [V.bool true,.list aa ss]))
theorem Ld {ss:List V} {r:Option (List V)} (h:FF CC ss=r):CC Er [.list aa ss]=r:=
 bn (key:=106) (L:=S6 CC) (bs:=[.loop (av [1,1,0,1,0,0] FE)]) (by kernel_rfl) (bD (aeU CC) aw) (bc (by kernel_rfl) h)
noncomputable def S8 (C:ag) (gp:List V):Option (List V):=
 (C z6 [.list aa gp]).bind fun r1=>
 (C Er [.list aa ((V.nth r1 0).toList)]).bind fun r2=>
 bif (V.nth r2 0).toBool then
  some [V.bool true,.list aa ((V.nth (r2.drop 1) 0).toList)]
 else
  some [V.bool false,.list aa ((V.nth (r2.drop 1) 0).toList)]
theorem aeW {gp:List V} {r:Option (List V)} (h:S8 CC gp=r):CC ud [.list aa gp]=r:=
 bn (key:=98) (L:=cq) (bs:=[]) (by kernel_rfl) aw (bc (by kernel_rfl) h)
noncomputable def S9 (C:ag) (fC fm:Int) (fD:List V) (fE fF:Int) (fX:List V):Option (List V):=
 (C bf [.int .i64 fC,.int .i64 fm,.list aa fD,.int .i64 fE,.int .i64 fF,.list aa fX]).bind fun r1=>
 some [.bool ((((V.nth r1 0).toInt):Int)==0)]
theorem aeX {fC fm:Int} {fD:List V} {fE fF:Int} {fX:List V} {r:Option (List V)} (h:S9 CC fC fm fD fE fF fX=r):CC pq [.int .i64 fC,.int .i64 fm,.list aa fD,.int .i64 fE,.int .i64 fF,.list aa fX]=r:=
 bn (key:=107) (L:=cq) (bs:=[]) (by kernel_rfl) aw (bc (by kernel_rfl) h)
end Go.AM
set_option maxRecDepth 100000
namespace Go.AM
open Go.Proofs Ex
def nC (prev:Ex):List Ex→List Ex
 | []=>[]
 | x::l=>if cmp x prev=0 then nC x l else x::nC x l
def iO:List Ex→List Ex
 | []=>[]
 | x::l=>x::nC x l
theorem Ta: ∀(m:List Ex) (prev x:Ex),nC prev (m++[x])=nC prev m++(if cmp x ((prev::m).getD m.length aW)=0 then [] else [x])
 | [],prev,x=>by simp only[List.nil_append,nC,List.length_nil,yr]
 | y::m,prev,x=>by
  have ih:=Ta m y x
  simp only[List.cons_append,nC,List.length_cons,List.getD_cons_succ]
  split
  ·exact ih
  ·rw[ih];rfl
theorem Tb {l:List Ex} {p:Nat} (h1:1≤p) (U:p<l.length):iO (l.take (p+1))=iO (l.take p)++(if cmp (l.getD p aW) (l.getD (p-1) aW)=0 then [] else [l.getD p aW]):=by
 match l,p,h1,U with
 | y::l,p+1,_,U=>
  simp only[List.length_cons] at U
  rw[List.take_succ_cons,List.take_succ_cons,iO,iO,kO (by omega),Ta]
  simp only[List.getD_cons_succ,eL,u5]
  rw[show min p l.length=p by omega]
  have:(y::l.take p).getD p aW=(y::l).getD p aW:=by
   match p with
   | 0=>rfl
   | q+1=>simp only[List.getD_cons_succ];rw[gR,gR,eK (by omega)]
  rw[this];rfl
theorem Tc: ∀(m:List Ex) (prev:Ex),(prev::m).Pairwise (fun x y=> ¬y.lx x)→jz (prev::nC prev m)∧∀x,x∈prev::nC prev m↔x∈prev::m
 | [],prev,_=>⟨by simp[nC],by simp[nC]⟩
 | y::m,prev,h=>by
  have h1:=sU.1 h
  obtain ⟨i1,i2⟩:=Tc m y h1.2
  rw[nC]
  by_cases hc:cmp y prev=0
  ·rw[aj hc]
   have:=uw _ _ hc
   subst this
   refine ⟨i1,fun x=> ?_⟩
   rw[i2 x];simp
  ·rw[ai hc]
   have aO:prev.lx y:=by
    by_cases U:prev.lx y
    ·exact U
    ·exact absurd (Ex.Q9 U (h1.1 y (by simp))) fun e=>hc (by rw[e];exact Ap _)
   refine ⟨sU.2 ⟨fun x hx=> ?_,i1⟩,fun x=> ?_⟩
   ·rcases dc.1 hx with rfl|hx
    ·exact aO
    ·exact Ex.Kq aO ((sU.1 i1).1 x hx)
   ·rw[dc,i2 x,←dc]
theorem aeY {l:List Ex} (h:l.Pairwise (fun x y=> ¬y.lx x)):jz (iO l)∧∀x,x∈iO l↔x∈l:=by
 match l,h with
 | [],_=>exact ⟨List.Pairwise.nil,fun _=>Iff.rfl⟩
 | y::l,h=>exact Tc l y h
theorem Td (a:Ex) (ha:a.Ok) (b:Ex) (hb:b.Ok):CC pq (bN a (bN b []))=some [.bool (decide (cmp a b=0))]:=by
 refine aeX ?_
 unfold S9
 refine (congrArg (fun o=>Option.bind o _) (QU a ha b hb)).trans ?_
 simp only[Option.bind_some,V.aT,V.toInt_int]
 rw[E7]
section
variable {l:List Ex} (hn:l.length≤1000000) (au: ∀k∈l,k.Ok)
include hn au
theorem aeZ {k:Nat}: ∀(d k2 i:Nat) (ss:List Ex),k+k2+d=l.length→1≤k2→i+1≤k+k2→ss.length=l.length→ss.take i=iO (l.take (k+k2))→ss.drop (k+k2-1)=l.drop (k+k2-1)→
  ∃t u eP,Loop (uV CC k (l.length-k)) ((i:Int),(k2:Int),ss.map enc)=some (((iO l).length:Int),u,t,List.map enc eP)∧eP.take (iO l).length=iO l∧eP.length=l.length:=by
 intro d
 induction d with
 | zero=>
  intro k2 i ss hj lZ hi hl ht hd
  have e0:l.take (k+k2)=l:=B5 (by omega)
  rw[e0] at ht
  have gF:i=(iO l).length:=by rw[←ht,eL];omega
  refine ⟨false,(k2:Int),ss,aX ?_,by rw[←gF];exact ht,hl⟩
  simp only[uV,xP,un,aQ,ay]
  rw[ai (by omega),cK (by omega),gF]
 | succ d ih=>
  intro k2 i ss hj lZ hi hl ht hd
  have hp:k+k2<l.length:=by omega
  have iA:ss.drop (k+k2)=l.drop (k+k2):=by
   have h:=congrArg (List.drop 1) hd
   rw[pQ,pQ] at h
   rwa [show k+k2-1+1=k+k2 by omega] at h
  have g1:=AK hl iA hp
  have g0:=AK hl hd (show k+k2-1<l.length by omega)
  have x1:(ss.map enc)[k+k2]? =some (l.getD (k+k2) aW).enc:=by rw[oD (by omega),g1]
  have x0:(ss.map enc)[k+(k2-1)]? =some (l.getD (k+k2-1) aW).enc:=by rw[show k+(k2-1)=k+k2-1 by omega,oD (by omega),g0]
  have w1:IntKind.wrap .i64 ((k2:Int)-1)=((k2-1:Nat):Int):=by rw[wrap64 (by omega) (by omega)];omega
  have t1:((k2:Nat):Int)<((l.length-k:Nat):Int):=by omega
  have t2:(0:Int)≤((k2:Nat):Int):=by omega
  have t3:(0:Int)≤((k2-1:Nat):Int):=by omega
  have t4:((k2-1:Nat):Int)<((l.length-k:Nat):Int):=by omega
  have t5:((i:Nat):Int)<(ss.length:Int):=by omega
  have t6:(0:Int)≤((i:Nat):Int):=by omega
  have bP: ∃y,(ss.map enc)[i]? =some y:=⟨_,oD (by omega)⟩
  obtain ⟨y,hy⟩:=bP
  have co:=Td (l.getD (k+k2) aW) (w8 au hp) (l.getD (k+k2-1) aW) (w8 au (by omega))
  have cs:=Tb (l:=l) (p:=k+k2) (by omega) hp
  by_cases he:cmp (l.getD (k+k2) aW) (l.getD (k+k2-1) aW)=0
  ·have bL:uV CC k (l.length-k) ((i:Int),(k2:Int),ss.map enc)=some (.inl ((i:Int),((k2+1:Nat):Int),ss.map enc)):=by
    simp only[uV,xP,un,aQ,ay,cO,w1,t1,t2,t3,t4,cE,Int.toNat_natCast,x1,x0,Option.bind_some,a9,bp,bh]
    refine (congrArg (fun o=>Option.bind o _) co).trans ?_
    simp only[Option.bind_some,V.aT,V.er]
    rw[eT he,pP,cond_false,wrap64 (by omega) (by omega)]
    rfl
   rw[bO bL]
   refine ih (k2+1) i ss (by omega) (by omega) (by omega) hl ?_ (by rw[show k+(k2+1)-1=k+k2 by omega];exact iA)
   rw[show k+(k2+1)=k+k2+1 by omega,cs,aj he,c6,ht]
  ·have bL:uV CC k (l.length-k) ((i:Int),(k2:Int),ss.map enc)=some (.inl (((i+1:Nat):Int),((k2+1:Nat):Int),(ss.set i (l.getD (k+k2) aW)).map enc)):=by
    simp only[uV,xP,un,aQ,ay,cO,w1,t1,t2,t3,t4,t5,t6,cE,Int.toNat_natCast,x1,x0,hy,Option.bind_some,a9,bp,bh]
    refine (congrArg (fun o=>Option.bind o _) co).trans ?_
    simp only[Option.bind_some,V.aT,V.er]
    rw[cK he,sV,cond_true,wrap64 (by omega) (by omega),wrap64 (by omega) (by omega),←dD,yu]
    rfl
   rw[bO bL]
   refine ih (k2+1) (i+1) (ss.set i (l.getD (k+k2) aW)) (by omega) (by omega) (by omega) (by simpa using hl) ?_ ?_
   ·rw[kO (by rw[nH];omega),B7 (bW i),ht,show k+(k2+1)=k+k2+1 by omega,cs,ai he]
    simp[show i<ss.length by omega]
   ·rw[show k+(k2+1)-1=k+k2 by omega,B8 (by omega),iA]
theorem ae0: ∀(d p:Nat),p+d=l.length→1≤p→iO (l.take p)=l.take p→
  (iO l=l∧∃t,Loop (uW CC (l.map enc)) (p:Int)=some (.inr t))∨Loop (uW CC (l.map enc)) (p:Int)=some (.inl ((iO l).map enc)):=by
 intro d
 induction d with
 | zero=>
  intro p hp h1 hc
  obtain rfl:p=l.length:=by omega
  rw[pN] at hc
  refine .inl ⟨hc,((l.length:Int),false),aX ?_⟩
  simp only[uW,xQ,aQ,ay]
  rw[ai (by omega),cK (by omega)]
 | succ d ih=>
  intro p hp h1 hc
  have bZ:p<l.length:=by omega
  have cs:=Tb (l:=l) h1 bZ
  have co:=Td (l.getD p aW) (w8 au bZ) (l.getD (p-1) aW) (w8 au (by omega))
  have x1:(l.map enc)[p]? =some (l.getD p aW).enc:=oD bZ
  have x0:(l.map enc)[p-1]? =some (l.getD (p-1) aW).enc:=oD (by omega)
  have w1:IntKind.wrap .i64 ((p:Int)-1)=((p-1:Nat):Int):=by rw[wrap64 (by omega) (by omega)];omega
  have t1:((p:Nat):Int)<(l.length:Int):=by omega
  have t2:(0:Int)≤((p:Nat):Int):=by omega
  have t3:(0:Int)≤((p-1:Nat):Int):=by omega
  have t4:((p-1:Nat):Int)<(l.length:Int):=by omega
  have t5:((p:Nat):Int)≤(l.length:Int):=by omega
  by_cases he:cmp (l.getD p aW) (l.getD (p-1) aW)=0
  ·refine .inr (aX ?_)
   obtain ⟨t,u,eP,e1,e2,e3⟩:=aeZ hn au (k:=p) (l.length-(p+1)) 1 p l (by omega) (by omega) (by omega) rfl (by rw[cs,aj he,c6,hc]) rfl
   have hm:(iO l).length≤eP.length:=by
    have:=congrArg List.length e2
    rw[eL] at this
    omega
   have m1:(0:Int)≤(((iO l).length:Nat):Int):=by omega
   have m2:(((iO l).length:Nat):Int)≤((eP.map enc).length:Int):=by rw[aQ];omega
   simp only[uW,xQ,aQ,ay,cO,w1,t1,t2,t3,t4,t5,cE,Int.toNat_natCast,x1,x0,Option.bind_some,a9,bp,bh]
   refine (congrArg (fun o=>Option.bind o _) co).trans ?_
   simp only[Option.bind_some,V.aT,V.er]
   rw[eT he,cond_true]
   refine (congrArg (fun o=>Option.bind o _) e1).trans ?_
   simp only[Option.bind_some,un,cO,ay,Int.toNat_natCast]
   rw[aj m1,aj m2,aj m1,aj (by simp only[bR,eL,sS,oO,aQ];omega),Fh _ _ _ hm,e2]
  ·have bL:uW CC (l.map enc) (p:Int)=some (.inl ((p+1:Nat):Int)):=by
    simp only[uW,xQ,aQ,ay,cO,w1,t1,t2,t3,t4,cE,Int.toNat_natCast,x1,x0,Option.bind_some,a9,bp,bh]
    refine (congrArg (fun o=>Option.bind o _) co).trans ?_
    simp only[Option.bind_some,V.aT,V.er]
    rw[cK he,cond_false,wrap64 (by omega) (by omega)]
    rfl
   rw[bO bL]
   exact ih (p+1) (by omega) (by omega) (by rw[cs,ai he,hc,←kO bZ])
theorem ae1: ∃b,CC Er [.list aa (l.map enc)]=some [.bool b,.list aa ((iO l).map enc)]:=by
 by_cases U:l.length<2
 ·refine ⟨true,Ld ?_⟩
  unfold FF
  rw[aQ,ay,aj (by omega)]
  match l,U with
  | [],_=>rfl
  | [k],_=>rfl
 ·rcases ae0 hn au (l.length-1) 1 (by omega) (by omega) (by
   match l,U with
   | k::l,_=>rfl) with ⟨h3,t,h4⟩|h4
  ·refine ⟨true,Ld ?_⟩
   unfold FF
   rw[aQ,ay,ai (by omega)]
   refine (congrArg (fun o=>Option.bind o _) h4).trans ?_
   rw[h3];rfl
  ·refine ⟨false,Ld ?_⟩
   unfold FF
   rw[aQ,ay,ai (by omega)]
   refine (congrArg (fun o=>Option.bind o _) h4).trans ?_
   rfl
theorem ae2: ∃R:List Ex,CC z6 [.list aa (l.map enc)]=some [.list aa (R.map enc)]∧R.Perm l∧R.Pairwise (fun x y=> ¬y.lx x):=by
 have hx: ∃L:List SX.XE,L.map SX.XE.e=l:=by
  clear hn
  induction l with
  | nil=>exact ⟨[],rfl⟩
  | cons k l ih=>
   obtain ⟨L,hL⟩:=ih fun k hk=>au k (by simp[hk])
   exact ⟨⟨k,au k (by simp)⟩::L,by rw[cF,hL]⟩
 obtain ⟨L,rfl⟩:=hx
 have he: ∀L:List SX.XE,L.map SX.XE.enc=(L.map SX.XE.e).map enc:=fun L=>by rw[List.map_map];rfl
 obtain ⟨R,e1,h1,U⟩:=SX.aeS L (by rw[aQ] at hn;omega)
 refine ⟨R.map SX.XE.e,?_,h1.map _,List.pairwise_map.2 U⟩
 rw[←he,←he];exact e1
theorem Te: ∃b,CC ud [.list aa (l.map enc)]=some [.bool b,.list aa ((l.foldl dG []).map enc)]:=by
 obtain ⟨R,e1,h1,U⟩:=ae2 hn au
 obtain ⟨b,e2⟩:=ae1 (l:=R) (by rw[h1.length_eq];exact hn) fun k hk=>au k (h1.mem_iff.1 hk)
 obtain ⟨c1,c2⟩:=aeY U
 have hc:iO R=l.foldl dG []:=Kr c1 Fb fun x=>by rw[c2,xj,h1.mem_iff]
 rw[hc] at e2
 refine ⟨b,aeW ?_⟩
 unfold S8
 refine (congrArg (fun o=>Option.bind o _) e1).trans ?_
 simp only[Option.bind_some,V.aT,V.j4]
 refine (congrArg (fun o=>Option.bind o _) e2).trans ?_
 cases b<;>rfl
end
end Go.AM
